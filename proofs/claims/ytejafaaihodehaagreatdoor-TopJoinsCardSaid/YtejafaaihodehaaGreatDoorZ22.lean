/- Part 22. -/
import Derived.Test.YtejafaaihodehaaGreatDoorZ06
import Derived.Deep.LoopGhost
import Derived.BigRegion
set_option linter.all false
set_option maxRecDepth 100000
set_option maxHeartbeats 8000000
namespace Go.Proofs.YtejafaaihodehaaGreatDoor
open Go Go.RowKit Tryz
theorem yt{p q:Bt}(h:Lib.hasPrefix p q=true):q.length<=p.length:=eT h
theorem PK(a q:Bt):(Lib.trimPrefix a q).length<=a.length:=by
 unfold Lib.trimPrefix;split
 ·rw[aj];omega
 ·exact dv _
theorem indexByte_ge(l:Bt)(c:UInt8):-1<=Lib.indexByte l c:=by
 induction l with
 |nil=>simp[Lib.indexByte]
 |cons b l ih=>
  unfold Lib.indexByte;split
  ·omega
  ·split<;>omega
theorem yu(l:Bt)(c:UInt8):Lib.indexByte l c<l.length:=by
 induction l with
 |nil=>simp[Lib.indexByte]
 |cons b l ih=>
  unfold Lib.indexByte;rw[ak];split
  ·omega
  ·split<;>omega
theorem CV{p q:Bt}(h:p=q):((bs p).toList==q)=true/\(bs p).toList=q:=by rw[bQ,h];simp
theorem yv{p q:Bt}(h:¬p=q):((bs p).toList==q)=false/\¬(bs p).toList=q:=by rw[bQ,ai];exact⟨h,h⟩
theorem vH(p:Bt)(k:Nat):(bs p).extract k (bs p).size=bs (p.drop k):=by rw[gW,bJ,aM]
theorem qz(p:Bt)(k:Nat):(bs p).extract 0 k=bs (p.take k):=by rw[gW,bm]
theorem CW(n:Nat)(p out:Bt)(h:p≠[]):iI (n+1) p out=iI n (dQ p out).1 (dQ p out).2:=by rw[iI,aa h]
theorem Fj(n:Nat)(out:Bt):iI n [] out=out:=by cases n<;>simp[iI]
theorem Gu(p out:Bt):dQ p out=if Lib.hasPrefix p [46,46,47]then(p.drop 3,out)
 else if Lib.hasPrefix p [46,47]then(p.drop 2,out)
 else if Lib.hasPrefix p [47,46,47]then(p.drop 2,out)
 else if p=[47,46]then([47],out)
 else if Lib.hasPrefix p [47,46,46,47]||p==[47,46,46]then(47::Lib.trimPrefix (p.drop 3) [47],out.take (dc 47 out-1))
 else if p=[46]\/p=[46,46]then([],out)
 else if Lib.indexByte (p.drop 1) 47+1=0 then([],out++p)
 else(p.drop (Lib.indexByte (p.drop 1) 47+1).toNat,out++p.take (Lib.indexByte (p.drop 1) 47+1).toNat):=rfl
theorem Be(p0:Bt)(w:World)(hp:p0.length<=100000):
 Calls prog 184 #[.string (bs p0)] w fun e w'=>e=.returned (.string (bs (nR p0)))/\Below w.heap.size w w':=by
 have Fk:Hy (nR p0=iI p0.length p0 []):=rfl;generalize nR p0=R at*;go_enter func184,ntmps184;go_wp2;go_step3;go_wp2;go_step3;go_wp2;go_loopg [0,3] p0.length (fun g pv ov wr=>∃p out:Bt,pv=.string (bs p)/\ov=.string (bs out)/\p.length<=g/\Hy (R=iI g p out)/\p.length+out.length<=100000/\Hy (Below w.heap.size w wr))
 case atStart=>exact⟨p0,[],rfl,rfl,dv _,Fk.o,by simpa using hp,aF _ _⟩
 case round=>
  clear Fk hp;obtain⟨p,out,rfl,rfl,hpg,HR,hpo,HB⟩:=hrel;by_cases MU:p=[]
  ·subst MU;have gN:Hy (R=out):=by rw[Hy,HR.o,Fj]
   have e1:(bs []).toList=[]:=by rw[bQ]
   have e2:(bs []).toList.isEmpty=true:=by rw[e1];rfl
   clear HR;go_wp2_with fail
   try rw[Exit.noGoto_ret]
   go_ret;exact⟨by rw[gN.o];rfl,HB.o⟩
  ·obtain⟨g,rfl⟩:∃g,gk=g+1:=⟨gk-1,by have:=List.length_pos_iff.2 MU;omega⟩;have gN:Hy (R=iI g (dQ p out).1 (dQ p out).2):=by rw[Hy,HR.o,CW g p out MU]
   have e1:¬(bs p).toList=[]:=by rw[bQ];exact MU
   have e2:(bs p).toList.isEmpty=false:=by rw[bQ];cases p with|nil=>exact aX rfl MU|cons _ _=>rfl
   have hpl:0<p.length:=List.length_pos_iff.2 MU;have lQ:=bJ p;have Tq:=bJ out;clear HR MU;obtain⟨wo,rfl⟩:∃wo:World,wo=wr:=⟨_,rfl⟩;have cg:Below wo.heap.size wo (wo.alloc (.cells #[.string ⟨#[46,46,47]⟩,.string ⟨#[46,47]⟩] 9)):=cU _ _;have mP:=bL.new wo 9 #[.string ⟨#[46,46,47]⟩,.string ⟨#[46,47]⟩];have kM:=HB.o.trans (cg.mono HB.o.size);obtain⟨w5,tF⟩:∃w5,w5=wo.alloc (.cells #[.string ⟨#[46,46,47]⟩,.string ⟨#[46,47]⟩] 9):=⟨_,rfl⟩;rw[<-tF]at mP kM;have kf:=bD kM;have HX:=bD mP;have ZI:=bD tF;clear cg mP HB kM tF;have HCD:=bD (Gu p out);have Fi:Hy (p.length<=g+1/\p.length+out.length<=100000):=⟨hpg,hpo⟩;go_wp2_with fail;go_loopg [0,13] 2 (fun g2 pv jv wx=>∃j:Nat,j+g2=2/\pv=.string (bs p)/\jv=.int .i64 j/\Hy (1<=j->Lib.hasPrefix p [46,46,47]=false)/\Hy (2<=j->Lib.hasPrefix p [46,47]=false)/\
    wx=w5)
   case atStart=>exact⟨0,rfl,rfl,rfl,fun h=>by omega,fun h=>by omega,ZI.o.symm⟩
   case round=>
    obtain⟨j,hj,rfl,rfl,H1,H2,hwx⟩:=hrel;have x0:=HX.o.cell 0;have x1:=HX.o.cell 1;subst hwx;obtain⟨wi,rfl⟩:∃wi:World,wi=wr:=⟨_,rfl⟩;clear HX e1 e2 ZI;have Wg:j=0\/j=1\/j=2:=by omega
    rcases Wg with rfl|rfl|rfl
    ·clear H1 H2 x1;go_wp2_with fail;refine(jd (bs p) ⟨#[46,46,47]⟩ wi).mono ?_;rintro e w2 ⟨rfl,rfl⟩;rw[eB,show L ⟨#[46,46,47]⟩=[46,46,47]from rfl];unfold eI;cases hq:Lib.hasPrefix p [46,46,47]with
     |true=>
      have QH:=yt hq;rw[ak,ak,ak,aD]at QH;have HS:Hy (dQ p out=(p.drop 3,out)):=by rw[Hy,HCD.o,ae hq]
      have HL:Hy ((p.drop 3).length<=g):=by rw[Hy,aj];omega
      have HT:Hy ((p.drop 3).length+out.length<=100000):=by rw[Hy,aj];omega
      go_wp2_with fail;go_roundg g
      case measure=>omega
      case rel=>exact⟨_,_,rfl,rfl,by have:=HL.o;omega,by rw[Hy,gN.o,HS.o],by have:=HL.o;have:=HT.o;omega,kf.o⟩
     |false=>
      go_wp2_with fail;go_roundg 1
      case measure=>omega
      case rel=>exact⟨1,rfl,rfl,by go_num,fun _=>hq,fun h=>by omega,by first|exact trivial|rfl⟩
    ·have tQ:=H1.o (by omega);clear H1 H2 x0;go_wp2_with fail;refine(jd (bs p) ⟨#[46,47]⟩ wi).mono ?_;rintro e w2 ⟨rfl,rfl⟩;rw[eB,show L ⟨#[46,47]⟩=[46,47]from rfl];unfold eI;cases hq:Lib.hasPrefix p [46,47]with
     |true=>
      have QH:=yt hq;rw[ak,ak,aD]at QH;have HS:Hy (dQ p out=(p.drop 2,out)):=by rw[Hy,HCD.o,aa (by rw[tQ];simp),ae hq]
      have HL:Hy ((p.drop 2).length<=g):=by rw[Hy,aj];omega
      have HT:Hy ((p.drop 2).length+out.length<=100000):=by rw[Hy,aj];omega
      go_wp2_with fail;go_roundg g
      case measure=>omega
      case rel=>exact⟨_,_,rfl,rfl,by have:=HL.o;omega,by rw[Hy,gN.o,HS.o],by have:=HL.o;have:=HT.o;omega,kf.o⟩
     |false=>
      go_wp2_with fail;go_roundg 0
      case measure=>omega
      case rel=>exact⟨2,rfl,rfl,by go_num,fun _=>tQ,fun _=>hq,by first|exact trivial|rfl⟩
    ·have tQ:=H1.o (by omega);have Ix:=H2.o (by omega);have ZJ:Hy (dQ p out=if Lib.hasPrefix p [47,46,47]then(p.drop 2,out)
      else if p=[47,46]then([47],out)
      else if Lib.hasPrefix p [47,46,46,47]||p==[47,46,46]then(47::Lib.trimPrefix (p.drop 3) [47],out.take (dc 47 out-1))
      else if p=[46]\/p=[46,46]then([],out)
      else if Lib.indexByte (p.drop 1) 47+1=0 then([],out++p)
      else(p.drop (Lib.indexByte (p.drop 1) 47+1).toNat,out++p.take (Lib.indexByte (p.drop 1) 47+1).toNat)):=by
      rw[Hy,HCD.o,aa (by rw[tQ];simp),aa (by rw[Ix];simp)]
     clear H1 H2 x0 x1 HCD;go_wp2_with fail;refine(strings_HasPrefix (bs p) ⟨#[47,46,47]⟩ wi).mono ?_;rintro e w2 ⟨rfl,oM⟩;have oM:=oM.symm;subst oM;rw[ga,show(⟨#[47,46,47]⟩:ByteArray).data.toList=[47,46,47]from rfl];have Tr:=vH p 2;cases Gr:Lib.hasPrefix p [47,46,47]with
     |true=>
      have QH:=yt Gr;rw[ak,ak,ak,aD]at QH;have h2s:(2:Int)<=((bs p).size:Int):=by omega
      have HS:Hy (dQ p out=(p.drop 2,out)):=by rw[Hy,ZJ.o,ae Gr]
      have HL:Hy ((p.drop 2).length<=g):=by rw[Hy,aj];omega
      have HT:Hy ((p.drop 2).length+out.length<=100000):=by rw[Hy,aj];omega
      have Wo:=bD Tr;clear Tr;go_wp2_with fail;go_roundg g
      case measure=>omega
      case rel=>exact⟨_,_,congrArg Value.string Wo.o,rfl,by have:=HL.o;omega,by rw[Hy,gN.o,HS.o],by have:=HL.o;have:=HT.o;omega,kf.o⟩
     |false=>
      have ZK:Hy (dQ p out=if p=[47,46]then([47],out)
       else if Lib.hasPrefix p [47,46,46,47]||p==[47,46,46]then(47::Lib.trimPrefix (p.drop 3) [47],out.take (dc 47 out-1))
       else if p=[46]\/p=[46,46]then([],out)
       else if Lib.indexByte (p.drop 1) 47+1=0 then([],out++p)
       else(p.drop (Lib.indexByte (p.drop 1) 47+1).toNat,out++p.take (Lib.indexByte (p.drop 1) 47+1).toNat)):=by
       rw[Hy,ZJ.o,aa (by rw[Gr];simp)]
      clear ZJ Tr tQ Ix;by_cases B9:p=[47,46]
      ·have hl4:p.length=2:=by rw[B9];rfl
       obtain⟨e1,e2⟩:=CV B9;have HS:Hy (dQ p out=([47],out)):=by rw[Hy,ZK.o,ae B9]
       have HL:Hy (([47]:Bt).length<=g):=by rw[Hy,aR];omega
       have HT:Hy (([47]:Bt).length+out.length<=100000):=by rw[Hy,aR];omega
       clear B9;go_wp2_with fail;go_roundg g
       case measure=>omega
       case rel=>exact⟨_,_,rfl,rfl,by have:=HL.o;omega,by rw[Hy,gN.o,HS.o],by have:=HL.o;have:=HT.o;omega,kf.o⟩
      ·obtain⟨e1,e2⟩:=yv B9;have QI:Hy (dQ p out=if Lib.hasPrefix p [47,46,46,47]||p==[47,46,46]then(47::Lib.trimPrefix (p.drop 3) [47],out.take (dc 47 out-1))
        else if p=[46]\/p=[46,46]then([],out)
        else if Lib.indexByte (p.drop 1) 47+1=0 then([],out++p)
        else(p.drop (Lib.indexByte (p.drop 1) 47+1).toNat,out++p.take (Lib.indexByte (p.drop 1) 47+1).toNat)):=by
        rw[Hy,ZK.o,aa B9]
       clear ZK B9;go_wp2_with fail;refine(strings_HasPrefix (bs p) ⟨#[47,46,46,47]⟩ wi).mono ?_;rintro e w2 ⟨rfl,oM⟩;have oM:=oM.symm;subst oM;rw[ga,show(⟨#[47,46,46,47]⟩:ByteArray).data.toList=[47,46,46,47]from rfl];clear e1 e2;obtain⟨c,hc⟩:∃c,c=(Lib.hasPrefix p [47,46,46,47]||p==[47,46,46]):=⟨_,rfl⟩;rw[<-hc]at QI;cases Cv:c with
       |true=>
        rw[Cv]at hc QI;have QH:3<=p.length:=by
         rcases Bool.or_eq_true_iff.1 hc.symm with h|h
         ·have:=yt h;rw[ak,ak,ak,ak,aD]at this;omega
         ·rw[beq_iff_eq.1 h];exact dv _
        have htr:=PK (p.drop 3) [47];rw[aj]at htr;have HS:Hy (dQ p out=(47::Lib.trimPrefix (p.drop 3) [47],out.take (dc 47 out-1))):=by rw[Hy,QI.o];rfl
        have HL:Hy ((47::Lib.trimPrefix (p.drop 3) [47]).length<=g):=by rw[Hy,ak];omega
        have HT:Hy ((47::Lib.trimPrefix (p.drop 3) [47]).length+(out.take (dc 47 out-1)).length<=100000):=by rw[Hy,ak,ay];omega
        have h3s:(3:Int)<=((bs p).size:Int):=by omega
        have hd3:=vH p 3;rw[lQ]at hd3;have HC:=bD hc;clear hc;have Yb:=bD (strings_TrimPrefix (bs (p.drop 3)) ⟨#[47]⟩ wi);rw[ga,show(⟨#[47]⟩:ByteArray).data.toList=[47]from rfl]at Yb;have hll:(⟨#[47]⟩:ByteArray).size+(⟨(Lib.trimPrefix (p.drop 3) [47]).toArray⟩:ByteArray).size<=200000:=by
         show 1+(bs (Lib.trimPrefix (p.drop 3) [47])).size<=200000
         rw[bJ];omega
        have VI:=yn 47 out;have PE:=bD (pO (bs out) 47 wi (by omega));rw[eB]at PE;have hlf:(Hy (dc 47 out=0)/\(dc 47 out:Int)-1=-1)\/∃i:Nat,Hy (dc 47 out=i+1)/\(dc 47 out:Int)-1=(i:Int)/\(0:Int)<=(i:Int)/\(i:Int)<=((bs out).size:Int):=by
         by_cases h0:dc 47 out=0
         ·exact .inl ⟨h0,by omega⟩
         ·exact .inr ⟨dc 47 out-1,by rw[Hy];omega,by omega,by omega,by omega⟩
        cases Wp:Lib.hasPrefix p [47,46,46,47]with
        |true=>
         go_wp2_with fail;refine Yb.o.mono ?_;rintro e w2 ⟨rfl,oM⟩;have oM:=oM.symm;subst oM;go_wp2_with fail;refine PE.o.mono ?_;rintro e w2 ⟨rfl,oM⟩;subst oM;rcases hlf with⟨h0,hz⟩|⟨i,h0,hz,MT,X9⟩
         ·rw[hz];have HZ:Hy (out.take (dc 47 out-1)=out.take 0):=by rw[Hy,h0.out]
          clear hz;go_wp2_with fail;go_roundg g
          case measure=>omega
          case rel=>exact⟨47::Lib.trimPrefix (p.drop 3) [47],out.take (dc 47 out-1),congrArg Value.string (jc [47] _),congrArg Value.string (by rw[HZ.o];exact qz out 0),by have:=HL.o;omega,by rw[Hy,gN.o,HS.o],by have:=HL.o;have:=HT.o;omega,kf.o⟩
         ·rw[hz];have HZ:Hy (out.take (dc 47 out-1)=out.take i):=by rw[Hy,h0.out,Nat.add_sub_cancel]
          clear hz;go_wp2_with fail;go_roundg g
          case measure=>omega
          case rel=>exact⟨47::Lib.trimPrefix (p.drop 3) [47],out.take (dc 47 out-1),congrArg Value.string (jc [47] _),congrArg Value.string (by rw[HZ.o];exact qz out i),by have:=HL.o;omega,by rw[Hy,gN.o,HS.o],by have:=HL.o;have:=HT.o;omega,kf.o⟩
        |false=>
         have h5:p=[47,46,46]:=by have hc:=HC.o;rw[Wp,Bool.false_or]at hc;exact beq_iff_eq.1 hc.symm
         obtain⟨e1,e2⟩:=CV h5;clear h5;go_wp2_with fail;refine Yb.o.mono ?_;rintro e w2 ⟨rfl,oM⟩;have oM:=oM.symm;subst oM;go_wp2_with fail;refine PE.o.mono ?_;rintro e w2 ⟨rfl,oM⟩;subst oM;rcases hlf with⟨h0,hz⟩|⟨i,h0,hz,MT,X9⟩
         ·rw[hz];have HZ:Hy (out.take (dc 47 out-1)=out.take 0):=by rw[Hy,h0.out]
          clear hz;go_wp2_with fail;go_roundg g
          case measure=>omega
          case rel=>exact⟨47::Lib.trimPrefix (p.drop 3) [47],out.take (dc 47 out-1),congrArg Value.string (jc [47] _),congrArg Value.string (by rw[HZ.o];exact qz out 0),by have:=HL.o;omega,by rw[Hy,gN.o,HS.o],by have:=HL.o;have:=HT.o;omega,kf.o⟩
         ·rw[hz];have HZ:Hy (out.take (dc 47 out-1)=out.take i):=by rw[Hy,h0.out,Nat.add_sub_cancel]
          clear hz;go_wp2_with fail;go_roundg g
          case measure=>omega
          case rel=>exact⟨47::Lib.trimPrefix (p.drop 3) [47],out.take (dc 47 out-1),congrArg Value.string (jc [47] _),congrArg Value.string (by rw[HZ.o];exact qz out i),by have:=HL.o;omega,by rw[Hy,gN.o,HS.o],by have:=HL.o;have:=HT.o;omega,kf.o⟩
       |false=>
        rw[Cv]at hc QI;obtain⟨Wp,hq6⟩:=Bool.or_eq_false_iff.1 hc.symm;have hq6:¬p=[47,46,46]:=by simpa using hq6
        obtain⟨e1,e2⟩:=yv hq6;have Wq:Hy (dQ p out=if p=[46]\/p=[46,46]then([],out)
         else if Lib.indexByte (p.drop 1) 47+1=0 then([],out++p)
         else(p.drop (Lib.indexByte (p.drop 1) 47+1).toNat,out++p.take (Lib.indexByte (p.drop 1) 47+1).toNat)):=by
         rw[Hy,QI.o,aa (by simp)]
        rw[Wp];clear hc Cv QI Wp hq6;by_cases Yc:p=[46]
        ·obtain⟨f1,f2⟩:=CV Yc;have hl4:p.length=1:=by rw[Yc];rfl
         have HS:Hy (dQ p out=([],out)):=by rw[Hy,Wq.o,ae (.inl Yc)]
         have HL:Hy (([]:Bt).length<=g):=ax _;have HT:Hy (([]:Bt).length+out.length<=100000):=by rw[Hy,aD];omega
         clear Yc;go_wp2_with fail;go_roundg g
         case measure=>omega
         case rel=>exact⟨_,_,rfl,rfl,by have:=HL.o;omega,by rw[Hy,gN.o,HS.o],by have:=HL.o;have:=HT.o;omega,kf.o⟩
        ·obtain⟨f1,f2⟩:=yv Yc;by_cases ZL:p=[46,46]
         ·obtain⟨f3,f4⟩:=CV ZL;have hl4:p.length=2:=by rw[ZL];rfl
          have HS:Hy (dQ p out=([],out)):=by rw[Hy,Wq.o,ae (.inr ZL)]
          have HL:Hy (([]:Bt).length<=g):=ax _;have HT:Hy (([]:Bt).length+out.length<=100000):=by rw[Hy,aD];omega
          clear Yc ZL;go_wp2_with fail;go_roundg g
          case measure=>omega
          case rel=>exact⟨_,_,rfl,rfl,by have:=HL.o;omega,by rw[Hy,gN.o,HS.o],by have:=HL.o;have:=HT.o;omega,kf.o⟩
         ·obtain⟨f3,f4⟩:=yv ZL;have Ts:Hy (dQ p out=if Lib.indexByte (p.drop 1) 47+1=0 then([],out++p)
           else(p.drop (Lib.indexByte (p.drop 1) 47+1).toNat,out++p.take (Lib.indexByte (p.drop 1) 47+1).toNat)):=by
           rw[Hy,Wq.o,aa (fun h=>h.elim Yc ZL)]
          have QJ:=vH p 1;rw[lQ]at QJ;have h1s:(1:Int)<=(p.length:Int):=by omega
          have HIB:=bD (strings_IndexByte (bs (p.drop 1)) 47 wi);rw[ga,show(47:Int).toNat.toUInt8=47 from rfl,List.drop_one]at HIB;have Nc:=indexByte_ge (p.drop 1) 47;have bW:=yu (p.drop 1) 47;rw[aj]at bW;rw[List.drop_one]at Nc bW Ts QJ;generalize Lib.indexByte p.tail 47=z at*;clear Yc ZL Wq;go_wp2_with fail;refine HIB.o.mono ?_;rintro e w2 ⟨rfl,oM⟩;have oM:=oM.symm;subst oM;clear e1 e2 f1 f2 f3 f4 QJ;by_cases hz:z+1=0
          ·have rq:z=-1:=by omega
           subst rq;have HS:Hy (dQ p out=([],out++p)):=by rw[Hy,Ts.o,ae (by omega)]
           have HL:Hy (([]:Bt).length<=g):=ax _;have HT:Hy (([]:Bt).length+(out++p).length<=100000):=by rw[Hy,aD,af];omega
           have so:(bs p).extract 0 p.length=bs p:=by rw[qz,aM]
           have htd:(bs p).extract p.length p.length=bs []:=by rw[gW,aM,bu]
           have yw:(bs out).size+(bs p).size<=1000000:=by omega
           have mq:=bD so;have HTD:=bD htd;clear hz Nc bW so htd HIB Ts;go_wp2_with fail;go_quiet (fail);go_wp2_with fail;go_roundg g
           case measure=>omega
           case rel=>exact⟨[],out++p,congrArg Value.string (by first|rfl|exact HTD.o),congrArg Value.string (by first|exact jc _ _|(rw[mq.o];exact jc _ _)),ax _,by rw[Hy,gN.o,HS.o],by have:=HT.o;omega,below_drewN kf.o _⟩
          ·have hn0:0<=z+1:=by omega
           have tQ:z+1<=(p.length:Int):=by omega
           have hzb:(z+1==0)=false:=by rw[ai];exact hz
           have HS:Hy (dQ p out=(p.drop (z+1).toNat,out++p.take (z+1).toNat)):=by rw[Hy,Ts.o,aa hz]
           have HL:Hy ((p.drop (z+1).toNat).length<=g):=by rw[Hy,aj];omega
           have HT:Hy ((p.drop (z+1).toNat).length+(out++p.take (z+1).toNat).length<=100000):=by rw[Hy,aj,af,ay];omega
           have so:(bs p).extract 0 (z+1).toNat=bs (p.take (z+1).toNat):=qz _ _;have htd:(bs p).extract (z+1).toNat p.length=bs (p.drop (z+1).toNat):=by rw[<-lQ];exact vH _ _
           have yw:(bs out).size+(bs (p.take (z+1).toNat)).size<=1000000:=by rw[bJ,bJ,ay];omega
           clear hz Nc bW HIB Ts;go_wp2_with fail;go_quiet (fail);go_wp2_with fail;go_roundg g
           case measure=>omega
           case rel=>exact⟨p.drop (z+1).toNat,out++p.take (z+1).toNat,rfl,congrArg Value.string (jc _ _),by have:=HL.o;omega,by rw[Hy,gN.o,HS.o],by have:=HT.o;omega,below_drewN kf.o _⟩
theorem oz{u:eG}(h:gp u=true):0<=u.port/\u.port<=65535/\(lL u).length<=500:=by
 unfold gp at h;have h:=(Bool.and_eq_true_iff.1 h).1;unfold okF at h;simp only[aG,aH]at h;exact⟨h.2.2.2.2.1,h.2.2.2.2.2.1,h.2.2.2.2.2.2⟩
theorem sA(u:eG):u.path.length<=(lL u).length:=by
 unfold lL;simp only[af];omega
theorem Iy(u:eG)(hs:u.kB)(w:World)(hg:eK w):
 Calls prog 164 #[u.val] w fun e w'=>e=.returned (.tuple #[.string (bs (uf u).1),.int .i64 (uf u).2])/\Below w.heap.size w w':=by
 have HP:Hy (uf u=if gp u then(lL u,0)else([],1)):=rfl;have hX:=bL.new w 64 (ch u);have hB:Below w.heap.size w (w.alloc (.cells (ch u) 64)):=cU _ _;have HX:=bD hX;have HB:=bD hB;have HG:=bD (hg.below hB);clear hX hB hg;have HUR:=bD (fun W hg=>mU u hs W hg);have HUW:=bD (fun(h:gp u=true) W hg=>yo u hs (oz h).1 W hg);obtain⟨mA,eX,port,path,asks,cI⟩:=u;simp only[eG.val,ch]at*;generalize uf ⟨mA,eX,port,path,asks,cI⟩=PF at*;go_enter func164,ntmps164;go_wp2_with fail;refine(HUR.o _ HG.o).mono ?_;rintro e w1 ⟨rfl,dG⟩;have Gq:=bD (HX.o.below dG HX.o.lt);have hJ:=bD (HB.o.trans (dG.mono HB.o.size));have tj:=bD (HG.o.below dG);clear dG HX HB HG;cases po:gp ⟨mA,eX,port,path,asks,cI⟩with
 |false=>
  have j6:Hy (PF=([],1)):=by rw[Hy,HP.o,po];rfl
  go_wp2_with fail;go_ret2;exact⟨by rw[j6.o];rfl,hJ.o⟩
 |true=>
  have j6:Hy (PF=(lL ⟨mA,eX,port,path,asks,cI⟩,0)):=by rw[Hy,HP.o,po];rfl
  obtain⟨x0,x1,x2,x3,x4,x5⟩:=nB Gq.o;go_wp2_with fail;refine(HUW.o po _ tj.o).mono ?_;rintro e w2 ⟨rfl,cu⟩;have dm:=bD (hJ.o.trans (cu.mono hJ.o.size));clear cu;go_wp2_with fail;go_ret2;exact⟨by rw[j6.o];rfl,dm.o⟩
theorem Fl(p out:Bt):(dQ p out).1.length+(dQ p out).2.length<=p.length+out.length:=by
 rw[Gu];have ht:=PK (p.drop 3) [47];rw[aj]at ht;split
 ·simp only[aj];omega
 ·split
  ·simp only[aj];omega
  ·split
   ·simp only[aj];omega
   ·split
    ·rename_i h;rw[h];simp
    ·split
     ·rename_i h;have QH:3<=p.length:=by
       rcases Bool.or_eq_true_iff.1 h with h|h
       ·have:=yt h;simp only[ak,aD]at this;omega
       ·rw[beq_iff_eq.1 h];exact dv _
      simp only[ak,ay];omega
     ·split
      ·simp
      ·split
       ·simp only[af,aD];omega
       ·simp only[af,aj,ay];omega
theorem wH:∀(n:Nat) (p out:Bt),(iI n p out).length<=p.length+out.length
 |0,p,out=>by rw[iI];omega
 |n+1,p,out=>by
  rw[iI];split
  ·omega
  ·have h1:=wH n (dQ p out).1 (dQ p out).2;have h2:=Fl p out;omega
theorem Gv(p:Bt):(nR p).length<=p.length:=by
 have:=wH p.length p []
 simpa[nR]using this
theorem Bf{b u:eG}(hb:b.kB)(hu:u.kB)(cu:b.path.length<=500)(hu2:u.path.length<=500):(sx b u).kB:=by
 obtain⟨b1,b2,b3,b4,b5⟩:=hb;obtain⟨u1,u2,u3,u4,u5⟩:=hu;have c1:=Gv u.path;have c2:=Gv (b.path.take (dc 47 b.path)++u.path);rw[af,ay]at c2;unfold sx eG.kB;simp only;refine⟨?_,?_,?_,?_,?_⟩
 ·split<;>omega
 ·split
  ·omega
  ·split<;>omega
 ·split<;>omega
 ·split<;>omega
 ·split<;>omega
theorem j7{w:World}{X:Nat}{tmps:Array Value}{u:eG}{b:Value}(h4:tmps[4]?.getD undef=.pointer (some ⟨X,0,none⟩))(h5:tmps[5]?.getD undef=b)(B0:bL w X 64 (ch u)):
 (results f163 tmps).run prog w=.ok (.tuple #[u.val,b]) w:=by
 obtain⟨a0,a1,a2,a3,a4,a5⟩:=nB B0;simp[ch]at a0 a1 a2 a3 a4 a5;simp[results,results163,go_sem,h4,h5,a0,a1,a2,a3,a4,a5,eG.val]
structure Nn(w W:World)(X:Nat)(b u:eG):Prop where
 hb:bL W X 64 (ch b)
 hu:bL W (X+1) 64 (ch u)
 hr:bL W (X+1+1) 64 (ch fh)
 Wr:Below X w W
 SK:w.heap.size=X
theorem Nn.below{w W W':World}{X:Nat}{b u:eG}(h:Nn w W X b u)(hb:Below W.heap.size W W'):Nn w W' X b u:=
 ⟨h.hb.below hb h.hb.lt,h.hu.below hb h.hu.lt,h.hr.below hb h.hr.lt,h.Wr.trans (hb.mono (by have:=h.Wr.size;have:=h.SK;omega)),h.SK⟩
theorem Nn.gf{w W:World}{X O:Nat}{b u:eG}(h:Nn w W X b u)(hO:X+3<=O)(i:Nat)(v:Value):Nn w (W.setCell ⟨O,i,none⟩ v) X b u:=
 ⟨h.hb.gf (p:=⟨O,i,none⟩) (by show X≠O;omega) v,h.hu.gf (p:=⟨O,i,none⟩) (by show X+1≠O;omega) v,h.hr.gf (p:=⟨O,i,none⟩) (by show X+1+1≠O;omega) v,h.Wr.setCell (p:=⟨O,i,none⟩) (by show X<=O;omega) v,h.SK⟩
theorem Nn.pP{w W:World}{X:Nat}{b u:eG}(h:Nn w W X b u)(hg:eK w):eK W:=hg.below (by rw[h.SK];exact h.Wr)
theorem Nn.start(w:World)(b u:eG):Nn w (((w.alloc (.cells (ch b) 64)).alloc (.cells (ch u) 64)).alloc (.cells (ch fh) 64)) w.heap.size b u:=by
 have h1:=bL.new w 64 (ch b);have h2:=bL.new (w.alloc (.cells (ch b) 64)) 64 (ch u);have h3:=bL.new ((w.alloc (.cells (ch b) 64)).alloc (.cells (ch u) 64)) 64 (ch fh);rw[size_alloc]at h2;rw[size_alloc,size_alloc]at h3;exact⟨(h1.alloc _).alloc _,h2.alloc _,h3,((cU _ _).alloc (by rw[size_alloc];omega) _).alloc (by rw[size_alloc,size_alloc];omega) _,rfl⟩
theorem Nn.fin{w W:World}{X:Nat}{b u:eG}(h:Nn w W X b u)(v:eG):bL (gP W (X+1+1) v) (X+1+1) 64 (ch v)/\Below w.heap.size w (gP W (X+1+1) v):=
 ⟨kg h.hr v,by rw[h.SK];exact iF h.Wr (by omega) v⟩
theorem Fm(b u:eG)(hb:b.kB)(hu:u.kB)(w:World)(hg:eK w):
 Calls prog 163 #[b.val,u.val] w fun e w'=>e=.returned (.tuple #[(jy b u).1.val,.int .i64 (jy b u).2])/\Below w.heap.size w w':=by
 have HP:Hy (jy b u=if gp b=true/\gp u=true/\b.mA=true then(if gp (sx b u)then(sx b u,0)else(fh,2))else(fh,1)):=rfl;have J3:=bD hg;have zZ:=bD (fun W hg=>mU b hb W hg);have HRU:=bD (fun W hg=>mU u hu W hg);have HPB:=bD (fun h=>au (sA b) (oz h).2.2);have No:=bD (fun h=>au (sA u) (oz h).2.2);have QG:=bD (fun h1 h2=>Bf hb hu h1 h2);have CX:=bD (fun h W hg=>mU (sx b u) h W hg);have Ws:Hy (sx b u={mA:=true,eX:=if u.mA then u.eX else b.eX,port:=if u.mA then u.port else b.port
                                                                                                                                                                                                                                                                                                                                                                                                            path:=if u.path=[]then b.path else if u.path.head?=some 47 then nR u.path else nR (b.path.take (dc 47 b.path)++u.path)
                                                                                                                                                                                                                                                                                                                                                                                                            asks:=if u.path=[]/\u.asks=false then b.asks else u.asks
                                                                                                                                                                                                                                                                                                                                                                                                            cI:=if u.path=[]/\u.asks=false then b.cI else u.cI}):=rfl
 have sk:=bD (Nn.start w b u);generalize jy b u=PF at*;generalize sx b u=V at*;obtain⟨ba,bh,bp,vI,bas,bq⟩:=b;obtain⟨ua,uh,up,xp,Tt,uq⟩:=u;clear hb hu hg;simp only at HPB No QG Ws HP;simp only[eG.val]at zZ HRU|-;go_enter func163,ntmps163;go_wp2_with fail;refine(zZ.o _ (sk.o.pP J3.o)).mono ?_;rintro e w1 ⟨rfl,dG⟩;have mM:=bD (sk.o.below dG);clear sk dG;generalize w.heap.size=X at*;cases Np:gp ⟨ba,bh,bp,vI,bas,bq⟩with
 |false=>
  have j6:Hy (PF=(fh,1)):=by rw[Hy,HP.o,aa (by rw[Np];simp)]
  obtain⟨r0,r1,r2,r3,r4,r5⟩:=nB mM.o.hr;simp[ch]at r0 r1 r2 r3 r4 r5;obtain⟨f0,f1,f2,f3,f4,f5⟩:=Nd mM.o.hr;go_wp2_with fail;obtain⟨q1,q2⟩:=mM.o.fin fh;change bodyPost _ _ _ _ _ (gP _ (X+1+1) fh);refine ag (j7 rfl rfl q1) rfl ⟨?_,q2⟩;rw[j6.o];rfl
 |true=>
  obtain⟨u0,u1,u2,u3,u4,u5⟩:=nB mM.o.hu;simp[ch]at u0 u1 u2 u3 u4 u5;go_wp2_with fail;refine(HRU.o _ (mM.o.pP J3.o)).mono ?_;rintro e w2 ⟨rfl,cu⟩;have uj:=bD (mM.o.below cu);clear mM cu u0 u1 u2 u3 u4 u5;have mM:=uj;clear uj;cases hou:gp ⟨ua,uh,up,xp,Tt,uq⟩with
  |false=>
   have j6:Hy (PF=(fh,1)):=by rw[Hy,HP.o,aa (by rw[hou];simp)]
   obtain⟨r0,r1,r2,r3,r4,r5⟩:=nB mM.o.hr;simp[ch]at r0 r1 r2 r3 r4 r5;obtain⟨f0,f1,f2,f3,f4,f5⟩:=Nd mM.o.hr;go_wp2_with fail;obtain⟨q1,q2⟩:=mM.o.fin fh;change bodyPost _ _ _ _ _ (gP _ (X+1+1) fh);refine ag (j7 rfl rfl q1) rfl ⟨?_,q2⟩;rw[j6.o];rfl
  |true=>
   cases ba with
   |false=>
    have j6:Hy (PF=(fh,1)):=by rw[Hy,HP.o,aa (by simp)]
    have b0:=mM.o.hb.cell 0;simp[ch]at b0;obtain⟨r0,r1,r2,r3,r4,r5⟩:=nB mM.o.hr;simp[ch]at r0 r1 r2 r3 r4 r5;obtain⟨f0,f1,f2,f3,f4,f5⟩:=Nd mM.o.hr;go_wp2_with fail;obtain⟨q1,q2⟩:=mM.o.fin fh;change bodyPost _ _ _ _ _ (gP _ (X+1+1) fh);refine ag (j7 rfl rfl q1) rfl ⟨?_,q2⟩;rw[j6.o];rfl
   |true=>
    have j6:Hy (PF=if gp V then(V,0)else(fh,2)):=by rw[Hy,HP.o,ae ⟨Np,hou,rfl⟩]
    have HV:=bD (QG.o (HPB.o Np) (No.o hou));have HUB:Hy (xp.length<=100000/\xp.length<=500/\vI.length<=500):=⟨by have:=No.o hou;omega,No.o hou,HPB.o Np⟩;have b0:=mM.o.hb.cell 0;obtain⟨u0,u1,u2,u3,u4,u5⟩:=nB mM.o.hu;simp[ch]at b0 u0 u1 u2 u3 u4 u5;clear HP QG Np hou zZ HRU;go_upto_region 5 with(fail)
    obtain⟨O,hO⟩:∃O,O=w2.heap.size:=⟨_,rfl⟩;have hOX:X+3<=O:=by rw[hO];exact mM.o.hr.lt
    have ho:=bL.new w2 64 (ch ⟨true,uh,up,xp,Tt,uq⟩);have hs5:=mM.o.below (cU w2 (.cells (ch ⟨true,uh,up,xp,Tt,uq⟩) 64));change Code.wp _ _ _ _ (w2.alloc (.cells (ch ⟨true,uh,up,xp,Tt,uq⟩) 64));generalize w2.alloc (.cells (ch ⟨true,uh,up,xp,Tt,uq⟩) 64)=w5 at*;rw[<-hO]at ho;rw[<-hO];have HO:=bD ho;have yx:=bD hs5;have PL:=bD hOX;clear b0 u0 u1 u2 u3 u4 u5 mM ho hs5 hO hOX;have u0:=yx.o.hu.cell 0;simp[ch]at u0;go_upto_if 25 with(fail)
    go_cut []from 23 to 32 (fun wx=>Hy (bL wx O 64 (ch ⟨true,if ua then uh else bh,if ua then up else bp,xp,Tt,uq⟩))/\Hy (Nn w wx X ⟨true,bh,bp,vI,bas,bq⟩ ⟨ua,uh,up,xp,Tt,uq⟩))
    case first=>
     cases ua with
     |true=>
      go_wp2_with fail;go_meet
      case rel=>exact⟨HO.o,yx.o⟩
     |false=>
      have b1:=yx.o.hb.cell 1;have b2:=yx.o.hb.cell 2;have o1:=HO.o.cell 1;have o2:=HO.o.cell 2;simp[ch]at b1 b2 o1 o2;have g1:=HO.o.frozen 1;have g2:=HO.o.frozen 2;have db:¬X=O:=by have:=PL.o;omega
      have CY:¬O=X:=by have:=PL.o;omega
      go_upto_region 6 with(fail)
      go_region;go_wp2_with fail;go_meet
      case rel=>exact⟨(HO.o.cL 1 (.string (bs bh))).cL 2 (.int .i64 bp),((yx.o.gf (by have:=PL.o;omega) 1 (.string (bs bh))).gf (by have:=PL.o;omega) 2 (.int .i64 bp)).below (aF _ _).drew⟩
    case rest=>
     obtain⟨xq,xY⟩:=hcut;obtain⟨w6,rfl⟩:∃w6:World,w6=wc:=⟨_,rfl⟩;clear HO yx u0;generalize(if ua=true then uh else bh)=H at*;generalize(if ua=true then up else bp)=P at*;have db:¬X=O:=by have:=PL.o;omega
     have CY:¬O=X:=by have:=PL.o;omega
     have Nq:¬X+1=O:=by have:=PL.o;omega
     have ar6:¬O=X+1:=by have:=PL.o;omega
     go_upto_block 0 with(fail)
     go_cut []from 32 to 78 (fun wx=>Hy (bL wx O 64 (ch V))/\Hy (Nn w wx X ⟨true,bh,bp,vI,bas,bq⟩ ⟨ua,uh,up,xp,Tt,uq⟩))
     case first=>
      have u3:=xY.o.hu.cell 3;have u4:=xY.o.hu.cell 4;simp[ch]at u3 u4;have o3:=xq.o.cell 3;have o4:=xq.o.cell 4;have o5:=xq.o.cell 5;simp[ch]at o3 o4 o5;have g3:=xq.o.frozen 3;have g4:=xq.o.frozen 4;have g5:=xq.o.frozen 5;have b3:=xY.o.hb.cell 3;have b4:=xY.o.hb.cell 4;have b5:=xY.o.hb.cell 5;simp[ch]at b3 b4 b5;by_cases h0:xp=[]
      ·obtain⟨e1,e2⟩:=CV h0;cases Tt with
       |false=>
        have eA:Hy (V=⟨true,H,P,vI,bas,bq⟩):=by rw[Hy,Ws.o,ae h0,ae ⟨h0,rfl⟩,ae ⟨h0,rfl⟩]
        clear h0 Ws;go_upto_region 9 with(fail)
        go_region;go_wp2_with fail;go_meet
        case rel=>exact⟨by rw[Hy,eA.o];exact((xq.o.cL 3 (.string (bs vI))).cL 4 (.bool bas)).cL 5 (.string (bs bq)),(((xY.o.gf (by have:=PL.o;omega) 3 (.string (bs vI))).gf (by have:=PL.o;omega) 4 (.bool bas)).gf (by have:=PL.o;omega) 5 (.string (bs bq))).below (aF _ _).drew⟩
       |true=>
        have eA:Hy (V=⟨true,H,P,vI,true,uq⟩):=by rw[Hy,Ws.o,ae h0,aa (by simp),aa (by simp)]
        clear h0 Ws;go_wp2_with fail;go_meet
        case rel=>exact⟨by rw[Hy,eA.o];exact xq.o.cL 3 (.string (bs vI)),xY.o.gf (by have:=PL.o;omega) 3 (.string (bs vI))⟩
      ·obtain⟨e1,e2⟩:=yv h0;obtain⟨c,l,wv⟩:∃c l,xp=c::l:=by cases xp with|nil=>exact aX rfl h0|cons c l=>exact⟨c,l,rfl⟩
       have CQ:(0:Int)<((bs xp).size:Int):=by rw[bJ,wv,ak];omega
       have MU:0<(bs xp).size:=by omega
       have Bc:(bs xp)[0]=c:=by rw[Nb xp 0 MU];simp[wv]
       by_cases PM:c=47
       ·have ar7:(((bs xp)[0].toNat:Int)==47)=true:=by rw[Bc,PM];rfl
        have eA:Hy (V=⟨true,H,P,nR xp,Tt,uq⟩):=by rw[Hy,Ws.o,aa h0,ae (by rw[wv,PM];rfl),aa (fun h=>h0 h.1),aa (fun h=>h0 h.1)]
        have ZM:=bD (fun W=>Be xp W (HUB.o.1));clear h0 wv Bc PM Ws;go_wp2_with fail;refine(ZM.o _).mono ?_;rintro e w7 ⟨rfl,lH⟩;have Fo:=bD (xq.o.below lH xq.o.lt);have Fp:=bD (xY.o.below lH);clear xq xY lH u3 u4 o3 o4 o5 g3 g4 g5 b3 b4 b5;have o3:=Fo.o.cell 3;simp[ch]at o3;have g3:=Fo.o.frozen 3;go_wp2_with fail;go_meet
        case rel=>exact⟨by rw[Hy,eA.o];exact Fo.o.cL 3 (.string (bs (nR xp))),Fp.o.gf (by have:=PL.o;omega) 3 (.string (bs (nR xp)))⟩
       ·have ar7:(((bs xp)[0].toNat:Int)==47)=false:=by rw[Bc,ai];exact fun e=>PM ((mQ c 47).2 e)
        have eA:Hy (V=⟨true,H,P,nR (vI.take (dc 47 vI)++xp),Tt,uq⟩):=by rw[Hy,Ws.o,aa h0,aa (by rw[wv];simp;exact PM),aa (fun h=>h0 h.1),aa (fun h=>h0 h.1)]
        have hlb:=fun W=>pO (bs vI) 47 W (by rw[bJ];have:=HUB.o.2.2;omega);rw[eB]at hlb;have VI:=yn 47 vI;have kM:=HUB.o.2.2;have hu5:=HUB.o.2.1;obtain⟨z,hz⟩:∃z:Int,z=(dc 47 vI:Int)-1:=⟨_,rfl⟩;rw[<-hz]at hlb;have hzn:(z+1).toNat=dc 47 vI:=by omega
        have zR:0<=z+1:=by omega
        have rq:z+1<=((bs vI).size:Int):=by rw[bJ];omega
        have vF:-1<=z:=by omega
        have hz3:z<=500:=by omega
        clear h0 Bc PM;clear wv;have wv:=fun W=>Be (vI.take (dc 47 vI)++xp) W (by rw[af,ay];omega);have ZM:=bD wv;have PE:=bD hlb;have hwz:IntKind.i64.wrap (z+1)=z+1:=by rw[IntKind.wrap_i64];omega
        have so:(bs vI).extract 0 (z+1).toNat=bs (vI.take (dc 47 vI)):=by rw[qz,hzn]
        have hba:bs (vI.take (dc 47 vI))++bs xp=bs (vI.take (dc 47 vI)++xp):=jc _ _;have yw:¬9223372036854775807<(bs (vI.take (dc 47 vI))).size+(bs xp).size:=by rw[bJ,bJ,ay];omega
        clear wv Ws hlb VI kM hu5 hz hzn;go_upto_region 7 with(fail)
        refine aL (S:=(fun w'=>w'.cell? ⟨X,3,none⟩=some (.string (bs vI))/\w'.cell? ⟨X+1,3,none⟩=some (.string (bs xp)))) (by kernel_rfl) ?_;change wpAnyH _ _ _ _ _ _ _ _ (World.drew _);refine Na 0 ⟨b3,u3⟩ ?_;refine Na 1 ⟨b3,u3⟩ ?_;refine Na 2 ⟨b3,u3⟩ ?_;refine Na 3 ⟨b3,u3⟩ ?_;refine Na 7 ⟨b3,u3⟩ ?_;refine Na 8 ⟨b3,u3⟩ ?_;refine gi (i:=4) (v:=_) rfl (by kernel_rfl) (by kernel_rfl) (by kernel_rfl) (fun _ _ _ h=>h) ⟨by kernel_rfl,_,_,?_,fun w_ cY=>PE.o w_⟩ ⟨b3,u3⟩ ?_
        ·(intro w_;go_simp;try with_reducible rfl)
        refine mO 5 (.int .i64 (z+1)) ⟨b3,u3⟩ ?_ ?_
        ·(intro w_ cY;go_simp;try simp[hwz])
        refine mO 6 (.string (bs (vI.take (dc 47 vI)))) ⟨b3,u3⟩ ?_ ?_
        ·(intro w_ cY;go_simp;try simp[zR,rq,so])
        refine mO 9 (.string (bs (vI.take (dc 47 vI)++xp))) ⟨b3,u3⟩ ?_ ?_
        ·(intro w_ cY;go_simp;try simp[yw,hba])
        refine fr 10 (fun K_ bP=>?_);go_simp;refine(ZM.o _).mono ?_;rintro e w7 ⟨rfl,lH⟩;have lH:Below w6.heap.size w6 w7:=(aF _ _).drew.trans lH;have Fo:=bD (xq.o.below lH xq.o.lt);have Fp:=bD (xY.o.below lH);have q3:w7.cell? ⟨X,3,none⟩=some (.string (bs vI)):=(lH.cell (p:=⟨X,3,none⟩) xY.o.hb.lt).trans b3;have qu:w7.cell? ⟨X+1,3,none⟩=some (.string (bs xp)):=(lH.cell (p:=⟨X+1,3,none⟩) xY.o.hu.lt).trans u3;clear xq xY lH u3 u4 o3 o4 o5 g3 g4 g5 b3 b4 b5;have o3:=Fo.o.cell 3;simp[ch]at o3;have g3:=Fo.o.frozen 3;refine bP.out _ _ (by exact⟨q3,qu⟩) fun _=>?_;clear bP K_;refine Na 11 ⟨q3,qu⟩ ?_;refine fr 12 (fun K_ bP=>?_);go_simp;refine bP.out _ _ (by exact⟨(World.cell?_setCell_other _ _ _ _ (by simp[db,CY])).trans q3,(World.cell?_setCell_other _ _ _ _ (by simp[Nq,ar6])).trans qu⟩) fun _=>?_;clear bP K_;refine aJ (by kernel_rfl) ?_ _;go_wp2_with fail;go_meet
        case rel=>exact⟨by rw[Hy,eA.o];exact Fo.o.cL 3 _,Fp.o.gf (by have:=PL.o;omega) 3 _⟩
     case rest=>
      obtain⟨Fo,Fp⟩:=hcut;obtain⟨w7,rfl⟩:∃w7:World,w7=wc:=⟨_,rfl⟩;obtain⟨o0,o1,o2,o3,o4,o5⟩:=nB Fo.o;simp[ch]at o0 o1 o2 o3 o4 o5;go_wp2_with fail;refine(CX.o HV.o _ (Fp.o.pP J3.o)).mono ?_;rintro e w8 ⟨rfl,oN⟩;have HO8:=bD (Fo.o.below oN Fo.o.lt);have mM:=bD (Fp.o.below oN);clear xq xY Fo Fp oN o0 o1 o2 o3 o4 o5;cases po:gp V with
      |false=>
       have j6:Hy (PF=(fh,2)):=by rw[Hy,j6.o,po];rfl
       obtain⟨r0,r1,r2,r3,r4,r5⟩:=nB mM.o.hr;simp[ch]at r0 r1 r2 r3 r4 r5;obtain⟨f0,f1,f2,f3,f4,f5⟩:=Nd mM.o.hr;go_wp2_with fail;obtain⟨q1,q2⟩:=mM.o.fin fh;change bodyPost _ _ _ _ _ (gP _ (X+1+1) fh);refine ag (j7 rfl rfl q1) rfl ⟨?_,q2⟩;rw[j6.o];rfl
      |true=>
       have zY:Hy (PF=(V,0)):=by rw[Hy,j6.o,po];rfl
       obtain⟨o0,o1,o2,o3,o4,o5⟩:=nB HO8.o;simp[ch]at o0 o1 o2 o3 o4 o5;obtain⟨r0,r1,r2,r3,r4,r5⟩:=nB mM.o.hr;simp[ch]at r0 r1 r2 r3 r4 r5;obtain⟨f0,f1,f2,f3,f4,f5⟩:=Nd mM.o.hr;go_wp2_with fail;obtain⟨q1,q2⟩:=mM.o.fin V;change bodyPost _ _ _ _ _ (gP _ (X+1+1) V);refine ag (j7 rfl rfl q1) rfl ⟨?_,q2⟩;rw[zY.o];rfl
def ju(s:Bt):Prop:=∀W,eK W->Calls prog 20 #[.string (bs s)] W fun e W'=>e=.returned (.tuple #[(fN s).1.val,.int .i64 (fN s).2])/\Below W.heap.size W W'
theorem uk(lR:Bt):∀l:Bt,Lib.indexAny l lR<l.length
 |[]=>by simp[Lib.indexAny]
 |b::l=>by
  have ih:=uk lR l;rw[Lib.indexAny,ak];split
  ·omega
  ·split<;>omega
theorem wI(s:Bt)(hl:s.length<=100000)(ha:∀c∈s.drop 7,c.toNat<128):ju s:=by
 intro W hg;have Nc:=Lib.indexAny_ge [47,63] (s.drop 7);have bW:=uk [47,63] (s.drop 7);rw[aj]at bW;have h:=yr (bs s) (Lib.indexAny (s.drop 7) [47,63]) W hg Nc (by rw[bJ];omega) (fun W'=>by
  have hx:(bs s).extract 7 (bs s).size=bs (s.drop 7):=vH s 7;rw[hx];have:=strings_IndexAny_laid (bs (s.drop 7)) ⟨#[47,63]⟩ W' (by rw[bJ,aj];omega) (by show 2<4294967281;omega)
   (fun j b hj=>ha b (by rw[ga]at hj;exact List.mem_of_getElem? hj)) (fun j b hj=>by
    have hm:b∈[47,63]:=List.mem_of_getElem? hj;simp at hm;rcases hm with rfl|rfl<;>decide)
  rw[ga,show(⟨#[47,63]⟩:ByteArray).data.toList=[47,63]from rfl]at this;exact this)
 rw[eB]at h;exact h
theorem Bg{s:Bt}{z:eG × Bool}(hs:s.length<=100000)(h:z.1.kB):(ue s z).1.kB:=by
 unfold ue;split
 ·exact Bb hs h
 ·exact nS
theorem Nr(s:Bt):(oS s).length<=s.length+1:=by
 unfold oS;split
 ·simp
 ·omega
theorem Iz(s:Bt)(z:Int):(xj s z).1.kB:=by
 unfold xj;split
 ·exact nS
 ·rename_i h;split
  ·refine Bg ?_ (yq _ ?_)
   ·refine au (Nr _) ?_;have:∀k,((s.drop 7).drop k).length<=s.length:=fun k=>by rw[aj,aj];exact au (Nat.sub_le _ _) (Nat.sub_le _ _)
    exact au (Nat.add_le_add_right (this _) 1) (by omega)
   ·rw[ay,aj];omega
  ·exact Bg (by omega) nS
theorem yy(s:Bt):(fN s).1.kB:=Iz s _
theorem CZ{b u:eG}(hb:b.kB)(hu:u.kB):(jy b u).1.kB:=by
 unfold jy;split
 ·rename_i h;split
  ·exact Bf hb hu (au (sA b) (oz h.1).2.2) (au (sA u) (oz h.2.1).2.2)
  ·exact nS
 ·exact nS
theorem Fq(base s:Bt)(h1:ju base)(h2:ju s)(w:World)(hg:eK w):
 Calls prog 140 #[.string (bs base),.string (bs s)] w fun e w'=>e=.returned (.tuple #[.string (bs (dA base s).1),.int .i64 (dA base s).2])/\Below w.heap.size w w':=by
 have HA:Hy (dA base s=if(fN s).2≠0 then([],(fN s).2)
  else if(jy (fN base).1 (fN s).1).2≠0 then([],(jy (fN base).1 (fN s).1).2)
  else uf (jy (fN base).1 (fN s).1).1):=rfl
 generalize dA base s=AF at*;have H1:=bD h1;have H2:=bD h2;have HG:=bD hg;have Tu:=bD (yy base);have HSU:=bD (yy s);unfold ju at H1 H2;generalize fN base=PB at*;generalize fN s=PU at*;obtain⟨b,eb⟩:=PB;obtain⟨u,eu⟩:=PU;clear h1 h2 hg;simp only at HA Tu HSU;have CX:=bD (CZ Tu.o HSU.o);have mE:=bD (fun W hg=>Fm b u Tu.o HSU.o W hg);generalize jy b u=RV at*;obtain⟨v,ev⟩:=RV;simp only at HA CX;have HPR:=bD (fun W hg=>Iy v CX.o W hg);go_enter func140,ntmps140;go_wp2_with fail;refine(H1.o w HG.o).mono ?_;rintro e w1 ⟨rfl,dG⟩;have hJ:=bD dG;have zG:=bL.new w1 64 (ch b);have cu:Below w1.heap.size w1 (w1.alloc (.cells (ch b) 64)):=cU _ _;simp only[eG.val];go_upto_region 2 with(fail)
 change Code.wp _ _ _ _ (w1.alloc (.cells (ch b) 64));generalize w1.alloc (.cells (ch b) 64)=w2 at*;have iL:=bD zG;have dm:=bD (hJ.o.trans (cu.mono hJ.o.size));clear zG dG cu hJ;generalize w1.heap.size=X at*;go_wp2_with fail;refine(H2.o w2 (HG.o.below dm.o)).mono ?_;rintro e w3 ⟨rfl,fm⟩;have ry:=bD (iL.o.below fm iL.o.lt);have gI:=bD (dm.o.trans (fm.mono dm.o.size));have hy1:=bL.new w3 64 (ch u);have eY:Below w3.heap.size w3 (w3.alloc (.cells (ch u) 64)):=cU _ _;simp only[eG.val];go_upto_region 3 with(fail)
 change Code.wp _ _ _ _ (w3.alloc (.cells (ch u) 64));have tS:=ry.o.below eY ry.o.lt;have bW:=ry.o.lt;generalize w3.alloc (.cells (ch u) 64)=w4 at*;have nx:=bD tS;have Yd:=bD hy1;have iW:=bD (gI.o.trans (eY.mono gI.o.size));have hyw:w.heap.size<=w3.heap.size:=gI.o.size;clear tS hy1 fm eY iL dm ry gI;generalize w3.heap.size=Y at*;have HYW:=bD hyw;clear hyw bW;by_cases he:eu=0
 ·have be:(eu !=0)=false:=by rw[he];rfl
  have Ye:Hy (AF=if ev≠0 then([],ev)else uf v):=by rw[Hy,HA.o,aa (by simpa using he)]
  clear he HA;obtain⟨x0,x1,x2,x3,x4,x5⟩:=nB nx.o;obtain⟨y0,y1,y2,y3,y4,y5⟩:=nB Yd.o;simp[ch]at x0 x1 x2 x3 x4 x5 y0 y1 y2 y3 y4 y5;go_wp2_with fail;refine(mE.o w4 (HG.o.below iW.o)).mono ?_;rintro e w5 ⟨rfl,kM⟩;have zH:=bD (Yd.o.below kM Yd.o.lt);have kf:=bD (iW.o.trans (kM.mono iW.o.size));clear x0 x1 x2 x3 x4 x5 y0 y1 y2 y3 y4 y5 kM Yd iW nx;obtain⟨y0,y1,y2,y3,y4,y5⟩:=nB zH.o;simp[ch]at y0 y1 y2 y3 y4 y5;obtain⟨f0,f1,f2,f3,f4,f5⟩:=Nd zH.o;simp only[eG.val];go_upto_region 6 with(fail)
  have ZN:=bD (kg zH.o v);have tR:=bD (iF kf.o HYW.o v);change Code.wp _ _ _ _ (gP w5 Y v);generalize gP w5 Y v=w6 at*;clear y0 y1 y2 y3 y4 y5 f0 f1 f2 f3 f4 f5 zH kf;by_cases hev:ev=0
  ·have bv:(ev !=0)=false:=by rw[hev];rfl
   have HA3:Hy (AF=uf v):=by rw[Hy,Ye.o,aa (by simpa using hev)]
   clear hev;obtain⟨y0,y1,y2,y3,y4,y5⟩:=nB ZN.o;simp[ch]at y0 y1 y2 y3 y4 y5;go_wp2_with fail;refine(HPR.o w6 (HG.o.below tR.o)).mono ?_;rintro e w7 ⟨rfl,lH⟩;have Iw:=bD (tR.o.trans (lH.mono tR.o.size));clear lH;go_wp2_with fail;go_ret2;exact⟨by rw[HA3.o];rfl,Iw.o⟩
  ·have bv:(ev !=0)=true:=by rw[aQ];exact hev
   have HA3:Hy (AF=([],ev)):=by rw[Hy,Ye.o,ae hev]
   clear hev;go_wp2_with fail;go_ret2;exact⟨by rw[HA3.o];rfl,tR.o⟩
 ·have be:(eu !=0)=true:=by rw[aQ];exact he
  have Ye:Hy (AF=([],eu)):=by rw[Hy,HA.o,ae he]
  clear he;go_wp2_with fail;go_ret2;exact⟨by rw[Ye.o];rfl,iW.o⟩
end Go.Proofs.YtejafaaihodehaaGreatDoor
