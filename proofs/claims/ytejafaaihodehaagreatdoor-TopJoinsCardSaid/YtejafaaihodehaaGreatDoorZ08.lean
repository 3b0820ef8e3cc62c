/- Part 8. -/
import Derived.Test.YtejafaaihodehaaGreatDoorZ07
set_option linter.all false
set_option maxRecDepth 100000
set_option maxHeartbeats 8000000
namespace Go.Proofs.YtejafaaihodehaaGreatDoor
open Go Go.RowKit Tryz
theorem KE(l m:Bt)(n:Nat)(hn:n=min m.length l.length):(l.take n==m.take n)=iH l m:=by
 subst hn;unfold iH;rcases Nat.le_total m.length l.length with h|h
 ·rw[Nat.min_eq_left h,aO h,aO (dv m.length)]
 ·rw[Nat.min_eq_right h,aO (dv l.length),aO h]
def nV(b:Bool)(j:Nat):Bt:=if j=0 then fM else if j=1 then ew else eS b
theorem KG(b:Bool)(l:Bt)(h:∀j,j<3->iH l (nV b j)=false):jS b l=none:=by
 have h0:=h 0 (by omega);have h1:=h 1 (by omega);have h2:=h 2 (by omega);simp only[nV,if_true,Nat.one_ne_zero,if_false,show(2:Nat)≠0 by omega,show(2:Nat)≠1 by omega]at h0 h1 h2;simp[jS,h0,h1,h2]
theorem Bi(b:Bool)(l:Bt)(j:Nat)(hj:j<3)(h:∀i,i<j->iH l (nV b i)=false)(hh:iH l (nV b j)=true):jS b l=some (nV b j):=by
 rcases(by omega:j=0\/j=1\/j=2)with rfl|rfl|rfl
 ·simp only[nV,if_true]at hh|-;simp[jS,hh]
 ·have h0:=h 0 (by omega);simp only[nV,if_true,Nat.one_ne_zero,if_false]at h0 hh|-;simp[jS,h0,hh]
 ·have h0:=h 0 (by omega);have h1:=h 1 (by omega);simp only[nV,if_true,Nat.one_ne_zero,if_false,show(2:Nat)≠0 by omega,show(2:Nat)≠1 by omega]at h0 h1 hh|-;simp[jS,h0,h1,hh]
theorem Nz(b:Bool)(j:Nat):(nV b j).length<=7:=by
 unfold nV eS;split
 ·decide
 ·split
  ·decide
  ·split<;>decide
theorem C9{B:Nat}{a w:World}(h:Below B a w)(n:Nat):Below B a (w.drewN n):=⟨h.os,h.tape,h.output,h.size,h.block⟩
theorem Da(s:ByteArray)(b:Bool)(w:World)(hs:s.size<=10000000):
 Calls prog 97 #[.string s,.bool b] w fun e w'=>e=.returned (.tuple #[.string (bs (bX b (L s)).1),.int .i64 (bX b (L s)).2])/\Below w.heap.size w w':=by
 go_enter func97,ntmps97;go_wp2_with fail;go_loopw [6,12] (fun _ i wr=>∃k:Nat,k<=s.size/\i=.int .i64 k/\Below w.heap.size w wr/\Hy (bX b (L s)=((bX b ((L s).drop k)).1,(bX b ((L s).drop k)).2+k)))
  (fun _ i wr=>s.size-(intOf i).toNat)
 case atStart=>exact⟨0,ax _,rfl,aF _ _,rfl⟩
 case round=>
  obtain⟨k,hk,rfl,hb,HF⟩:=hrel;by_cases bW:k<s.size
  ·by_cases hc:s[k]=60\/s[k]=45
   ·have HC:=bD hc;have fG:((s[k].toNat:Int)!=60&&(s[k].toNat:Int)!=45)=false:=by
     rcases hc with h|h<;>rw[h]<;>rfl
    clear hc;have GB:((L s).drop k).length=s.size-k:=by rw[aj,<-cm]
    have HD:=bD GB;clear GB;have hgo:∀hxx:Bool,((s[k].toNat:Int)!=60)=hxx->True:=fun _ _=>trivial;clear hgo;have tG:(((s[k].toNat:Int)!=60)=false)\/(((s[k].toNat:Int)!=60)=true/\((s[k].toNat:Int)!=45)=false):=by
     rcases h:((s[k].toNat:Int)!=60)with _|_
     ·exact .inl rfl
     ·rw[h]at fG;exact .inr ⟨rfl,by simpa using fG⟩
    clear fG;rcases tG with h60|⟨h60,h45⟩
    all_goals
     go_wp2_with (go_at_call 119;refine(Ke _ _).mono ?_;rintro e w' ⟨rfl,rfl⟩);have HM:=bL.new wr 9 #[.string (bs fM),.string (bs ew),.string (bs (eS b))];have cu:=hb.alloc hb.size (.cells #[.string (bs fM),.string (bs ew),.string (bs (eS b))] 9);generalize wr.alloc (.cells #[.string (bs fM),.string (bs ew),.string (bs (eS b))] 9)=w2 at*;generalize wr.heap.size=M at*;obtain⟨m0,m1,m2⟩:=nw HM;clear HM;go_loopw [8,9,28] (fun _ _ i w3=>∃j:Nat,j<=3/\i=.int .i64 j/\(∃n,w3=w2.drewN n)/\Hy (∀i,i<j->iH ((L s).drop k) (nV b i)=false))
      (fun _ _ i _=>3-(intOf i).toNat)
     case atStart=>exact⟨0,by omega,rfl,⟨0,rfl⟩,fun i hi=>aX hi (by omega)⟩
     case round=>
      obtain⟨j,hj,rfl,⟨n,rfl⟩,HJ⟩:=hrel;by_cases Wg:j<3
      ·have hm:w2.cell? ⟨M,j,none⟩=some (.string (bs (nV b j))):=by
        rcases(by omega:j=0\/j=1\/j=2)with rfl|rfl|rfl
        ·exact m0
        ·exact m1
        ·exact m2
       have IK:=Nz b j;obtain⟨mk,QP⟩:∃mk,mk=nV b j:=⟨_,rfl⟩;rw[<-QP]at hm IK;have pD:=bD QP;clear QP m0 m1 m2;have lQ:(bs mk).size=mk.length:=bJ mk;have SL:(0:Int)<=(k:Int):=by omega
       rcases Nat.lt_or_ge (s.size-k) mk.length with VI|VI
       ·have tQ:¬(mk.length:Int)<=(s.size:Int)-(k:Int):=by omega
        have hw:IntKind.i64.wrap ((k:Int)+((s.size:Int)-(k:Int)))=(s.size:Int):=by rw[aI _ (by omega)];omega
        have jz:(0:Int)<=(s.size:Int)-(k:Int):=by omega
        have oM:((s.size:Int)-(k:Int)).toNat=s.size-k:=by omega
        have tE:(k:Int)<=(s.size:Int):=by omega
        have qn:(s.size:Int)-(k:Int)<=(mk.length:Int):=by omega
        have Ty:((s.extract k s.size).toList==((bs mk).extract 0 (s.size-k)).toList)=iH ((L s).drop k) mk:=by
         rw[cw,cw,dX,dX,eB,bm,<-KE _ _ (s.size-k) (by rw[HD.o];omega),<-HD.o,aO (dv _),aO (by rw[cm];exact dv _)]
        rcases Af:iH ((L s).drop k) mk with _|_
        ·rw[Af]at Ty;have HH:=bD Af;clear Af;go_wp2_with fail;go_quiet (fail);go_wp2_with fail;go_roundw
         case rel=>exact⟨j+1,by omega,by go_num,⟨_,rfl⟩,fun i hi=>by
          rcases(by omega:i<j\/i=j)with h|h
          ·exact HJ.o i h
          ·rw[h,<-pD.o];exact HH.o⟩
         case measure=>simp[intOf];omega
        ·rw[Af]at Ty;have HH:=bD Af;clear Af;go_wp2_with fail;go_quiet (fail);go_wp2_with fail;go_ret2;have e:=HF.o;rw[fB (by rw[<-cm];exact bW),bX,ae (by rw[<-dP s k bW];exact HC.o),<-fB,
          Bi b _ j Wg HJ.o (by rw[<-pD.o];exact HH.o)]at e
         refine⟨?_,C9 (C9 cu _) _⟩;rw[e,<-pD.o];simp
       ·have tQ:(mk.length:Int)<=(s.size:Int)-(k:Int):=by omega
        have hw:IntKind.i64.wrap ((k:Int)+(mk.length:Int))=((k+mk.length:Nat):Int):=by rw[aI _ (by omega)];omega
        have tE:(k:Int)<=((k+mk.length:Nat):Int):=by omega
        have qn:((k+mk.length:Nat):Int)<=(s.size:Int):=by omega
        have Ty:((s.extract k (k+mk.length)).toList==((bs mk).extract 0 mk.length).toList)=iH ((L s).drop k) mk:=by
         rw[cw,cw,dX,dX,eB,bm,<-KE _ _ mk.length (by rw[HD.o];omega),List.drop_take];simp only[Nat.add_sub_cancel_left]
        rcases Af:iH ((L s).drop k) mk with _|_
        ·rw[Af]at Ty;have HH:=bD Af;clear Af;go_wp2_with fail;go_quiet (fail);go_wp2_with fail;go_roundw
         case rel=>exact⟨j+1,by omega,by go_num,⟨_,rfl⟩,fun i hi=>by
          rcases(by omega:i<j\/i=j)with h|h
          ·exact HJ.o i h
          ·rw[h,<-pD.o];exact HH.o⟩
         case measure=>simp[intOf];omega
        ·rw[Af]at Ty;have HH:=bD Af;clear Af;go_wp2_with fail;go_quiet (fail);go_wp2_with fail;go_ret2;have e:=HF.o;rw[fB (by rw[<-cm];exact bW),bX,ae (by rw[<-dP s k bW];exact HC.o),<-fB,
          Bi b _ j Wg HJ.o (by rw[<-pD.o];exact HH.o)]at e
         refine⟨?_,C9 (C9 cu _) _⟩;rw[e,<-pD.o];simp
      ·go_wp2_with fail;refine⟨⟨k+1,by omega,by go_num,C9 cu _,?_⟩,by simp[intOf];omega⟩;have e:=HF.o;rw[fB (by rw[<-cm];exact bW),bX,ae (by rw[<-dP s k bW];exact HC.o),<-fB,
        KG b _ (fun i hi=>HJ.o i (by omega))]at e
       rw[Hy,e];simp only[Prod.mk.injEq,true_and];omega
   ·have h1:((s[k].toNat:Int)!=60)=true:=by rw[aQ];exact fun e=>hc (.inl ((mQ _ _).2 e))
    have h2:((s[k].toNat:Int)!=45)=true:=by rw[aQ];exact fun e=>hc (.inr ((mQ _ _).2 e))
    have HC:=bD hc;clear hc;go_wp2_with fail;go_roundw
    case rel=>exact⟨k+1,by omega,by go_num,hb,by
     have e:=HF.o;rw[fB (by rw[<-cm];exact bW),bX,aa (by rw[<-dP s k bW];exact HC.o)]at e;rw[Hy,e];simp only[Prod.mk.injEq,true_and];omega⟩
    case measure=>simp[intOf];omega
  ·have fA:k=s.size:=by omega
   have HK:=bD fA;clear fA;go_wp2_with fail;go_ret2;refine⟨?_,hb⟩;have e:=HF.o;rw[List.drop_of_length_le (by rw[<-cm];omega),bX]at e;rw[e,<-HK.o];simp;rfl
theorem Ag(s p:ByteArray)(w:World)(_hs:s.size<=10000000)(_hp:p.size<=10000000):
 Calls prog 95 #[.string s,.string p] w fun e w'=>e=.returned (.bool ((L p).isPrefixOf (L s)))/\w=w':=by
 by_cases h:p.size<=s.size
 ·go_enter func95,ntmps95;go_wp2_with fail;go_ret;refine⟨cH ?_,rfl⟩;simp only[cw,dX,bm];rw[bj,beq_iff_eq,List.isPrefixOf_iff_prefix,List.prefix_iff_eq_take,<-cm];exact eq_comm
 ·go_enter func95,ntmps95;go_wp2_with fail;go_ret;refine⟨cH ?_,rfl⟩;rw[eq_comm,<-Bool.not_eq_true,List.isPrefixOf_iff_prefix];intro ZS;have:=ZS.length_le;rw[<-cm,<-cm]at this;omega
theorem oU(s p:ByteArray)(w:World)(hs:s.size<=10000000)(hp:p.size<=10000000):
 Calls prog 60 #[.string s,.string p] w fun e w'=>e=.returned (.bool ((L p).isPrefixOf (L s)))/\w=w':=by
 go_enter func60,ntmps60;go_wp2_with (go_at_call 95;refine(Ag s p _ hs hp).mono ?_;rintro e w' ⟨rfl,rfl⟩);go_ret;exact⟨rfl,rfl⟩
theorem nW(b:Bool):∀l:Bt,(bX b l).1.length<=7/\(bX b l).2<=l.length
 |[]=>by simp[bX]
 |c::l=>by
  have ih:=nW b l;have key:∀m,(if c=60\/c=45 then jS b (c::l)else none)=some m->m.length<=7:=by
   intro m h;split at h
   ·unfold jS at h;split at h
    ·injection h with h;subst h;decide
    ·split at h
     ·injection h with h;subst h;decide
     ·split at h
      ·injection h with h;subst h;unfold eS;split<;>decide
      ·cases h
   ·cases h
  rw[bX];split
  ·rename_i m h;exact⟨key m h,by simp⟩
  ·refine⟨ih.1,?_⟩;simp;omega
theorem Bj(s:ByteArray)(b:Bool)(w:World)(hs:s.size<=10000000):
 Calls prog 96 #[.agg #[.string s,.bool b]] w fun e w'=>e=.returned (.bool (jo ⟨L s,b⟩))/\Below w.heap.size w w':=by
 obtain⟨IK,Yn⟩:=nW b (L s);rw[<-cm]at Yn;have zI:Hy (jo ⟨L s,b⟩=if L s=[]\/(bX b (L s)).2≠0\/(L s).length<(bX b (L s)).1.length then decide ((bX b (L s)).2=0)
  else decide ((bX b (L s)).1=fM\/(bX b (L s)).1=ew)&&decide ((fe (L s) (bX b (L s)).1).2.1=0)&&decide ((fe (L s) (bX b (L s)).1).2.2=0)):=rfl
 go_enter func96,ntmps96;go_wp2_with fail;refine(Da s b _ hs).mono ?_;have pq:=bL.new w 53 #[.string s,.bool b];have mP:=cU w (.cells #[.string s,.bool b] 53);have lQ:=size_alloc w (.cells #[.string s,.bool b] 53);generalize w.alloc (.cells #[.string s,.bool b] 53)=w1 at*;rintro e w2 ⟨rfl,cu⟩;have dG:=pq.below cu pq.lt;have Fw:=mP.trans (cu.mono (by omega));have c0:=dG.cell 0;have tH:=dG.lt;clear pq mP cu lQ;generalize bX b (L s)=mi at*;obtain⟨m,i⟩:=mi;have IK:m.length<=7:=IK;have Yn:i<=s.size:=Yn;have mN:=zI;clear zI;go_wp2_with fail
 ·have h:s.toList=[]:=by assumption
  go_ret;refine⟨cH ?_,Fw⟩;rw[mN.o,ae (.inl (by rw[<-cw];exact h))]
  show((i:Int)==0)=decide (i=0)
  rw[bj,beq_iff_eq,aH];omega
 ·have h:¬s.toList=[]:=by assumption
  have h2:i=0:=by assumption
  have h3:s.toList.isEmpty=true\/s.size<(bs m).size:=by assumption
  go_ret;refine⟨cH ?_,Fw⟩;have h4:s.size<(bs m).size:=by
   rcases h3 with h3|h3
   ·exact aX (by simpa using h3) h
   ·exact h3
  rw[bJ,cm]at h4;rw[mN.o,ae (.inr (.inr h4))];simp[h2]
 ·have h:¬s.toList=[]:=by assumption
  have h2:i=0:=by assumption
  have h3:s.toList.isEmpty=false/\¬s.size<(bs m).size:=by assumption
  have h4:=h3.2;rw[bJ,cm]at h4;have mu:Hy (jo ⟨L s,b⟩=(decide (m=fM\/m=ew)&&decide ((fe (L s) m).2.1=0)&&decide ((fe (L s) m).2.2=0))):=by
   rw[Hy,mN.o,aa];rintro (e|e|e)
   ·exact h (by rw[cw];exact e)
   ·exact e h2
   ·exact h4 e
  clear h h2 h3 h4 mN;refine(Ae s (bs m) _ hs (by rw[bJ];omega)).mono ?_;rw[eB];generalize fe (L s) m=r at*;obtain⟨t,n,bad⟩:=r;rintro e w3 ⟨va,rfl,cO,fm⟩;obtain⟨A,ca,rfl,_⟩:=dV cO;have HG:=bD cO;have HB:=bD (Fw.trans (fm.mono (by omega)));clear cO fm;go_wp2_with fail
  all_goals
   go_ret;refine⟨cH ?_,HB.o.alloc (by have:=HB.o.size;omega) _⟩;rw[mu.o];simp only[bQ]at*;simp[fM,ew, *]
   try rfl
 ·have h2:¬i=0:=by assumption
  go_ret;refine⟨cH ?_,Fw⟩;rw[mN.o,ae (.inr (.inl h2))];simp[h2]
theorem nI:kJ prog 54 75 3 48:=by
 obtain⟨i0,hi,zR,rq,vF⟩:=info_parts (show(prog.info? 75).map (fun i=>(i.zero,i.size,i.bytes))=some (some (.agg #[.int .i64 0,.string (bs []),.slice none 0 0]),3,48) by kernel_rfl);exact⟨i0,_,underlying54,hi,zR,rq,vF,rfl,by omega⟩
def WG(w:World)(r:List bG × Int)(e:Ending)(w':World):Prop:=
 ∃v,e=.returned (.tuple #[v,.int .i64 r.2])/\GR w' (fun g=>w.heap.size<=g) (.row 3 (r.1.map bG.gv)) [v]/\Below w.heap.size w w'
theorem QQ(s:ByteArray)(b:Bool)(w:World)(hs:s.size<=10000000):
 Calls prog 62 #[.agg #[.string s,.bool b]] w (WG w (ig ⟨L s,b⟩)):=by
 have HEF:Hy (ig ⟨L s,b⟩=if jo ⟨L s,b⟩then
  if fM.isPrefixOf (L s)||ew.isPrefixOf (L s)then([],40)else if L s=[]then([],0)else([bS (L s)],0)else([],1)):=rfl
 have pq:=bL.new w 53 #[.string s,.bool b];have mP:=cU w (.cells #[.string s,.bool b] 53);have lQ:=size_alloc w (.cells #[.string s,.bool b] 53);have c0:=pq.cell 0;have c1:=pq.cell 1;go_enter func62,ntmps62;go_wp2_with fail;generalize w.alloc (.cells #[.string s,.bool b] 53)=w1 at*;refine(Bj s b _ hs).mono ?_;rintro e w2 ⟨rfl,cu⟩;have dG:=pq.below cu pq.lt;have Fw:=mP.trans (cu.mono (by omega));clear c0 c1;have c0:=dG.cell 0;have tH:=dG.lt;clear pq mP cu lQ;cases J5:jo ⟨L s,b⟩with
 |false=>
  have IL:Hy (ig ⟨L s,b⟩=([],1)):=HEF.o.trans (by rw[J5];rfl);clear HEF;go_wp2_with fail;go_ret2;refine⟨.slice none 0 0,by rw[IL.o];rfl,?_,Fw⟩;rw[IL.o];exact cS
 |true=>
  have IL:Hy (ig ⟨L s,b⟩=if fM.isPrefixOf (L s)||ew.isPrefixOf (L s)then([],40)else if L s=[]then([],0)else([bS (L s)],0)):=HEF.o.trans (by rw[J5];rfl);clear HEF J5;generalize h1:fM.isPrefixOf (L s)=p1 at*;generalize h2:ew.isPrefixOf (L s)=p2 at*;have H1:Hy ((L (⟨#[60,101,115,105,58]⟩:ByteArray)).isPrefixOf (L s)=p1):=h1;have H2:Hy ((L (⟨#[60,47,101,115,105,58]⟩:ByteArray)).isPrefixOf (L s)=p2):=h2;clear h1 h2;cases p1 with
  |true=>
   have Fx:Hy (ig ⟨L s,b⟩=([],40)):=IL.o;clear IL H2;go_wp2_with fail;refine(oU s _ _ hs (by decide)).mono ?_;rintro e w3 ⟨rfl,rfl⟩;rw[H1.o];go_wp2_with fail;go_ret2;refine⟨.slice none 0 0,by rw[Fx.o];rfl,?_,Fw⟩;rw[Fx.o];exact cS
  |false=>
   go_wp2_with fail;refine(oU s _ _ hs (by decide)).mono ?_;rintro e w3 ⟨rfl,rfl⟩;rw[H1.o];go_wp2_with fail;refine(oU s _ _ hs (by decide)).mono ?_;rintro e w3 ⟨rfl,rfl⟩;rw[H2.o];clear H1 H2;cases p2 with
   |true=>
    have Fx:Hy (ig ⟨L s,b⟩=([],40)):=IL.o;clear IL;go_wp2_with fail;go_ret2;refine⟨.slice none 0 0,by rw[Fx.o];rfl,?_,Fw⟩;rw[Fx.o];exact cS
   |false=>
    have Fx:Hy (ig ⟨L s,b⟩=if L s=[]then([],0)else([bS (L s)],0)):=IL.o;clear IL;go_wp2_with fail
    ·have h:s.toList.isEmpty=true:=by assumption
     have h:L s=[]:=by simpa[cw]using h
     go_ret2;refine⟨.slice none 0 0,by rw[Fx.o,ae h];rfl,?_,Fw⟩;rw[Fx.o,ae h];exact cS
    ·have h:s.toList.isEmpty=false:=by assumption
     have h:¬L s=[]:=by simpa[cw]using h
     go_ret2;refine⟨.slice (some ⟨w2.heap.size,0,none⟩) 1 1,by rw[Fx.o,aa h];rfl,?_,Fw.alloc (by omega) _⟩;rw[Fx.o,aa h];refine ss (cs:=[.int .i64 0,.string s,.slice none 0 0]) (bL.new w2 75 #[.int .i64 0,.string s,.slice none 0 0]) (show w.heap.size<=w2.heap.size by omega) ?_ rfl;have:=ke (w:=w2.alloc (.cells #[.int .i64 0,.string s,.slice none 0 0] 75)) (F:=fun g=>w.heap.size<=g) (k:=0) (t:=L s) (l:=[]) (va:=.slice none 0 0) cS;rw[qo]at this;exact this
theorem b8.as5{w:World}{base:Nat}{e:TypeId}{G:Nat->Prop}{v:Value}{lN:List bG}{u:bG}(h:b8 w base e 3 G v ((lN++[u]).map bG.gv)):
 ∃g cap,v=.slice (some ⟨g,0,none⟩) (lN.length+1) cap/\base<=g/\g<w.heap.size/\w.cell? ⟨g,lN.length*3,none⟩=some (.int .i64 u.kind)/\w.cell? ⟨g,lN.length*3+1,none⟩=some (.string (bs u.text))/\
  w.frozen? ⟨g,lN.length*3+1,none⟩=false/\
  ∀x,b8 (w.setCell ⟨g,lN.length*3+1,none⟩ (.string (bs x))) base e 3 G v ((lN++[{u with text:=x}]).map bG.gv)/\w.grownBy (w.setCell ⟨g,lN.length*3+1,none⟩ (.string (bs x))) (some g):=by
 obtain⟨xs,ho,hr⟩:=h;have fH:((lN++[u]).map bG.gv).length=lN.length+1:=by simp
 rw[fH]at ho;rw[aK]at hr;obtain⟨a,b,rfl,h1,h2⟩:=fW.split hr;have Ya:=h1.length;rw[ah]at Ya;obtain⟨c,d,rfl,_,h3,h4⟩:=gF.1 h2;have h4:d=[]:=jt.1 h4;subst h4;obtain⟨va,rfl,vC⟩:=zN h3;obtain⟨hl,h0⟩:=id ho;rcases h0 with⟨_,h0⟩|⟨g,cap,S7,rfl,hg,hh,hn,hm,hc,ht⟩
 ·omega
 have xB:(a++[Value.int .i64 u.kind,.string (bs u.text),va])[lN.length*3]?=some (.int .i64 u.kind):=by rw[List.getElem?_append_right (by omega),Ya,Nat.sub_self];rfl
 have zG:(a++[Value.int .i64 u.kind,.string (bs u.text),va])[lN.length*3+1]?=some (.string (bs u.text)):=by
  rw[List.getElem?_append_right (by omega),Ya,show lN.length*3+1-lN.length*3=1 by omega];rfl
 simp only[List.append_nil]at ho;refine⟨g,cap,rfl,hg,(Array.getElem?_eq_some_iff.1 hh).1,?_,?_,ho.frozenAt _,fun x=>?_⟩
 ·rw[ho.cellAt _ (by omega)];exact xB
 ·rw[ho.cellAt _ (by omega)];exact zG
 ·obtain⟨h5,h6⟩:=ho.stored (lN.length*3+1) (.string (bs x));refine⟨⟨a++[.int .i64 u.kind,.string (bs x),va],?_,?_⟩,h6⟩
  ·have KH:((lN++[{u with text:=x}]).map bG.gv).length=lN.length+1:=by simp
   rw[KH];have e:(a++[Value.int .i64 u.kind,.string (bs u.text),va]).set (lN.length*3+1) (.string (bs x))=a++[.int .i64 u.kind,.string (bs x),va]:=by
    rw[List.set_append,aa (by omega),Ya,show lN.length*3+1-lN.length*3=1 by omega];rfl
   exact e▸h5
  ·have ai0:∀{l:List GV} {ys:List Value},fW w (fun k=>G k/\some k≠(Value.slice (some ⟨g,0,none⟩) (lN.length+1) cap).ownBlock) 3 l ys->
    fW (w.setCell ⟨g,lN.length*3+1,none⟩ (.string (bs x))) (fun k=>G k/\some k≠(Value.slice (some ⟨g,0,none⟩) (lN.length+1) cap).ownBlock) 3 l ys:=
    fun hh=>fW.mono (fun _ h=>h) (fun k hk bW=>h6.block k bW hk.2) _ _ _ hh
   rw[aK];refine fW.append ?_ (ai0 h1);refine lp ?_ rfl;have as6:=GR.mono (w':=w.setCell ⟨g,lN.length*3+1,none⟩ (.string (bs x))) (fun _ h=>h) (fun k hk bW=>h6.block k bW hk.2) _ _ vC;exact ke as6
theorem IM(o:List bG)(t:bG):(bV o t).length<=o.length+1:=by
 unfold bV;split
 ·simp
 ·split
  ·omega
  ·split
   ·split
    ·rw[af,List.length_dropLast];simp only[ak,aD];omega
    ·simp
   ·simp
theorem pU:∀(l:List bG) (o:List bG),(l.foldl bV o).length<=o.length+l.length
 |[],o=>by simp
 |t::l,o=>by
  have h1:=pU l (bV o t);have h2:=IM o t;simp only[List.foldl_cons,ak];omega
theorem vJ(l:List bG):(eV l).length<=l.length:=by
 have:=pU l []
 simpa[eV]using this
def bT(l:List bG):Nat:=(l.map fun t=>t.text.length).sum
theorem dt(a b:List bG):bT (a++b)=bT a+bT b:=by simp[bT]
theorem IN(o:List bG)(t:bG):bT (bV o t)<=bT o+t.text.length:=by
 unfold bV;split
 ·rw[dt];simp[bT]
 ·split
  ·omega
  ·split
   ·rename_i u hu;obtain⟨lN,rfl⟩:∃lN,o=lN++[u]:=by
     rcases List.eq_nil_or_concat o with rfl|⟨i,x,rfl⟩
     ·simp at hu
     ·rw[List.concat_eq_append]at hu|-;simp at hu;subst hu;exact⟨i,rfl⟩
    split
    ·rw[List.dropLast_concat,dt,dt];simp[bT];omega
    ·rw[dt];simp[bT]
   ·rw[dt];simp[bT]
theorem pV:∀(l:List bG) (o:List bG),bT (l.foldl bV o)<=bT o+bT l
 |[],o=>by simp[bT]
 |t::l,o=>by
  have h1:=pV l (bV o t);have h2:=IN o t;have h3:bT (t::l)=t.text.length+bT l:=by simp[bT]
  rw[h3,List.foldl_cons];omega
theorem rD(l:List bG):bT (eV l)<=bT l:=by
 have:=pV l []
 simpa[eV,bT]using this
theorem sG(l:List bG)(k:Nat)(h:k<l.length):bT (l.take k)+l[k].text.length<=bT l:=by
 have h1:l=l.take (k+1)++l.drop (k+1):=(bt _ _).symm;have h2:=congrArg bT h1;rw[dt,aC h,dt]at h2;have h3:bT [l[k]]=l[k].text.length:=by simp[bT]
 omega
theorem Db(l:List bG)(v:Value)(F:Nat->Prop)(w:World)(hv:GR w F (.row 3 (l.map bG.gv)) [v])(hl:l.length<=10000000)(hs:bT l<=100000000):
 Calls prog 63 #[v] w fun e w'=>∃v',e=.returned v'/\b8 w' w.heap.size 75 3 (fun g=>F g/\g<w.heap.size) v' ((eV l).map bG.gv)/\Below w.heap.size w w':=by
 obtain⟨A,c,rfl,zQ,mz,dS⟩:=iG (GR.du _ _ hv);have ub:=bD dS;clear dS hv mz;go_enter func63,ntmps63;go_wp2_with fail;go_loopw [3,5,6,9] (fun v _ _ i wr=>∃(k:Nat) (o:List bG),k<=l.length/\i=.int .i64 k/\Below w.heap.size w wr/\b8 wr w.heap.size 75 3 (fun g=>F g/\g<w.heap.size) v (o.map bG.gv)/\
  Hy (o=eV (l.take k)))
  (fun _ _ _ i wr=>l.length-(intOf i).toNat)
 case atStart=>exact⟨0,[],ax _,rfl,aF _ _,b8.nil _ _ _ _ _,rfl⟩
 case round=>
  obtain⟨k,o,hk,rfl,hb,ho,HO⟩:=hrel;by_cases bW:k<l.length
  ·obtain⟨b,off,rfl,⟨_,tT⟩,dS⟩:=ub.o (by rintro rfl;simp at bW);obtain⟨va,c0,c1,c2,vC⟩:=dS k bW;have e0:=(hb.cell (p:=⟨b,off+k*3,none⟩) tT).trans c0;have e1:=(hb.cell (p:=⟨b,off+k*3+1,none⟩) tT).trans c1;have e2:=(hb.cell (p:=⟨b,off+k*3+2,none⟩) tT).trans c2;have SM:=bD vC;clear c0 c1 c2 dS vC tT;obtain⟨Av,cv,rfl,-,-,-⟩:=dV SM.o;have sk:Hy (eV (l.take (k+1))=bV (eV (l.take k)) l[k]):=by
    rw[Hy,eV,aC bW,List.foldl_append];rfl
   have Fy:(eV (l.take k)).length<=k/\bT (eV (l.take k))+l[k].text.length<=100000000:=by
    refine⟨au (vJ _) (by simp;omega),?_⟩;have h1:=rD (l.take k);have h2:=sG l k bW;omega
   rw[<-HO.o]at Fy;obtain⟨Fz,hos⟩:=Fy;generalize so:l[k]=t at*;have mq:=bD so;clear so;obtain⟨Ao,co,hvo⟩:=ho.form;subst hvo;rw[ah]at ho|-;obtain⟨N,hN⟩:∃N,N=o.length:=⟨_,rfl⟩;rw[<-hN]at ho Fz|-;have KI:Hy (b8 ((wr.alloc (.cells #[.int .i64 t.kind,.string (bs t.text),.slice Av t.bK.length cv] 75)).alloc (.cells #[.int .i64 t.kind,.string (bs t.text),.slice Av t.bK.length cv] 75)) w.heap.size 75 3 (fun g=>F g/\g<w.heap.size) (.slice Ao N co) (o.map bG.gv)):=
    ho.below ((cU _ _).alloc (by simp) _)
   have WH:=hb.size;have HC:Hy (mR ((wr.alloc (.cells #[.int .i64 t.kind,.string (bs t.text),.slice Av t.bK.length cv] 75)).alloc (.cells #[.int .i64 t.kind,.string (bs t.text),.slice Av t.bK.length cv] 75)) (fun _=>True) (some ⟨wr.heap.size+1,0,none⟩) [.int .i64 t.kind,.string (bs t.text),.slice Av t.bK.length cv]):=by
    have:=pz (bL.new (wr.alloc (.cells #[.int .i64 t.kind,.string (bs t.text),.slice Av t.bK.length cv] 75)) 75 [.int .i64 t.kind,.string (bs t.text),.slice Av t.bK.length cv].toArray);rw[size_alloc]at this;exact this
   have HG:Hy (fW ((wr.alloc (.cells #[.int .i64 t.kind,.string (bs t.text),.slice Av t.bK.length cv] 75)).alloc (.cells #[.int .i64 t.kind,.string (bs t.text),.slice Av t.bK.length cv] 75)) (fun k=>(F k/\k<w.heap.size)/\some k≠(Value.slice Ao N co).ownBlock) 3 [t.gv] [.int .i64 t.kind,.string (bs t.text),.slice Av t.bK.length cv]):=by
    refine lp (ke ?_) rfl;have jL:Below w.heap.size w ((wr.alloc (.cells #[.int .i64 t.kind,.string (bs t.text),.slice Av t.bK.length cv] 75)).alloc (.cells #[.int .i64 t.kind,.string (bs t.text),.slice Av t.bK.length cv] 75)):=
     (hb.alloc WH _).alloc (by rw[size_alloc];omega) _
    refine GR.mono (fun x hx=>⟨hx,fun e=>?_⟩) (fun x hx bW=>jL.block x bW) _ _ SM.o;have:=(ho.lt x e.symm).1;have:=hx.2;omega
   have HL:Hy ((o.map bG.gv).length+[t.gv].length<=maxLen/\((o.map bG.gv).length+[t.gv].length)*48<=140737488355328/\
    w.heap.size<=((wr.alloc (.cells #[.int .i64 t.kind,.string (bs t.text),.slice Av t.bK.length cv] 75)).alloc (.cells #[.int .i64 t.kind,.string (bs t.text),.slice Av t.bK.length cv] 75)).heap.size/\N+1=(o.map bG.gv++[t.gv]).length):=by
    refine⟨?_,?_,?_,?_⟩
    ·simp[maxLen];omega
    ·simp;omega
    ·rw[size_alloc,size_alloc];omega
    ·simp;omega
   have It:Hy (∀A' c' w',b8 w' w.heap.size 75 3 (fun g=>F g/\g<w.heap.size) (.slice A' (N+1) c') (o.map bG.gv++[t.gv])->
    ((wr.alloc (.cells #[.int .i64 t.kind,.string (bs t.text),.slice Av t.bK.length cv] 75)).alloc (.cells #[.int .i64 t.kind,.string (bs t.text),.slice Av t.bK.length cv] 75)).grownBy w' (Value.slice Ao N co).ownBlock->
    b8 w' w.heap.size 75 3 (fun g=>F g/\g<w.heap.size) (.slice A' (N+1) c') ((o++[t]).map bG.gv)/\Below w.heap.size w w'):=by
    intro A' c' w' h1 h2;refine⟨by rw[aK];exact h1,?_⟩;exact((hb.alloc WH _).alloc (by rw[size_alloc];omega) _).trans (bN h2 (by rw[size_alloc,size_alloc];omega) (fun x hx=>(ho.lt x hx).1))
   have HN:=bD hN;clear hN;by_cases tW:t.kind=0
   ·have HK:=bD tW;have dG:(t.kind !=0)=false:=by rw[tW];rfl
    have aC5:(t.kind==0)=true:=by rw[tW];rfl
    clear tW;by_cases NA:t.text=[]
    ·have HT:=bD NA;have cu:(bs t.text).toList.isEmpty=true:=by rw[NA,bQ];rfl
     have fm:(bs t.text).toList=[]:=by rw[NA,bQ]
     clear NA;go_wp2_with fail;refine⟨⟨k+1,o,by omega,by go_num,hb.alloc WH _,ho.below (cU _ _),?_⟩,by simp[intOf];omega⟩;rw[Hy,sk.o,<-HO.o,bV,aa (by rw[HK.o];simp),ae HT.o]
    ·have HT:=bD NA;have cu:(bs t.text).toList.isEmpty=false:=by rw[bQ];cases h:t.text with|nil=>exact aX h NA|cons _ _=>rfl
     have fm:¬(bs t.text).toList=[]:=by rw[bQ];exact NA
     clear NA;rcases List.eq_nil_or_concat o with ho0|⟨lN,u,ho0⟩
     ·subst ho0;obtain rfl:N=0:=HN.o;go_wp2_with (at_builtin;go_loud (refine gX rfl _ _ _ rfl nI rfl KI.o rfl rfl HC.o HG.o HL.o.1 HL.o.2.1 HL.o.2.2.1 HL.o.2.2.2 ?_);intro Zw Zx Tf bZ cO fG;have HW:=bD bZ;have tV:=bD cO;clear bZ cO fG);obtain⟨f1,f2⟩:=It.o _ _ _ HW.o tV.o;refine⟨⟨k+1,[t],by omega,by go_num,f2,f1,?_⟩,by simp[intOf];omega⟩;rw[Hy,sk.o,<-HO.o,bV,aa (by rw[HK.o];simp),aa HT.o];rfl
     ·rw[List.concat_eq_append]at ho0;subst ho0;obtain rfl:N=lN.length+1:=by rw[HN.o];simp
      obtain⟨g,cap,hve,mn,uc,q0,q1,q2,ai1⟩:=ho.as5;simp only[Value.slice.injEq]at hve;obtain⟨rfl,-,rfl⟩:=hve;have as7:=bD ai1;clear ai1;by_cases huk:u.kind=0
      ·have HU:=bD huk;have eY:(u.kind==0)=true:=by rw[huk];rfl
       clear huk;have Ff:u.text.length+t.text.length<=100000000:=by
        rw[dt]at hos;have:bT [u]=u.text.length:=by simp[bT]
        omega
       have z1:(bs u.text).size=u.text.length:=bJ _;have z2:(bs t.text).size=t.text.length:=bJ _;go_wp2_with fail;go_region;go_wp2_with fail;obtain⟨f1,f2⟩:=as7.o (u.text++t.text);rw[<-jc]at f1 f2;have f3:Below w.heap.size w (wr.setCell ⟨g,lN.length*3+1,none⟩ (.string (bs u.text++bs t.text))):=hb.trans (bN f2 WH (fun x hx=>by injection hx with hx;omega));have f4:=f3.size;refine⟨⟨k+1,lN++[{u with text:=u.text++t.text}],by omega,by go_num,(f3.alloc f4 _).drew,f1.below ((cU _ _).drew),?_⟩,by simp[intOf];omega⟩;rw[Hy,sk.o,<-HO.o,bV,aa (by rw[HK.o];simp),aa HT.o,List.getLast?_concat];simp only[ae HU.o,List.dropLast_concat]
      ·have HU:=bD huk;have eY:(u.kind==0)=false:=by rw[ai];exact huk
       clear huk;go_wp2_with (at_builtin;go_loud (refine gX rfl _ _ _ rfl nI rfl KI.o rfl rfl HC.o HG.o HL.o.1 HL.o.2.1 HL.o.2.2.1 HL.o.2.2.2 ?_);intro Zw Zx Tf bZ cO fG;have HW:=bD bZ;have tV:=bD cO;clear bZ cO fG);obtain⟨f1,f2⟩:=It.o _ _ _ HW.o tV.o;refine⟨⟨k+1,(lN++[u])++[t],by omega,by go_num,f2,f1,?_⟩,by simp[intOf];omega⟩;rw[Hy,sk.o,<-HO.o,bV,aa (by rw[HK.o];simp),aa HT.o,List.getLast?_concat];simp only[aa HU.o]
   ·have HK:=bD tW;have dG:(t.kind !=0)=true:=by rw[aQ];exact tW
    clear tW;go_wp2_with (at_builtin;go_loud (refine gX rfl _ _ _ rfl nI rfl KI.o rfl rfl HC.o HG.o HL.o.1 HL.o.2.1 HL.o.2.2.1 HL.o.2.2.2 ?_);intro Zw Zx Tf bZ cO fG;have HW:=bD bZ;have tV:=bD cO;clear bZ cO fG);obtain⟨f1,f2⟩:=It.o _ _ _ HW.o tV.o;refine⟨⟨k+1,o++[t],by omega,by go_num,f2,f1,?_⟩,by simp[intOf];omega⟩;rw[Hy,sk.o,<-HO.o,bV,ae HK.o]
  ·go_wp2_with fail;go_ret;refine⟨_,rfl,?_,hb⟩;have e:=HO.o;rw[aO (by omega)]at e;rw[<-e];exact ho
theorem eN.cG{α β:Type}{o:eN α}{f:α->Bt->Nat->eN β}{b:β}{r:Bt}{k:Nat}(h:o.bind f=.ok b r k):∃a r1 k1,o=.ok a r1 k1/\f a r1 k1=.ok b r k:=by
 cases o with
 |ok a r1 k1=>exact⟨a,r1,k1,rfl,h⟩
 |short=>cases h
 |bad e=>cases h
theorem kh{r:Bt}{k:Nat}{c:UInt8}{r':Bt}{k':Nat}(h:dy r k=.ok c r' k'):r'=r/\k'=k/\k<400/\∃t,r=c::t:=by
 unfold dy at h;split at h
 ·cases h
 ·split at h
  ·cases h
  ·injection h with h1 h2 h3
   subst h1 h2 h3;exact⟨rfl,rfl,by omega,_,rfl⟩
theorem gK:∀{m r:Bt} {k:Nat} {u:Unit} {r':Bt} {k':Nat},cZ m r k=.ok u r' k'->r'.length+k'=r.length+k/\k'=k+m.length
 |[],r,k,u,r',k',h=>by
  simp only[cZ]at h;injection h with _ h1 h2
  subst h1 h2;simp
 |c::m,r,k,u,r',k',h=>by
  rw[cZ]at h;obtain⟨x,r1,k1,h1,h2⟩:=eN.cG h;obtain⟨rfl,rfl,_,t,rfl⟩:=kh h1;split at h2
  ·obtain⟨h3,h4⟩:=gK h2;simp only[List.tail_cons]at h3;simp only[ak];omega
  ·cases h2
theorem kQ{p:UInt8->Bool}:∀{r:Bt} {k:Nat} {l r':Bt} {k':Nat},fg p r k=.ok l r' k'->r'.length+k'=r.length+k/\k'=k+l.length
 |[],k,l,r',k',h=>by simp[fg]at h
 |c::r,k,l,r',k',h=>by
  simp only[fg]at h;split at h
  ·cases h
  ·split at h
   ·obtain⟨l1,r1,k1,h1,h2⟩:=eN.cG h;injection h2 with h3 h4 h5
    obtain⟨h6,h7⟩:=kQ h1;subst h3 h4 h5;simp only[ak];omega
   ·injection h with h3 h4 h5
    subst h3 h4 h5;simp
theorem qB{r:Bt}{k:Nat}{l r':Bt}{k':Nat}(h:eO r k=.ok l r' k'):r'.length+k'=r.length+k/\k'=k+l.length/\l≠[]:=by
 rw[eO]at h;obtain⟨l1,r1,k1,h1,h2⟩:=eN.cG h;split at h2
 ·cases h2
 ·rename_i db;injection h2 with h3 h4 h5
  subst h3 h4 h5;exact⟨(kQ h1).1,(kQ h1).2,db⟩
theorem om:∀{n:Nat} {nm:Bt} {at_:List bY} {r:Bt} {k:Nat} {t:bG} {r':Bt} {k':Nat},dz n nm at_ r k=.ok t r' k'->
 r'.length+k'=r.length+k/\k<k'/\t.text=nm/\(t.kind=1\/t.kind=3)
 |0,_,_,_,_,_,_,_,h=>by simp[dz]at h
 |n+1,nm,at_,r,k,t,r',k',h=>by
  rw[dz]at h;obtain⟨wF,r1,k1,h1,h2⟩:=eN.cG h;obtain⟨a1,a2⟩:=kQ h1;obtain⟨c,r2,k2,h3,h4⟩:=eN.cG h2;obtain⟨rfl,rfl,_,t2,rfl⟩:=kh h3;simp only[ak]at a1;unfold gO at h4;split at h4
  ·injection h4 with b1 b2 b3
   subst b1 b2 b3;simp only[List.tail_cons];exact⟨by omega,by omega,by simp,by simp⟩
  ·split at h4
   ·obtain⟨_,r5,k5,h5,h6⟩:=eN.cG h4;obtain⟨c1,c2⟩:=gK h5;injection h6 with b1 b2 b3
    subst b1 b2 b3;simp only[List.tail_cons]at c1;exact⟨by omega,by omega,by simp,by simp⟩
   ·split at h4
    ·cases h4
    ·obtain⟨a,r5,k5,h5,h6⟩:=eN.cG h4;obtain⟨c1,c2,_⟩:=qB h5;obtain⟨_,r6,k6,h7,h8⟩:=eN.cG h6;obtain⟨d1,d2⟩:=gK h7;simp only[ak]at c1;unfold qx at h8;split at h8
     ·cases h8
     ·unfold su at h8;obtain⟨_,r9,k9,h9,KJ⟩:=eN.cG h8;obtain⟨e1,e2⟩:=gK h9;obtain⟨v,r11,k11,Bk,II⟩:=eN.cG KJ;obtain⟨f1,f2⟩:=kQ Bk;obtain⟨_,r13,k13,h13,h14⟩:=eN.cG II;obtain⟨g1,g2⟩:=gK h13;obtain⟨i1,i2,i3,i4⟩:=om h14;exact⟨by omega,by omega,i3,i4⟩
theorem xC{m s:Bt}{t:bG}{r:Bt}{k:Nat}(h:ml m s 0=.ok t r k):r.length+k=s.length/\t.text.length+m.length<=k/\t.kind≠0/\0<k:=by
 rw[ml]at h;obtain⟨_,r1,k1,h1,h2⟩:=eN.cG h;obtain⟨a1,a2⟩:=gK h1;obtain⟨nm,r3,k3,h3,h4⟩:=eN.cG h2;obtain⟨b1,b2,b3⟩:=qB h3;have CQ:0<nm.length:=List.length_pos_iff.2 b3;split at h4
 ·obtain⟨_,r5,k5,h5,h6⟩:=eN.cG h4;obtain⟨c1,c2⟩:=kQ h5;obtain⟨_,r7,k7,h7,h8⟩:=eN.cG h6;obtain⟨d1,d2⟩:=gK h7;injection h8 with e1 e2 e3
  subst e1 e2 e3;refine⟨by omega,?_,by simp,by omega⟩
  show nm.length+m.length<=k7
  omega
 ·obtain⟨c1,c2,c3,c4⟩:=om h4;refine⟨by omega,by rw[c3];omega,by omega,by omega⟩
theorem sH{s m:Bt}:(fe s m).2.1<=s.length/\(fe s m).1.text.length<=(fe s m).2.1/\((fe s m).2.1≠0->(fe s m).1.kind≠0):=by
 unfold fe;split
 ·rename_i t r k h;obtain⟨h1,h2,h3,h4⟩:=xC h;exact⟨by show k<=_;omega,by show t.text.length<=k;omega,fun _=>h3⟩
 ·simp[Py]
 ·simp[Py]
end Go.Proofs.YtejafaaihodehaaGreatDoor
