/- Part 31. -/
import Derived.Test.YtejafaaihodehaaGreatDoorZ30
set_option linter.all false
set_option maxRecDepth 100000
set_option maxHeartbeats 8000000
namespace Go.Proofs.YtejafaaihodehaaGreatDoor
open Go Go.RowKit Tryz
abbrev nK:=Bt->Bt->Bt × Bool
def DG:Bt:=[125,41,124,39,10,13]
def Cj:Bt:=[39,41,124,10,13]
def runN(p:UInt8->Bool)(s:Bt):Nat:=(s.takeWhile p).length
theorem CF(p:UInt8->Bool)(s:Bt):runN p s<=s.length:=Up p s
def Ck(r:Bt):Option (Bt × Bt):=
 if Lib.hasPrefix r [123]then
  if runN (nc DG) (r.drop 1)=0 then none
  else if Lib.hasPrefix (r.drop (1+runN (nc DG) (r.drop 1))) [125]then some ((r.take (1+runN (nc DG) (r.drop 1))).drop 1,r.drop (2+runN (nc DG) (r.drop 1)))
  else none
 else some ([],r)
def jD(r:Bt):Option (Bt × Bt):=
 if Lib.hasPrefix r [124,39]then
  if(Lib.cut (r.drop 2) [39]).2.2 then some ((Lib.cut (r.drop 2) [39]).1,(Lib.cut (r.drop 2) [39]).2.1)else none
 else if Lib.hasPrefix r [124]then some ((r.take (1+runN (nc Cj) (r.drop 1))).drop 1,r.drop (1+runN (nc Cj) (r.drop 1)))
 else some ([],r)
def fS(val:nK)(s nm key jx r:Bt):Bt × Nat:=
 if Lib.hasPrefix r [41]then(if(val nm key).2 then(val nm key).1 else jx,s.length-r.length+1)else([],0)
def j9(val:nK)(s:Bt):Bt × Nat:=
 if Lib.hasPrefix s [36,40]then
  if runN rL (s.drop 2)=0 then([],0)
  else match Ck ((s.drop 2).drop (runN rL (s.drop 2)))with
   |none=>([],0)
   |some (key,r1)=>match jD r1 with
    |none=>([],0)
    |some (jx,r2)=>fS val s ((s.drop 2).take (runN rL (s.drop 2))) key jx r2
 else([],0)
def qE(v:cK)(val:nK):Prop:=∀nm key:Bt,nm.length<=100000->key.length<=100000->∀W,eK W->
 Calls prog 149 #[v.val,.string (bs nm),.string (bs key)] W fun e W'=>e=.returned (.tuple #[.string (bs (val nm key).1),.bool (val nm key).2])/\Below W.heap.size W W'
theorem ic(w:World):Calls prog 144 #[] w fun e w'=>e=.returned (.tuple #[.string (bs []),.int .i64 0])/\w=w':=by
 go_enter func144,ntmps144;go_wp2_with fail;go_ret2;exact⟨rfl,rfl⟩
theorem AG(bad:ByteArray)(w:World):Calls prog 148 #[.string bad] w fun e w'=>∃g,e=.returned (.func (.func 169) #[] #[.pointer (some ⟨g,0,none⟩)])/\w'.cell? ⟨g,0,none⟩=some (.string bad)/\Below w.heap.size w w':=by
 have h1:=bD ((bL.new w 9 #[.string bad]).cell 0);have h2:=bD (((aF w.heap.size w)).alloc (dv _) (.cells #[.string bad] 9));go_enter func148,ntmps148;go_wp2_with fail;go_ret;exact⟨_,rfl,h1.out,h2.out⟩
theorem im(p:Bt)(k:Nat):(bs p).extract k (bs p).size=bs (p.drop k):=by rw[gW,bJ,aM]
theorem oF(p:Bt)(k:Nat):(bs p).extract 0 k=bs (p.take k):=by rw[gW,bm]
theorem vP(v:cK)(val:nK)(jj:qE v val)(s:Bt)(hs:s.length<=100000)(w:World)(hg:eK w):
 Calls prog 109 #[v.val,.string (bs s)] w fun e w'=>e=.returned (.tuple #[.string (bs (j9 val s).1),.int .i64 (j9 val s).2])/\Below w.heap.size w w':=by
 have HV:Hy (∀nm key:Bt,nm.length<=100000->key.length<=100000->∀W,eK W->Calls prog 149 #[.agg #[.string (bs v.e0),.string (bs v.e1),.string (bs v.e2),.string (bs v.e3),.string (bs v.e4),.string (bs v.e5)],.string (bs nm),.string (bs key)] W fun e W'=>e=.returned (.tuple #[.string (bs (val nm key).1),.bool (val nm key).2])/\Below W.heap.size W W'):=jj;clear jj;have cg:Below w.heap.size w (w.alloc (.cells #[.string (bs v.e0),.string (bs v.e1),.string (bs v.e2),.string (bs v.e3),.string (bs v.e4),.string (bs v.e5)] 23)):=cU _ _;have HE:=bD (bL.new w 23 #[.string (bs v.e0),.string (bs v.e1),.string (bs v.e2),.string (bs v.e3),.string (bs v.e4),.string (bs v.e5)]);have HB:=bD cg;have HG:=bD (fun W (hb:Below w.heap.size w W)=>hg.below hb);have zI:Hy (j9 val s=if Lib.hasPrefix s [36,40]then
  if runN rL (s.drop 2)=0 then([],0)
  else match Ck ((s.drop 2).drop (runN rL (s.drop 2)))with
   |none=>([],0)
   |some (key,r1)=>match jD r1 with
    |none=>([],0)
    |some (jx,r2)=>fS val s ((s.drop 2).take (runN rL (s.drop 2))) key jx r2
  else([],0)):=rfl
 generalize j9 val s=RF at*;have nF:=bD hs;clear cg hg hs;simp only[cK.val];go_enter func109,ntmps109;go_upto_region 2 with(fail)
 change Code.wp _ _ _ _ (w.alloc (.cells #[.string (bs v.e0),.string (bs v.e1),.string (bs v.e2),.string (bs v.e3),.string (bs v.e4),.string (bs v.e5)] 23));generalize w.alloc (.cells #[.string (bs v.e0),.string (bs v.e1),.string (bs v.e2),.string (bs v.e3),.string (bs v.e4),.string (bs v.e5)] 23)=wc at*;generalize Dz:w.heap.size=P at*;have kz:=bD Dz;clear Dz;have HE:Hy (bL wc P 23 #[.string (bs v.e0),.string (bs v.e1),.string (bs v.e2),.string (bs v.e3),.string (bs v.e4),.string (bs v.e5)]):=HE;have P7:=bD (jd (bs s) ⟨#[36,40]⟩ wc);rw[eB,show L (⟨#[36,40]⟩:ByteArray)=[36,40]from rfl]at P7;cases hp:Lib.hasPrefix s [36,40]with
 |false=>
  rw[show eI s [36,40]=(s,false)from by unfold eI;rw[hp];rfl]at P7;have wQ:Hy (RF=([],0)):=by rw[Hy,zI.o,hp];rfl
  have Tp:=bD (tu (bs s) (by rw[bJ];have:=nF.o;omega) wc);clear zI;go_wp2_with fail;refine P7.o.mono ?_;rintro e w1 ⟨rfl,rfl⟩;go_wp2_with fail;refine Tp.o.mono ?_;rintro e w1 ⟨rfl,rfl⟩;go_wp2_with fail;refine(ic wc).mono ?_;rintro e w9 ⟨rfl,rfl⟩;go_wp2_with fail;go_ret2;exact⟨by rw[wQ.o];rfl,by first|exact HB.o|(rw[kz.o];exact HB.o)⟩
 |true=>
  have hpl:=eT hp;obtain⟨R,hR⟩:∃R,R=s.drop 2:=⟨_,rfl⟩;rw[show eI s [36,40]=(R,true)from by unfold eI;rw[hp,hR];rfl]at P7;have zI:Hy (RF=if runN rL R=0 then([],0)
   else match Ck (R.drop (runN rL R))with
    |none=>([],0)
    |some (key,r1)=>match jD r1 with
     |none=>([],0)
     |some (jx,r2)=>fS val s (R.take (runN rL R)) key jx r2):=by rw[Hy,zI.o,hp,hR];rfl
  have hRl:R.length+2=s.length:=by rw[hR,aj];have:2<=s.length:=hpl;omega
  have Tp:=bD (tu (bs R) (by rw[bJ];have:=nF.o;omega) wc);rw[eB]at Tp;have aD7:=CF rL R;change Hy (Calls _ _ _ _ fun e w'=>e=.returned (.int .i64 (runN rL R:Nat))/\wc=w')at Tp;generalize runN rL R=N at*;have LC:=bD hRl;clear hp hpl hR hRl;go_wp2_with fail;refine P7.o.mono ?_;rintro e w1 ⟨rfl,rfl⟩;go_wp2_with fail;refine Tp.o.mono ?_;rintro e w1 ⟨rfl,rfl⟩;clear P7 Tp;by_cases hN:N=0
  ·have wQ:Hy (RF=([],0)):=by rw[Hy,zI.o,ae hN]
   have hNi:(N:Int)=0:=by omega
   clear zI;go_wp2_with fail;refine(ic wc).mono ?_;rintro e w9 ⟨rfl,rfl⟩;go_wp2_with fail;go_ret2;exact⟨by rw[wQ.o];rfl,by first|exact HB.o|(rw[kz.o];exact HB.o)⟩
  ·have mN:Hy (RF=match Ck (R.drop N)with
    |none=>([],0)
    |some (key,r1)=>match jD r1 with
     |none=>([],0)
     |some (jx,r2)=>fS val s (R.take N) key jx r2):=by rw[Hy,zI.o,aa hN]
   have hNi:((N:Int)==0)=false:=by simp;omega
   have hN0:(0:Int)<=(N:Int):=by omega
   have hN1:(N:Int)<=(R.length:Int):=by omega
   have zG:=oF R N;have tp:=im R N;have Xk:Hy ((R.drop N).length+N=R.length):=by rw[Hy,aj];omega
   have Ro:Hy ((R.take N).length<=100000):=by rw[Hy,ay];have:=LC.o;have:=nF.o;omega
   generalize R.take N=NM at*;generalize R.drop N=R1 at*;have E9:=bD (strings_HasPrefix (bs R1) ⟨#[123]⟩ wc);rw[ga,show(⟨#[123]⟩:ByteArray).data.toList=[123]from rfl]at E9;clear zI hN;go_wp2_with fail;refine E9.o.mono ?_;rintro e w1 ⟨rfl,jz⟩;have jz:=jz.symm;subst jz;clear E9 jz zG tp;cases hk:Lib.hasPrefix R1 [123]with
   |true=>
    have aD8:1<=R1.length:=eT hk;have X7:(1:Int)<=(R1.length:Int):=by omega
    have xZ:=im R1 1;have yi:((bs R1).size:Int)=(R1.length:Int):=by rw[bJ]
    have M4:(R1.drop 1).length+1=R1.length:=by rw[aj];omega
    have B8:Hy ((R1.drop 1).length<=100000):=by rw[Hy];have:=Xk.o;have:=LC.o;have:=nF.o;omega
    have HK:Hy (Ck R1=if runN (nc DG) (R1.drop 1)=0 then none
     else if Lib.hasPrefix (R1.drop (1+runN (nc DG) (R1.drop 1))) [125]then some ((R1.take (1+runN (nc DG) (R1.drop 1))).drop 1,R1.drop (2+runN (nc DG) (R1.drop 1)))
     else none):=by rw[Hy,Ck,ae hk]
    generalize R1.drop 1=R1d at*;clear hk;have zZ:Hy (∀(g:Nat) (W:World),W.cell? ⟨g,0,none⟩=some (.string ⟨#[125,41,124,39,10,13]⟩)->Calls prog 146 #[.string (bs R1d),.func (.func 169) #[] #[.pointer (some ⟨g,0,none⟩)]] W fun e w'=>e=.returned (.int .i64 (runN (nc DG) R1d:Nat))/\W=w'):=fun g W hc=>by
     have h:=sQ (bs R1d) (by rw[bJ];have:=B8.o;omega) ⟨#[125,41,124,39,10,13]⟩ g W hc;rw[eB]at h;exact h
    have YR:=CF (nc DG) R1d;generalize runN (nc DG) R1d=N2 at*;go_wp2_with fail;refine aL (S:=(fun _=>True)) (by kernel_rfl) ?_;change wpAnyH _ _ _ _ _ _ _ _ (World.drew _);refine dB 0 trivial ?_;refine dB 1 trivial ?_;refine fr 2 (fun K_ bP=>?_);go_simp;refine(AG ⟨#[125,41,124,39,10,13]⟩ _).mono ?_;rintro e wk ⟨g,rfl,YS,YT⟩;have YU:=bD YS;have J2:Below wc.heap.size wc wk:=((aF wc.heap.size wc).drew).trans YT;have E6:=bD J2;clear YS YT J2;refine bP.out _ _ trivial fun _=>?_;clear bP K_;refine fr 3 (fun K_ bP=>?_);go_simp;refine(zZ.o g wk YU.o).mono ?_;rintro e u2 ⟨rfl,rfl⟩;refine bP.out _ _ trivial fun _=>?_;clear bP K_;refine dB 4 trivial ?_;refine aJ (by kernel_rfl) ?_ _;have he:=HE.o.below E6.o HE.o.lt;have jL:=HB.o.trans (E6.o.mono (by have:=HB.o.size;rw[kz.o]at this;exact this));clear HE HB zZ E6 YU;have HE:=bD he;have HB:=bD jL;clear he jL;have PT:(1:Int)+(N2:Int)<=(R1.length:Int):=by omega
    have VL:(0:Int)<=(N2:Int):=by omega
    have hn5:(R1.length:Int)<=100000:=by have:=Xk.o;have:=LC.o;have:=nF.o;omega
    have E4:(bs R1).extract 1 (1+N2)=bs ((R1.take (1+N2)).drop 1):=gW R1 1 (1+N2);have hn6:((1:Int)+(N2:Int)).toNat=1+N2:=by omega
    by_cases hN2:N2=0
    ·have wQ:Hy (RF=([],0)):=by rw[Hy,mN.o,HK.o,ae hN2]
     have av1:((N2:Int)==0)=true:=by simp;omega
     clear mN HK;go_wp2_with fail;refine(ic wk).mono ?_;rintro e w9 ⟨rfl,rfl⟩;go_wp2_with fail;go_ret2;exact⟨by rw[wQ.o];rfl,by first|exact HB.o|(rw[kz.o];exact HB.o)⟩
    ·have av1:((N2:Int)==0)=false:=by simp;omega
     have Kb:=im R1 (1+N2);have YJ:=im R1 (2+N2);have P8:Hy (Ck R1=if Lib.hasPrefix (R1.drop (1+N2)) [125]then some ((R1.take (1+N2)).drop 1,R1.drop (2+N2))else none):=by rw[Hy,HK.o,aa hN2]
     have tJ:(R1.drop (1+N2)).length+(1+N2)=R1.length:=by rw[aj];omega
     have xK:Hy ((R1.drop (2+N2)).length<=s.length):=by rw[Hy,aj];have:=Xk.o;have:=LC.o;omega
     have LD:Hy (((R1.take (1+N2)).drop 1).length<=100000):=by rw[Hy,aj,ay];omega
     generalize R1.drop (1+N2)=R1e at*;generalize R1.drop (2+N2)=R2 at*;generalize(R1.take (1+N2)).drop 1=M5 at*;have M3:=bD (strings_HasPrefix (bs R1e) ⟨#[125]⟩ wk);rw[ga,show(⟨#[125]⟩:ByteArray).data.toList=[125]from rfl]at M3;clear HK;go_wp2_with fail;refine M3.o.mono ?_;rintro e w1 ⟨rfl,jz⟩;have jz:=jz.symm;subst jz;clear M3;cases Wp:Lib.hasPrefix R1e [125]with
     |false=>
      have wQ:Hy (RF=([],0)):=by rw[Hy,mN.o,P8.o,Wp];rfl
      clear mN P8;go_wp2_with fail;refine(ic wk).mono ?_;rintro e w9 ⟨rfl,rfl⟩;go_wp2_with fail;go_ret2;exact⟨by rw[wQ.o];rfl,by first|exact HB.o|(rw[kz.o];exact HB.o)⟩
     |true=>
      have aD9:1<=R1e.length:=eT Wp;have hn7:(2:Int)+(N2:Int)<=(R1.length:Int):=by omega
      have hn8:((2:Int)+(N2:Int)).toNat=2+N2:=by omega
      have mN:Hy (RF=match jD R2 with
       |none=>([],0)
       |some (jx,r2)=>fS val s NM M5 jx r2):=by rw[Hy,mN.o,P8.o,Wp];rfl
      clear P8 Wp;have j6:=bD (strings_HasPrefix (bs R2) ⟨#[124,39]⟩ wk);rw[ga,show(⟨#[124,39]⟩:ByteArray).data.toList=[124,39]from rfl]at j6;go_wp2_with fail;refine j6.o.mono ?_;rintro e w1 ⟨rfl,jz⟩;have jz:=jz.symm;subst jz;clear j6;cases xo:Lib.hasPrefix R2 [124,39]with
      |true=>
       have Ou:=eT xo;have Ou:2<=R2.length:=Ou;have h2i:(2:Int)<=(R2.length:Int):=by omega
       have xZ:=im R2 2;have HO:Hy (jD R2=if(Lib.cut (R2.drop 2) [39]).2.2 then some ((Lib.cut (R2.drop 2) [39]).1,(Lib.cut (R2.drop 2) [39]).2.1)else none):=by rw[Hy,jD,ae xo]
       have M4:(R2.drop 2).length<=R2.length:=by rw[aj];omega
       generalize R2.drop 2=Ji at*;have wv:=(je Ji [39]).2;have PH:=bD (jT (bs Ji) [39] (by rw[bJ];have:=xK.o;have:=nF.o;omega) wk (HG.o wk HB.o));rw[eB]at PH;have HHL:Hy (Ji.length<=R2.length):=M4;clear Ou xo M4;go_wp2_with fail;refine PH.o.mono ?_;rintro e w1 ⟨O,R3,cf,nn,rfl,Xl,rfl⟩;rw[Xl.o]at wv HO;have DH:Hy (R3.length<=s.length):=by rw[Hy];have:=xK.o;have:=HHL.o;simp only at wv;omega
       have he:=HE.o.drewN nn;have jL:=below_drewN HB.o nn;generalize wk.drewN nn=wq at*;clear HE HB Xl PH wv;have HE:=bD he;have HB:=bD jL;clear he jL;cases cf with
       |false=>
        have wQ:Hy (RF=([],0)):=by rw[Hy,mN.o,HO.o];rfl
        clear mN HO;go_wp2_with fail;refine(ic wq).mono ?_;rintro e w9 ⟨rfl,rfl⟩;go_wp2_with fail;go_ret2;exact⟨by rw[wQ.o];rfl,by first|exact HB.o|(rw[kz.o];exact HB.o)⟩
       |true=>
        have mu:Hy (RF=fS val s NM M5 O R3):=by rw[Hy,mN.o,HO.o];rfl
        clear mN HO;have Cg:=bD (strings_HasPrefix (bs R3) ⟨#[41]⟩ wq);rw[ga,show(⟨#[41]⟩:ByteArray).data.toList=[41]from rfl]at Cg;go_wp2_with fail;refine Cg.o.mono ?_;rintro e w1 ⟨rfl,jz⟩;have jz:=jz.symm;subst jz;clear Cg;cases B9:Lib.hasPrefix R3 [41]with
        |false=>
         have wQ:Hy (RF=([],0)):=by rw[Hy,mu.o];unfold fS;rw[B9];rfl
         clear mu;go_wp2_with fail;refine(ic wq).mono ?_;rintro e w9 ⟨rfl,rfl⟩;go_wp2_with fail;go_ret2;exact⟨by rw[wQ.o];rfl,by first|exact HB.o|(rw[kz.o];exact HB.o)⟩
        |true=>
         have DI:Hy (RF=(if(val NM M5).2 then(val NM M5).1 else O,s.length-R3.length+1)):=by rw[Hy,mu.o];unfold fS;rw[B9];rfl
         obtain⟨e0,e1,e2,e3,e4,e5⟩:=nB HE.o;simp at e0 e1 e2 e3 e4 e5;have BB:=bD (HV.o NM M5 Ro.o LD.o wq (HG.o wq HB.o));generalize val NM M5=VV at*;obtain⟨vv,vb⟩:=VV;simp only at BB DI;have hz:(s.length:Int)-(R3.length:Int)+1=((s.length-R3.length+1:Nat):Int):=by have:=DH.o;omega
         have rq:(0:Int)<=(s.length:Int)-(R3.length:Int):=by have:=DH.o;omega
         have vF:(s.length:Int)<=100000:=by have:=nF.o;omega
         have hz5:IntKind.i64.wrap (((bs s).size:Int)-((bs R3).size:Int))=(s.length:Int)-(R3.length:Int):=by rw[bJ,bJ];exact aI _ (by omega)
         have hz3:IntKind.i64.wrap ((s.length:Int)-(R3.length:Int))=(s.length:Int)-(R3.length:Int):=aI _ (by omega);have ZU:IntKind.i64.wrap (((s.length-R3.length+1:Nat):Int))=((s.length-R3.length+1:Nat):Int):=aI _ (by omega);clear mu;go_wp2_with fail;refine BB.o.mono ?_;rintro e w2 ⟨rfl,cu⟩;have jL:=HB.o.trans (cu.mono (by have:=HB.o.size;rw[kz.o]at this;exact this));have dm:=bD jL;clear jL cu HB HE e0 e1 e2 e3 e4 e5;cases vb with
         |true=>
          go_wp2_with fail;go_ret2;exact⟨by rw[DI.o];rfl,by first|exact dm.o|(rw[kz.o];exact dm.o)⟩
         |false=>
          go_wp2_with fail;go_ret2;exact⟨by rw[DI.o];rfl,by first|exact dm.o|(rw[kz.o];exact dm.o)⟩
      |false=>
       have zY:=bD (strings_HasPrefix (bs R2) ⟨#[124]⟩ wk);rw[ga,show(⟨#[124]⟩:ByteArray).data.toList=[124]from rfl]at zY;go_wp2_with fail;refine zY.o.mono ?_;rintro e w1 ⟨rfl,jz⟩;have jz:=jz.symm;subst jz;clear zY;cases Gr:Lib.hasPrefix R2 [124]with
       |true=>
        have av2:1<=R2.length:=eT Gr;have h3i:(1:Int)<=(R2.length:Int):=by omega
        have tS:=im R2 1;have wm:((bs R2).size:Int)=(R2.length:Int):=by rw[bJ]
        have HO:Hy (jD R2=some ((R2.take (1+runN (nc Cj) (R2.drop 1))).drop 1,R2.drop (1+runN (nc Cj) (R2.drop 1)))):=by rw[Hy,jD,aa (by rw[xo];simp),ae Gr]
        have M4:(R2.drop 1).length+1=R2.length:=by rw[aj];omega
        have B8:Hy ((R2.drop 1).length<=100000):=by rw[Hy];have:=xK.o;have:=nF.o;omega
        generalize R2.drop 1=Ji at*;clear xo Gr;have zZ:Hy (∀(g:Nat) (W:World),W.cell? ⟨g,0,none⟩=some (.string ⟨#[39,41,124,10,13]⟩)->Calls prog 146 #[.string (bs Ji),.func (.func 169) #[] #[.pointer (some ⟨g,0,none⟩)]] W fun e w'=>e=.returned (.int .i64 (runN (nc Cj) Ji:Nat))/\W=w'):=fun g W hc=>by
         have h:=sQ (bs Ji) (by rw[bJ];have:=B8.o;omega) ⟨#[39,41,124,10,13]⟩ g W hc;rw[eB]at h;exact h
        have YR:=CF (nc Cj) Ji;generalize runN (nc Cj) Ji=N3 at*;go_wp2_with fail;refine aL (S:=(fun _=>True)) (by kernel_rfl) ?_;change wpAnyH _ _ _ _ _ _ _ _ (World.drew _);refine dB 0 trivial ?_;refine dB 1 trivial ?_;refine fr 2 (fun K_ bP=>?_);go_simp;refine(AG ⟨#[39,41,124,10,13]⟩ _).mono ?_;rintro e wq ⟨g,rfl,YS,YT⟩;have YU:=bD YS;have J2:Below wk.heap.size wk wq:=((aF wk.heap.size wk).drew).trans YT;have E6:=bD J2;clear YS YT J2;refine bP.out _ _ trivial fun _=>?_;clear bP K_;refine fr 3 (fun K_ bP=>?_);go_simp;refine(zZ.o g wq YU.o).mono ?_;rintro e u2 ⟨rfl,rfl⟩;refine bP.out _ _ trivial fun _=>?_;clear bP K_;refine dB 4 trivial ?_;refine aJ (by kernel_rfl) ?_ _;have he:=HE.o.below E6.o HE.o.lt;have jL:=HB.o.trans (E6.o.mono (by have:=HB.o.size;rw[kz.o]at this;exact this));clear HE HB zZ E6 YU;have HE:=bD he;have HB:=bD jL;clear he jL;have PT:(1:Int)+(N3:Int)<=(R2.length:Int):=by omega
        have VL:(0:Int)<=(N3:Int):=by omega
        have hn5:(R2.length:Int)<=100000:=by have:=xK.o;have:=nF.o;omega
        have hn6:((1:Int)+(N3:Int)).toNat=1+N3:=by omega
        have YV:IntKind.i64.wrap ((1:Int)+(N3:Int))=(1:Int)+(N3:Int):=aI _ (by omega);have E4:(bs R2).extract 1 (1+N3)=bs ((R2.take (1+N3)).drop 1):=gW R2 1 (1+N3);have Kb:=im R2 (1+N3);have DH:Hy ((R2.drop (1+N3)).length<=s.length):=by rw[Hy,aj];have:=xK.o;omega
        have mu:Hy (RF=fS val s NM M5 ((R2.take (1+N3)).drop 1) (R2.drop (1+N3))):=by rw[Hy,mN.o,HO.o]
        generalize(R2.take (1+N3)).drop 1=O at*;generalize R2.drop (1+N3)=R3 at*;clear mN HO;have HN3:=bD PT;have sl:=bD E4;have SZ:=bD Kb;clear PT VL hn6 YV E4 Kb wm;go_wp2_with fail;have av3:((bs R2).size:Int)=(R2.length:Int):=by rw[bJ]
        have PT:=HN3.o;have E4:=sl.o;have Kb:=SZ.o;have VL:(0:Int)<=(N3:Int):=by omega
        have av4:(1:Int)<=1+(N3:Int):=by omega
        have hn6:((1:Int)+(N3:Int)).toNat=1+N3:=by omega
        have YV:IntKind.i64.wrap ((1:Int)+(N3:Int))=(1:Int)+(N3:Int):=aI _ (by omega);have av5:(0:Int)<=1+(N3:Int):=by omega
        go_quiet (fail);have he:=HE.o.drewN nq;have jL:=below_drewN HB.o nq;generalize wq.drewN nq=wr at*;clear HE HB E4 Kb;have HE:=bD he;have HB:=bD jL;clear he jL;have Cg:=bD (strings_HasPrefix (bs R3) ⟨#[41]⟩ wr);rw[ga,show(⟨#[41]⟩:ByteArray).data.toList=[41]from rfl]at Cg;go_wp2_with fail;refine Cg.o.mono ?_;rintro e w1 ⟨rfl,jz⟩;have jz:=jz.symm;subst jz;clear Cg;cases B9:Lib.hasPrefix R3 [41]with
        |false=>
         have wQ:Hy (RF=([],0)):=by rw[Hy,mu.o];unfold fS;rw[B9];rfl
         clear mu;go_wp2_with fail;refine(ic wr).mono ?_;rintro e w9 ⟨rfl,rfl⟩;go_wp2_with fail;go_ret2;exact⟨by rw[wQ.o];rfl,by first|exact HB.o|(rw[kz.o];exact HB.o)⟩
        |true=>
         have DI:Hy (RF=(if(val NM M5).2 then(val NM M5).1 else O,s.length-R3.length+1)):=by rw[Hy,mu.o];unfold fS;rw[B9];rfl
         obtain⟨e0,e1,e2,e3,e4,e5⟩:=nB HE.o;simp at e0 e1 e2 e3 e4 e5;have BB:=bD (HV.o NM M5 Ro.o LD.o wr (HG.o wr HB.o));generalize val NM M5=VV at*;obtain⟨vv,vb⟩:=VV;simp only at BB DI;have hz:(s.length:Int)-(R3.length:Int)+1=((s.length-R3.length+1:Nat):Int):=by have:=DH.o;omega
         have rq:(0:Int)<=(s.length:Int)-(R3.length:Int):=by have:=DH.o;omega
         have vF:(s.length:Int)<=100000:=by have:=nF.o;omega
         have hz5:IntKind.i64.wrap (((bs s).size:Int)-((bs R3).size:Int))=(s.length:Int)-(R3.length:Int):=by rw[bJ,bJ];exact aI _ (by omega)
         have hz3:IntKind.i64.wrap ((s.length:Int)-(R3.length:Int))=(s.length:Int)-(R3.length:Int):=aI _ (by omega);have ZU:IntKind.i64.wrap (((s.length-R3.length+1:Nat):Int))=((s.length-R3.length+1:Nat):Int):=aI _ (by omega);clear mu;go_wp2_with fail;refine BB.o.mono ?_;rintro e w2 ⟨rfl,cu⟩;have jL:=HB.o.trans (cu.mono (by have:=HB.o.size;rw[kz.o]at this;exact this));have dm:=bD jL;clear jL cu HB HE e0 e1 e2 e3 e4 e5;cases vb with
         |true=>
          go_wp2_with fail;go_ret2;exact⟨by rw[DI.o];rfl,by first|exact dm.o|(rw[kz.o];exact dm.o)⟩
         |false=>
          go_wp2_with fail;go_ret2;exact⟨by rw[DI.o];rfl,by first|exact dm.o|(rw[kz.o];exact dm.o)⟩
       |false=>
        have mu:Hy (RF=fS val s NM M5 [] R2):=by rw[Hy,mN.o,jD,aa (by rw[xo];simp),aa (by rw[Gr];simp)]
        clear mN xo Gr;have Cg:=bD (strings_HasPrefix (bs R2) ⟨#[41]⟩ wk);rw[ga,show(⟨#[41]⟩:ByteArray).data.toList=[41]from rfl]at Cg;go_wp2_with fail;refine Cg.o.mono ?_;rintro e w1 ⟨rfl,jz⟩;have jz:=jz.symm;subst jz;clear Cg;cases B9:Lib.hasPrefix R2 [41]with
        |false=>
         have wQ:Hy (RF=([],0)):=by rw[Hy,mu.o];unfold fS;rw[B9];rfl
         clear mu;go_wp2_with fail;refine(ic wk).mono ?_;rintro e w9 ⟨rfl,rfl⟩;go_wp2_with fail;go_ret2;exact⟨by rw[wQ.o];rfl,by first|exact HB.o|(rw[kz.o];exact HB.o)⟩
        |true=>
         have DI:Hy (RF=(if(val NM M5).2 then(val NM M5).1 else[],s.length-R2.length+1)):=by rw[Hy,mu.o];unfold fS;rw[B9];rfl
         obtain⟨e0,e1,e2,e3,e4,e5⟩:=nB HE.o;simp at e0 e1 e2 e3 e4 e5;have BB:=bD (HV.o NM M5 Ro.o LD.o wk (HG.o wk HB.o));generalize val NM M5=VV at*;obtain⟨vv,vb⟩:=VV;simp only at BB DI;have hz:(s.length:Int)-(R2.length:Int)+1=((s.length-R2.length+1:Nat):Int):=by have:=xK.o;omega
         have rq:(0:Int)<=(s.length:Int)-(R2.length:Int):=by have:=xK.o;omega
         have vF:(s.length:Int)<=100000:=by have:=nF.o;omega
         have hz5:IntKind.i64.wrap (((bs s).size:Int)-((bs R2).size:Int))=(s.length:Int)-(R2.length:Int):=by rw[bJ,bJ];exact aI _ (by omega)
         have hz3:IntKind.i64.wrap ((s.length:Int)-(R2.length:Int))=(s.length:Int)-(R2.length:Int):=aI _ (by omega);have ZU:IntKind.i64.wrap (((s.length-R2.length+1:Nat):Int))=((s.length-R2.length+1:Nat):Int):=aI _ (by omega);clear mu;go_wp2_with fail;refine BB.o.mono ?_;rintro e w2 ⟨rfl,cu⟩;have jL:=HB.o.trans (cu.mono (by have:=HB.o.size;rw[kz.o]at this;exact this));have dm:=bD jL;clear jL cu HB HE e0 e1 e2 e3 e4 e5;cases vb with
         |true=>
          go_wp2_with fail;go_ret2;exact⟨by rw[DI.o];rfl,by first|exact dm.o|(rw[kz.o];exact dm.o)⟩
         |false=>
          go_wp2_with fail;go_ret2;exact⟨by rw[DI.o];rfl,by first|exact dm.o|(rw[kz.o];exact dm.o)⟩
   |false=>
    have mN:Hy (RF=match jD R1 with
     |none=>([],0)
     |some (jx,r2)=>fS val s NM [] jx r2):=by rw[Hy,mN.o,Ck,aa (by rw[hk];simp)]
    have xK:Hy (R1.length<=s.length):=by rw[Hy];have:=Xk.o;have:=LC.o;omega
    have LD:Hy (([]:Bt).length<=100000):=ax _;clear hk;obtain⟨R2,hR2⟩:∃x,x=R1:=⟨_,rfl⟩;subst hR2;have j6:=bD (strings_HasPrefix (bs R2) ⟨#[124,39]⟩ wc);rw[ga,show(⟨#[124,39]⟩:ByteArray).data.toList=[124,39]from rfl]at j6;go_wp2_with fail;refine j6.o.mono ?_;rintro e w1 ⟨rfl,jz⟩;have jz:=jz.symm;subst jz;clear j6;cases xo:Lib.hasPrefix R2 [124,39]with
    |true=>
     have Ou:=eT xo;have Ou:2<=R2.length:=Ou;have h2i:(2:Int)<=(R2.length:Int):=by omega
     have xZ:=im R2 2;have HO:Hy (jD R2=if(Lib.cut (R2.drop 2) [39]).2.2 then some ((Lib.cut (R2.drop 2) [39]).1,(Lib.cut (R2.drop 2) [39]).2.1)else none):=by rw[Hy,jD,ae xo]
     have M4:(R2.drop 2).length<=R2.length:=by rw[aj];omega
     generalize R2.drop 2=Ji at*;have wv:=(je Ji [39]).2;have PH:=bD (jT (bs Ji) [39] (by rw[bJ];have:=xK.o;have:=nF.o;omega) wc (HG.o wc HB.o));rw[eB]at PH;have HHL:Hy (Ji.length<=R2.length):=M4;clear Ou xo M4;go_wp2_with fail;refine PH.o.mono ?_;rintro e w1 ⟨O,R3,cf,nn,rfl,Xl,rfl⟩;rw[Xl.o]at wv HO;have DH:Hy (R3.length<=s.length):=by rw[Hy];have:=xK.o;have:=HHL.o;simp only at wv;omega
     have he:=HE.o.drewN nn;have jL:=below_drewN HB.o nn;generalize wc.drewN nn=wq at*;clear HE HB Xl PH wv;have HE:=bD he;have HB:=bD jL;clear he jL;cases cf with
     |false=>
      have wQ:Hy (RF=([],0)):=by rw[Hy,mN.o,HO.o];rfl
      clear mN HO;go_wp2_with fail;refine(ic wq).mono ?_;rintro e w9 ⟨rfl,rfl⟩;go_wp2_with fail;go_ret2;exact⟨by rw[wQ.o];rfl,by first|exact HB.o|(rw[kz.o];exact HB.o)⟩
     |true=>
      have mu:Hy (RF=fS val s NM ([]:Bt) O R3):=by rw[Hy,mN.o,HO.o];rfl
      clear mN HO;have Cg:=bD (strings_HasPrefix (bs R3) ⟨#[41]⟩ wq);rw[ga,show(⟨#[41]⟩:ByteArray).data.toList=[41]from rfl]at Cg;go_wp2_with fail;refine Cg.o.mono ?_;rintro e w1 ⟨rfl,jz⟩;have jz:=jz.symm;subst jz;clear Cg;cases B9:Lib.hasPrefix R3 [41]with
      |false=>
       have wQ:Hy (RF=([],0)):=by rw[Hy,mu.o];unfold fS;rw[B9];rfl
       clear mu;go_wp2_with fail;refine(ic wq).mono ?_;rintro e w9 ⟨rfl,rfl⟩;go_wp2_with fail;go_ret2;exact⟨by rw[wQ.o];rfl,by first|exact HB.o|(rw[kz.o];exact HB.o)⟩
      |true=>
       have DI:Hy (RF=(if(val NM ([]:Bt)).2 then(val NM ([]:Bt)).1 else O,s.length-R3.length+1)):=by rw[Hy,mu.o];unfold fS;rw[B9];rfl
       obtain⟨e0,e1,e2,e3,e4,e5⟩:=nB HE.o;simp at e0 e1 e2 e3 e4 e5;have BB:=bD (HV.o NM ([]:Bt) Ro.o LD.o wq (HG.o wq HB.o));generalize val NM ([]:Bt)=VV at*;obtain⟨vv,vb⟩:=VV;simp only at BB DI;have hz:(s.length:Int)-(R3.length:Int)+1=((s.length-R3.length+1:Nat):Int):=by have:=DH.o;omega
       have rq:(0:Int)<=(s.length:Int)-(R3.length:Int):=by have:=DH.o;omega
       have vF:(s.length:Int)<=100000:=by have:=nF.o;omega
       have hz5:IntKind.i64.wrap (((bs s).size:Int)-((bs R3).size:Int))=(s.length:Int)-(R3.length:Int):=by rw[bJ,bJ];exact aI _ (by omega)
       have hz3:IntKind.i64.wrap ((s.length:Int)-(R3.length:Int))=(s.length:Int)-(R3.length:Int):=aI _ (by omega);have ZU:IntKind.i64.wrap (((s.length-R3.length+1:Nat):Int))=((s.length-R3.length+1:Nat):Int):=aI _ (by omega);clear mu;go_wp2_with fail;refine BB.o.mono ?_;rintro e w2 ⟨rfl,cu⟩;have jL:=HB.o.trans (cu.mono (by have:=HB.o.size;rw[kz.o]at this;exact this));have dm:=bD jL;clear jL cu HB HE e0 e1 e2 e3 e4 e5;cases vb with
       |true=>
        go_wp2_with fail;go_ret2;exact⟨by rw[DI.o];rfl,by first|exact dm.o|(rw[kz.o];exact dm.o)⟩
       |false=>
        go_wp2_with fail;go_ret2;exact⟨by rw[DI.o];rfl,by first|exact dm.o|(rw[kz.o];exact dm.o)⟩
    |false=>
     have zY:=bD (strings_HasPrefix (bs R2) ⟨#[124]⟩ wc);rw[ga,show(⟨#[124]⟩:ByteArray).data.toList=[124]from rfl]at zY;go_wp2_with fail;refine zY.o.mono ?_;rintro e w1 ⟨rfl,jz⟩;have jz:=jz.symm;subst jz;clear zY;cases Gr:Lib.hasPrefix R2 [124]with
     |true=>
      have av2:1<=R2.length:=eT Gr;have h3i:(1:Int)<=(R2.length:Int):=by omega
      have tS:=im R2 1;have wm:((bs R2).size:Int)=(R2.length:Int):=by rw[bJ]
      have HO:Hy (jD R2=some ((R2.take (1+runN (nc Cj) (R2.drop 1))).drop 1,R2.drop (1+runN (nc Cj) (R2.drop 1)))):=by rw[Hy,jD,aa (by rw[xo];simp),ae Gr]
      have M4:(R2.drop 1).length+1=R2.length:=by rw[aj];omega
      have B8:Hy ((R2.drop 1).length<=100000):=by rw[Hy];have:=xK.o;have:=nF.o;omega
      generalize R2.drop 1=Ji at*;clear xo Gr;have zZ:Hy (∀(g:Nat) (W:World),W.cell? ⟨g,0,none⟩=some (.string ⟨#[39,41,124,10,13]⟩)->Calls prog 146 #[.string (bs Ji),.func (.func 169) #[] #[.pointer (some ⟨g,0,none⟩)]] W fun e w'=>e=.returned (.int .i64 (runN (nc Cj) Ji:Nat))/\W=w'):=fun g W hc=>by
       have h:=sQ (bs Ji) (by rw[bJ];have:=B8.o;omega) ⟨#[39,41,124,10,13]⟩ g W hc;rw[eB]at h;exact h
      have YR:=CF (nc Cj) Ji;generalize runN (nc Cj) Ji=N3 at*;go_wp2_with fail;refine aL (S:=(fun _=>True)) (by kernel_rfl) ?_;change wpAnyH _ _ _ _ _ _ _ _ (World.drew _);refine dB 0 trivial ?_;refine dB 1 trivial ?_;refine fr 2 (fun K_ bP=>?_);go_simp;refine(AG ⟨#[39,41,124,10,13]⟩ _).mono ?_;rintro e wq ⟨g,rfl,YS,YT⟩;have YU:=bD YS;have J2:Below wc.heap.size wc wq:=((aF wc.heap.size wc).drew).trans YT;have E6:=bD J2;clear YS YT J2;refine bP.out _ _ trivial fun _=>?_;clear bP K_;refine fr 3 (fun K_ bP=>?_);go_simp;refine(zZ.o g wq YU.o).mono ?_;rintro e u2 ⟨rfl,rfl⟩;refine bP.out _ _ trivial fun _=>?_;clear bP K_;refine dB 4 trivial ?_;refine aJ (by kernel_rfl) ?_ _;have he:=HE.o.below E6.o HE.o.lt;have jL:=HB.o.trans (E6.o.mono (by have:=HB.o.size;rw[kz.o]at this;exact this));clear HE HB zZ E6 YU;have HE:=bD he;have HB:=bD jL;clear he jL;have PT:(1:Int)+(N3:Int)<=(R2.length:Int):=by omega
      have VL:(0:Int)<=(N3:Int):=by omega
      have hn5:(R2.length:Int)<=100000:=by have:=xK.o;have:=nF.o;omega
      have hn6:((1:Int)+(N3:Int)).toNat=1+N3:=by omega
      have YV:IntKind.i64.wrap ((1:Int)+(N3:Int))=(1:Int)+(N3:Int):=aI _ (by omega);have E4:(bs R2).extract 1 (1+N3)=bs ((R2.take (1+N3)).drop 1):=gW R2 1 (1+N3);have Kb:=im R2 (1+N3);have DH:Hy ((R2.drop (1+N3)).length<=s.length):=by rw[Hy,aj];have:=xK.o;omega
      have mu:Hy (RF=fS val s NM ([]:Bt) ((R2.take (1+N3)).drop 1) (R2.drop (1+N3))):=by rw[Hy,mN.o,HO.o]
      generalize(R2.take (1+N3)).drop 1=O at*;generalize R2.drop (1+N3)=R3 at*;clear mN HO;have HN3:=bD PT;have sl:=bD E4;have SZ:=bD Kb;clear PT VL hn6 YV E4 Kb wm;go_wp2_with fail;have av3:((bs R2).size:Int)=(R2.length:Int):=by rw[bJ]
      have PT:=HN3.o;have E4:=sl.o;have Kb:=SZ.o;have VL:(0:Int)<=(N3:Int):=by omega
      have av4:(1:Int)<=1+(N3:Int):=by omega
      have hn6:((1:Int)+(N3:Int)).toNat=1+N3:=by omega
      have YV:IntKind.i64.wrap ((1:Int)+(N3:Int))=(1:Int)+(N3:Int):=aI _ (by omega);have av5:(0:Int)<=1+(N3:Int):=by omega
      go_quiet (fail);have he:=HE.o.drewN nq;have jL:=below_drewN HB.o nq;generalize wq.drewN nq=wr at*;clear HE HB E4 Kb;have HE:=bD he;have HB:=bD jL;clear he jL;have Cg:=bD (strings_HasPrefix (bs R3) ⟨#[41]⟩ wr);rw[ga,show(⟨#[41]⟩:ByteArray).data.toList=[41]from rfl]at Cg;go_wp2_with fail;refine Cg.o.mono ?_;rintro e w1 ⟨rfl,jz⟩;have jz:=jz.symm;subst jz;clear Cg;cases B9:Lib.hasPrefix R3 [41]with
      |false=>
       have wQ:Hy (RF=([],0)):=by rw[Hy,mu.o];unfold fS;rw[B9];rfl
       clear mu;go_wp2_with fail;refine(ic wr).mono ?_;rintro e w9 ⟨rfl,rfl⟩;go_wp2_with fail;go_ret2;exact⟨by rw[wQ.o];rfl,by first|exact HB.o|(rw[kz.o];exact HB.o)⟩
      |true=>
       have DI:Hy (RF=(if(val NM ([]:Bt)).2 then(val NM ([]:Bt)).1 else O,s.length-R3.length+1)):=by rw[Hy,mu.o];unfold fS;rw[B9];rfl
       obtain⟨e0,e1,e2,e3,e4,e5⟩:=nB HE.o;simp at e0 e1 e2 e3 e4 e5;have BB:=bD (HV.o NM ([]:Bt) Ro.o LD.o wr (HG.o wr HB.o));generalize val NM ([]:Bt)=VV at*;obtain⟨vv,vb⟩:=VV;simp only at BB DI;have hz:(s.length:Int)-(R3.length:Int)+1=((s.length-R3.length+1:Nat):Int):=by have:=DH.o;omega
       have rq:(0:Int)<=(s.length:Int)-(R3.length:Int):=by have:=DH.o;omega
       have vF:(s.length:Int)<=100000:=by have:=nF.o;omega
       have hz5:IntKind.i64.wrap (((bs s).size:Int)-((bs R3).size:Int))=(s.length:Int)-(R3.length:Int):=by rw[bJ,bJ];exact aI _ (by omega)
       have hz3:IntKind.i64.wrap ((s.length:Int)-(R3.length:Int))=(s.length:Int)-(R3.length:Int):=aI _ (by omega);have ZU:IntKind.i64.wrap (((s.length-R3.length+1:Nat):Int))=((s.length-R3.length+1:Nat):Int):=aI _ (by omega);clear mu;go_wp2_with fail;refine BB.o.mono ?_;rintro e w2 ⟨rfl,cu⟩;have jL:=HB.o.trans (cu.mono (by have:=HB.o.size;rw[kz.o]at this;exact this));have dm:=bD jL;clear jL cu HB HE e0 e1 e2 e3 e4 e5;cases vb with
       |true=>
        go_wp2_with fail;go_ret2;exact⟨by rw[DI.o];rfl,by first|exact dm.o|(rw[kz.o];exact dm.o)⟩
       |false=>
        go_wp2_with fail;go_ret2;exact⟨by rw[DI.o];rfl,by first|exact dm.o|(rw[kz.o];exact dm.o)⟩
     |false=>
      have mu:Hy (RF=fS val s NM ([]:Bt) [] R2):=by rw[Hy,mN.o,jD,aa (by rw[xo];simp),aa (by rw[Gr];simp)]
      clear mN xo Gr;have Cg:=bD (strings_HasPrefix (bs R2) ⟨#[41]⟩ wc);rw[ga,show(⟨#[41]⟩:ByteArray).data.toList=[41]from rfl]at Cg;go_wp2_with fail;refine Cg.o.mono ?_;rintro e w1 ⟨rfl,jz⟩;have jz:=jz.symm;subst jz;clear Cg;cases B9:Lib.hasPrefix R2 [41]with
      |false=>
       have wQ:Hy (RF=([],0)):=by rw[Hy,mu.o];unfold fS;rw[B9];rfl
       clear mu;go_wp2_with fail;refine(ic wc).mono ?_;rintro e w9 ⟨rfl,rfl⟩;go_wp2_with fail;go_ret2;exact⟨by rw[wQ.o];rfl,by first|exact HB.o|(rw[kz.o];exact HB.o)⟩
      |true=>
       have DI:Hy (RF=(if(val NM ([]:Bt)).2 then(val NM ([]:Bt)).1 else[],s.length-R2.length+1)):=by rw[Hy,mu.o];unfold fS;rw[B9];rfl
       obtain⟨e0,e1,e2,e3,e4,e5⟩:=nB HE.o;simp at e0 e1 e2 e3 e4 e5;have BB:=bD (HV.o NM ([]:Bt) Ro.o LD.o wc (HG.o wc HB.o));generalize val NM ([]:Bt)=VV at*;obtain⟨vv,vb⟩:=VV;simp only at BB DI;have hz:(s.length:Int)-(R2.length:Int)+1=((s.length-R2.length+1:Nat):Int):=by have:=xK.o;omega
       have rq:(0:Int)<=(s.length:Int)-(R2.length:Int):=by have:=xK.o;omega
       have vF:(s.length:Int)<=100000:=by have:=nF.o;omega
       have hz5:IntKind.i64.wrap (((bs s).size:Int)-((bs R2).size:Int))=(s.length:Int)-(R2.length:Int):=by rw[bJ,bJ];exact aI _ (by omega)
       have hz3:IntKind.i64.wrap ((s.length:Int)-(R2.length:Int))=(s.length:Int)-(R2.length:Int):=aI _ (by omega);have ZU:IntKind.i64.wrap (((s.length-R2.length+1:Nat):Int))=((s.length-R2.length+1:Nat):Int):=aI _ (by omega);clear mu;go_wp2_with fail;refine BB.o.mono ?_;rintro e w2 ⟨rfl,cu⟩;have jL:=HB.o.trans (cu.mono (by have:=HB.o.size;rw[kz.o]at this;exact this));have dm:=bD jL;clear jL cu HB HE e0 e1 e2 e3 e4 e5;cases vb with
       |true=>
        go_wp2_with fail;go_ret2;exact⟨by rw[DI.o];rfl,by first|exact dm.o|(rw[kz.o];exact dm.o)⟩
       |false=>
        go_wp2_with fail;go_ret2;exact⟨by rw[DI.o];rfl,by first|exact dm.o|(rw[kz.o];exact dm.o)⟩
end Go.Proofs.YtejafaaihodehaaGreatDoor
