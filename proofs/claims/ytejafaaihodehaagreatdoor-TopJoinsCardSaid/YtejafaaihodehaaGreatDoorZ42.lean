/- Part 42. -/
import Derived.Test.YtejafaaihodehaaGreatDoorZ41
set_option linter.all false
set_option maxRecDepth 100000
set_option maxHeartbeats 8000000
namespace Go.Proofs.YtejafaaihodehaaGreatDoor
open Go Go.RowKit Tryz
section
variable {W:World} {base:Nat} {F:Nat->Prop} {x:Ex} {kv:Value}
theorem Qe(hk:GR W F (.row 5 (x.bE.map Ex.gv)) [kv])(hF:∀k,F k->base<=k)(hb:base<=W.heap.size):
 b8 (W.alloc (.cells (bH x kv).toArray 202)) base 202 5 (fun k=>base<=k) (.slice (some ⟨W.heap.size,0,none⟩) 1 1) ([x].map Ex.gv):=by
 have h1:(W.alloc (.cells (bH x kv).toArray 202)).ownsRow base 202 5 (.slice (some ⟨W.heap.size,0,none⟩) 1 1) 1 (bH x kv):=World.ownsRow_lit W (bH x kv).toArray 1 hb (by simp[maxLen]) rfl;refine⟨bH x kv,h1,?_⟩;refine lp (rO ?_) rfl;refine GR.mono (F:=fun k=>F k/\k<W.heap.size) (fun k hk=>⟨hF k hk.1,fun e=>by have e:k=W.heap.size:=ar e;omega⟩) (fun k hk bW=>?_) _ _ (GR.du _ _ hk);exact Below.heap_alloc W _ k bW
theorem UJ{N B:Nat}{v:Value}{o:List Ex}(ho:b8 W base 202 5 (fun k=>base<=k) v (o.map Ex.gv))(bW:∀k,v.ownBlock=some k->k<B)(hk:GR W (fun k=>B<=k) (.row 5 (x.bE.map Ex.gv)) [kv])(hbB:base<=B)(hb:base<=W.heap.size)(hN:N=o.length)(fH:o.length<=99999):
 tm (W.alloc (.cells (bH x kv).toArray 202)) base 202 5 72 (fun k=>base<=k) v (o.map Ex.gv) (some ⟨W.heap.size,0,none⟩) 1 [x.gv] (bH x kv) (N+1):=by
 subst hN;have cg:Below W.heap.size W (W.alloc (.cells (bH x kv).toArray 202)):=cU _ _;have hx:GR (W.alloc (.cells (bH x kv).toArray 202)) (fun k=>base<=k/\some k≠v.ownBlock) (.row 5 (x.bE.map Ex.gv)) [kv]:=
  (hk.below cg).dY (fun k h=>⟨by omega,fun e=>by have:=bW k e.symm;omega⟩)
 have key:=tm.sE (bytes:=72) (size:=5) (x:=x.gv) (b8.below ho cg) (bL.new W 202 (bH x kv).toArray) (rO hx) rfl (by rw[ah];omega) (by omega) (by rw[size_alloc];omega);rw[ah]at key;exact key
end
def Jl(W:World)(P:Nat):Nat:=match W.cell? ⟨P,0,none⟩with
 |some (.string b)=>b.size
 |_=>0
theorem PS.len{W:World}{P:Nat}{s:Bt}{b:Bool}(h:PS W P s b):Jl W P=s.length:=by
 unfold Jl;rw[show W.cell? ⟨P,0,none⟩=some (.string (bs s))from h.iz.cell 0];exact bJ s
theorem oo{w:World}{X:Nat}{tmps:Array Value}{x:Ex}{kv:Value}(h4:tmps[8]?.getD undef=.pointer (some ⟨X,0,none⟩))(B0:bL w X 202 (bH x kv).toArray):
 (results f198 tmps).run prog w=.ok (da x kv) w:=by
 obtain⟨a0,a1,a2,a3,a4⟩:=kK B0;simp[bH]at a0 a1 a2 a3 a4;simp[results,results198,go_sem,h4,a0,a1,a2,a3,a4,da,bH]
theorem G9{k:Int}{l:List Ex}(h:l.length≠1):DQ k l=.mk k 0 [] [] l:=by
 cases l with
 |nil=>rfl
 |cons a l=>
  cases l with
  |nil=>exact aX rfl h
  |cons b l=>rfl
theorem BG{W W':World}{P:Nat}(h:eK W)(hb:∀k,k<P->W'.heap[k]?=W.heap[k]?)(hP:0<P/\∀g,prog.globalNamed "internal/strconv.uint64pow10" =some g->g<P):eK W':=by
 obtain⟨⟨m,h1⟩,h2⟩:=h;refine⟨⟨m,?_⟩,zV h2 fun g bW Nu=>hb g (hP.2 g Nu)⟩;rw[aW (w:=W) (a:=⟨0,0,none⟩) (hb 0 hP.1)];exact h1
theorem Jm(one:Bt->Bool->PZ)(Jb:lD one)(P N:Nat)(hN:N<=10000)
 (tM:∀(s:Bt) (b:Bool) (W:World),s.length<=N->PS W P s b->Calls prog 200 #[.pointer (some ⟨P,0,none⟩)] W (rP P W (one s b)))
 (s:Bt) (b:Bool) (w:World) (h:PS w P s b) (hs:s.length<=N):
 Calls prog 198 #[.pointer (some ⟨P,0,none⟩),.int .i64 5,.string ⟨#[38]⟩,.func (.func 200) #[.pointer (some ⟨P,0,none⟩)] #[]] w (rP P w (mw 5 [38] one s b)):=by
 have HX:=bD (vS.start h);have Oh:=bD tM;have HSH:=bD Jb;have HS:=bD hs;have HZ:Hy (mw 5 [38] one s b=(DQ 5 (iS one [38] (s.length+1) [(one s b).1] (one s b).2.1 (one s b).2.2).1,(iS one [38] (s.length+1) [(one s b).1] (one s b).2.1 (one s b).2.2).2)):=rfl;generalize mw 5 [38] one s b=Z at*;clear h hs tM Jb;go_enter func198,ntmps198;go_upto_region 1 with(fail)
 change Code.wp _ _ _ _ (w.alloc (.cells (bH kH (.slice none 0 0)).toArray 202));have J6:Hy ((w.alloc (.cells (bH kH (.slice none 0 0)).toArray 202)).heap.size=w.heap.size+1):=size_alloc _ _;generalize w.alloc (.cells (bH kH (.slice none 0 0)).toArray 202)=w1 at*;go_wp2_with fail;refine(Oh.o s b w1 HS.o HX.o.ps).mono ?_;rintro e w2 ⟨A0,c0,rfl,hk,hp,hg⟩;have iL:=bD (HX.o.step hp hg);have xy:Hy (w.heap.size+1<=w2.heap.size):=by have h1:=J6.o;have h2:=hg.size;rw[Hy];omega
 have HO:=bD (Qe (base:=w.heap.size+1) hk (fun k hk=>by have h1:=J6.o;omega) xy.o);have MY:=HSH.o s b;generalize one s b=z0 at*;obtain⟨x0,s0,b0⟩:=z0;simp only at HZ iL HO MY;have HL0:=bD MY;clear hk hp hg HX J6 MY;have HX:=iL;clear iL;simp only[da,bH];go_upto_block 0 with(fail)
 have cg:Below w2.heap.size w2 (w2.alloc (.cells (bH x0 (.slice A0 x0.bE.length c0)).toArray 202)):=cU _ _;change Code.wp _ _ _ _ (w2.alloc (.cells (bH x0 (.slice A0 x0.bE.length c0)).toArray 202));have ry:=bD (HX.o.below cg);generalize w2.alloc (.cells (bH x0 (.slice A0 x0.bE.length c0)).toArray 202)=w3 at*;generalize w2.heap.size=G2 at*;clear HX cg xy;go_wp2_with fail;go_loopw [9] (fun v wr=>∃(l:List Ex) (t:Bt) (d:Bool) (A:Option Addr) (c n M:Nat),v=.slice A M c/\M=l.length/\1<=M/\M+t.length<=s.length+1/\t.length<n/\Hy (vS w wr P w.heap.size t d)/\Hy (b8 wr (w.heap.size+1) 202 5 (fun k=>w.heap.size+1<=k) (.slice A M c) (l.map Ex.gv))/\
  Hy (Z=(DQ 5 (iS one [38] n l t d).1,(iS one [38] n l t d).2)))
  (fun v wr=>Jl wr P)
 case atStart=>exact⟨[x0],s0,b0,_,1,s.length+1,1,rfl,rfl,dv _,by have:=HL0.o;omega,by have:=HL0.o;omega,ry.o,HO.o,HZ.o⟩
 case round=>
  clear ry HO HZ HL0;obtain⟨l,t,d,A,c,n,M,rfl,hM,h1M,hMt,hn,HX,HO,HZ⟩:=hrel;have HM:=bD hM;clear hM;obtain⟨n,rfl⟩:∃m,n=m+1:=⟨n-1,by omega⟩;have HE:=bD (jF #[38] t d P wr HX.o.ps);rw[show(#[38]:Array UInt8).toList=[38]from rfl]at HE;have tJ:=gM [38] t;have Fi:=bD HX.o.ps.len;cases he:(dj [38] t).2 with
  |true=>
   have gu:Hy (Z=(DQ 5 (iS one [38] n (l++[(one (dj [38] t).1 d).1]) (one (dj [38] t).1 d).2.1 (one (dj [38] t).1 d).2.2).1,(iS one [38] n (l++[(one (dj [38] t).1 d).1]) (one (dj [38] t).1 d).2.1 (one (dj [38] t).1 d).2.2).2)):=by
    rw[Hy,HZ.o,iS,ae he]
   rw[he]at HE;have tD:=tJ.2 he;have Cw:=HSH.o (dj [38] t).1 d;have Fz:∀k,(Value.slice A M c).ownBlock=some k->w.heap.size+1<=k/\k<wr.heap.size:=b8.lt HO.o;generalize(dj [38] t).1=t1 at*;clear he HZ tJ;simp only[ak,aD]at tD;have av7:M<=10001:=by have:=HS.o;omega
   have Lm:=bD tD;have Gw:=bD Cw;have tU:=bD Fz;clear tD Cw Fz;go_wp2_with fail;refine HE.o.mono ?_;rintro e w4 ⟨rfl,hp,hg⟩;have nx:=bD (HX.o.step hp hg);have HO4:=bD (b8.kept HO.o hg (.inr (fun e=>by have h1:=(tU.o P e).1;have h2:=HX.o.CG;omega)) (fun k hk e=>by have e:=ar e;have h2:=HX.o.CG;omega));have Ka:Hy (wr.heap.size<=w4.heap.size):=hg.size;clear hp hg HX HO HE;go_wp2_with fail;refine(Oh.o t1 d w4 (by have h1:=Lm.o;have h2:=HS.o;omega) nx.o.ps).mono ?_;rintro e w5 ⟨A5,c5,rfl,hk,hp,hg⟩;have sl:=bD (nx.o.step hp hg);have KS:=bD (b8.kept HO4.o hg (.inr (fun e=>by have h1:=(tU.o P e).1;have h2:=nx.o.CG;omega)) (fun k hk e=>by have e:=ar e;have h2:=nx.o.CG;omega));have I5:w.heap.size+1<=w4.heap.size:=by obtain⟨_,_,_,_,_,hB⟩:=nx.o.rz;exact hB.lt
   have HA:=bD (UJ (B:=w4.heap.size) KS.o (fun k e=>by have h1:=(tU.o k e).2;have h2:=Ka.o;omega) hk I5 (au I5 hg.size) HM.o (by rw[<-HM.o];omega));generalize one t1 d=z5 at*;obtain⟨x5,s5,b5⟩:=z5;simp only at gu sl Gw HA;have cg:=fun C=>cU w5 (.cells C 202);have No:Hy (∀(A7:Option Addr) (c7:Nat) (w7:World),b8 w7 (w.heap.size+1) 202 5 (fun k=>w.heap.size+1<=k) (.slice A7 (M+1) c7) (l.map Ex.gv++[x5.gv])->(w5.alloc (.cells (bH x5 (.slice A5 x5.bE.length c5)).toArray 202)).grownBy w7 (Value.slice A M c).ownBlock->vS w w7 P w.heap.size s5 b5):=by
    intro A7 c7 w7 h1 h2;have lH:=sl.o.below (cg (bH x5 (.slice A5 x5.bE.length c5)).toArray);have hb:Below (w.heap.size+1) (w5.alloc (.cells (bH x5 (.slice A5 x5.bE.length c5)).toArray 202)) w7:=bN h2 (by rw[size_alloc];have:=Ka.o;have:=hg.size;omega) (fun k hk=>(tU.o k hk).1);obtain⟨a0,a1,a2,a3,a4,hB⟩:=lH.rz;have SU:=lH.ps;refine⟨⟨a0,a1,a2,a3,a4,hB.below hb (Nat.lt_succ_self _)⟩,⟨SU.iz.below hb (by have:=sl.o.CG;omega),?_,SU.hP⟩,⟨hb.os.trans lH.grown.os,hb.tape.trans lH.grown.tape,hb.output.trans lH.grown.output,au lH.grown.size hb.size,fun i hi db=>(hb.block i (by omega)).trans (lH.grown.block i hi db)⟩,lH.hX,lH.CG⟩;exact BG SU.pP (fun k hk=>hb.block k (by have:=sl.o.CG;omega)) SU.hP
   clear hk hp hg nx HO4 KS I5 cg;simp only[da,bH]at HA No|-;go_wp2_with (at_builtin;go_loud (refine HA.o.plain rfl _ _ _ rfl ab1 rfl rfl ?_);intro A7 c7 w7 bZ cO fG;have PI:=bD (No.o _ _ _ bZ cO);have Fo:=bD bZ;clear bZ cO fG);go_roundw
   case rel=>exact⟨l++[x5],s5,b5,A7,c7,n,M+1,rfl,by rw[af,HM.o];rfl,by omega,by have h1:=Lm.o;have h2:=Gw.o;omega,by have h1:=Lm.o;have h2:=Gw.o;omega,PI.o,by rw[aK];exact Fo.o,gu.o⟩
   case measure=>rw[PI.o.ps.len,Fi.o];have h1:=Lm.o;have h2:=Gw.o;omega
  |false=>
   have gu:Hy (Z=(DQ 5 l,(dj [38] t).1,d)):=by
    rw[Hy,HZ.o,iS,aa (by rw[he];simp)]
   rw[he]at HE;have Fz:∀k,(Value.slice A M c).ownBlock=some k->w.heap.size+1<=k/\k<wr.heap.size:=b8.lt HO.o;generalize(dj [38] t).1=t1 at*;clear he HZ tJ;go_wp2_with fail;refine HE.o.mono ?_;rintro e w4 ⟨rfl,hp,hg⟩;have nx:=bD (HX.o.step hp hg);have ho4:=b8.kept HO.o hg (.inr (fun e=>by have h1:=(Fz P e).1;have h2:=HX.o.CG;omega)) (fun k hk e=>by have e:=ar e;have h2:=HX.o.CG;omega);have cO:=b8.gr (F:=fun k=>w.heap.size<=k/\k≠w.heap.size) ho4 (fun k hk=>⟨by omega,by omega⟩) (fun k hk=>by have:=(Fz k hk).1;exact⟨by omega,by omega⟩);have tV:=bD cO;clear hp hg HX HO HE Fz ho4 cO;obtain⟨wx,rfl⟩:∃wx:World,wx=w4:=⟨_,rfl⟩;have HX:=nx;clear nx;by_cases h1:M=1
   ·subst h1;obtain⟨x,rfl⟩:∃x,l=[x]:=by
     have h:=HM.o;cases l with
     |nil=>simp at h
     |cons a l=>cases l with
      |nil=>exact⟨a,rfl⟩
      |cons b l=>simp at h
    have dS:=nf tV.o;obtain⟨A',c',hv,Cv,mz,dS⟩:=dS;simp only[ak,aD]at hv Cv;injection hv with e1 e2 e3
    subst e1 e3;obtain⟨bq,oq,rfl,-,dS⟩:=dS (by simp);obtain⟨Ak,ck,hE⟩:=dS 0 (by simp);simp only[List.getElem_cons_zero]at hE;have y0:=hE.c0;have y1:=hE.c1;have y2:=hE.c2;have y3:=hE.c3;have y4:=hE.c4;simp at y0 y1 y2 y3 y4;have HK:=bD hE.bE;have ny:Hy (Z=(x,t1,d)):=gu.o;clear dS hE gu mz Cv tV;obtain⟨a0,a1,a2,a3,a4,hB⟩:=HX.o.rz;obtain⟨e0,e1,e2,e3,e4⟩:=kK hB;simp at e0 e1 e2 e3 e4;obtain⟨g0,g1,g2,g3,g4⟩:=xV hB;clear hB;go_wp2_with fail;obtain⟨q1,q2⟩:=HX.o.fin x HK.o;rw[ny.o];change bodyPost _ _ _ _ _ (iq wx w.heap.size x (.slice Ak x.bE.length ck));exact ag (oo rfl q1) rfl q2
   ·have dG:((M:Int)==1)=false:=by rw[ai];omega
    have ny:Hy (Z=(.mk 5 0 [] [] l,t1,d)):=by rw[Hy,gu.o,G9 (by have:=HM.o;omega)]
    clear gu;obtain⟨a0,a1,a2,a3,a4,hB⟩:=HX.o.rz;obtain⟨e0,e1,e2,e3,e4⟩:=kK hB;simp at e0 e1 e2 e3 e4;obtain⟨g0,g1,g2,g3,g4⟩:=xV hB;clear hB;go_wp2_with fail;have cO:=tV.o;rw[HM.o]at cO;obtain⟨q1,q2⟩:=HX.o.fin (.mk 5 0 [] [] l) cO;rw[ny.o,HM.o];change bodyPost _ _ _ _ _ (iq wx w.heap.size (.mk 5 0 [] [] l) (.slice A l.length c));exact ag (oo rfl q1) rfl q2
theorem Jn(one:Bt->Bool->PZ)(Jb:lD one)(P N:Nat)(hN:N<=10000)(Q:Nat)(hQP:Q≠P)
 (tM:∀(s:Bt) (b:Bool) (W:World),s.length<=N->PS W P s b->W.cell? ⟨Q,0,none⟩=some (.pointer (some ⟨P,0,none⟩))->Calls prog 199 #[.pointer (some ⟨Q,0,none⟩)] W (rP P W (one s b)))
 (s:Bt) (b:Bool) (w:World) (h:PS w P s b) (hs:s.length<=N) (hQ:w.cell? ⟨Q,0,none⟩=some (.pointer (some ⟨P,0,none⟩))):
 Calls prog 198 #[.pointer (some ⟨P,0,none⟩),.int .i64 6,.string ⟨#[124]⟩,.func (.func 199) #[] #[.pointer (some ⟨Q,0,none⟩)]] w (rP P w (mw 6 [124] one s b)):=by
 have HX:=bD (vS.start h);have Oh:=bD tM;have HSH:=bD Jb;have HS:=bD hs;have HZ:Hy (mw 6 [124] one s b=(DQ 6 (iS one [124] (s.length+1) [(one s b).1] (one s b).2.1 (one s b).2.2).1,(iS one [124] (s.length+1) [(one s b).1] (one s b).2.1 (one s b).2.2).2)):=rfl;generalize mw 6 [124] one s b=Z at*;have HQ0:Hy ((w.alloc (.cells (bH kH (.slice none 0 0)).toArray 202)).cell? ⟨Q,0,none⟩=some (.pointer (some ⟨P,0,none⟩))):=((cU w _).cell (aq _ _ hQ)).trans hQ;have av8:Q<w.heap.size:=aq _ _ hQ;clear hQ;clear h hs tM Jb;go_enter func198,ntmps198;go_upto_region 1 with(fail)
 change Code.wp _ _ _ _ (w.alloc (.cells (bH kH (.slice none 0 0)).toArray 202));have J6:Hy ((w.alloc (.cells (bH kH (.slice none 0 0)).toArray 202)).heap.size=w.heap.size+1):=size_alloc _ _;generalize w.alloc (.cells (bH kH (.slice none 0 0)).toArray 202)=w1 at*;go_wp2_with fail;refine(Oh.o s b w1 HS.o HX.o.ps HQ0.o).mono ?_;rintro e w2 ⟨A0,c0,rfl,hk,hp,hg⟩;have iL:=bD (HX.o.step hp hg);have HQ:Hy (w1.cell? ⟨Q,0,none⟩=some (.pointer (some ⟨P,0,none⟩))):=HQ0.o;have xo:w2.cell? ⟨Q,0,none⟩=some (.pointer (some ⟨P,0,none⟩)):=(aW (a:=⟨Q,0,none⟩) (hg.block Q (aq _ _ HQ.o) (fun e=>hQP (ar e)))).trans HQ.o;clear HQ HQ0;have HQ:=bD xo;clear xo;have xy:Hy (w.heap.size+1<=w2.heap.size):=by have h1:=J6.o;have h2:=hg.size;rw[Hy];omega
 have HO:=bD (Qe (base:=w.heap.size+1) hk (fun k hk=>by have h1:=J6.o;omega) xy.o);have MY:=HSH.o s b;generalize one s b=z0 at*;obtain⟨x0,s0,b0⟩:=z0;simp only at HZ iL HO MY;have HL0:=bD MY;clear hk hp hg HX J6 MY;have HX:=iL;clear iL;simp only[da,bH];go_upto_block 0 with(fail)
 have cg:Below w2.heap.size w2 (w2.alloc (.cells (bH x0 (.slice A0 x0.bE.length c0)).toArray 202)):=cU _ _;change Code.wp _ _ _ _ (w2.alloc (.cells (bH x0 (.slice A0 x0.bE.length c0)).toArray 202));have ry:=bD (HX.o.below cg);have HQ3:=bD ((cg.cell (p:=⟨Q,0,none⟩) (aq _ _ HQ.o)).trans HQ.o);generalize w2.alloc (.cells (bH x0 (.slice A0 x0.bE.length c0)).toArray 202)=w3 at*;generalize w2.heap.size=G2 at*;clear HX cg xy HQ;go_wp2_with fail;go_loopw [9] (fun v wr=>∃(l:List Ex) (t:Bt) (d:Bool) (A:Option Addr) (c n M:Nat),v=.slice A M c/\M=l.length/\1<=M/\M+t.length<=s.length+1/\t.length<n/\Hy (vS w wr P w.heap.size t d)/\Hy (b8 wr (w.heap.size+1) 202 5 (fun k=>w.heap.size+1<=k) (.slice A M c) (l.map Ex.gv))/\
  Hy (Z=(DQ 6 (iS one [124] n l t d).1,(iS one [124] n l t d).2))/\Hy (wr.cell? ⟨Q,0,none⟩=some (.pointer (some ⟨P,0,none⟩))))
  (fun v wr=>Jl wr P)
 case atStart=>exact⟨[x0],s0,b0,_,1,s.length+1,1,rfl,rfl,dv _,by have:=HL0.o;omega,by have:=HL0.o;omega,ry.o,HO.o,HZ.o,HQ3.o⟩
 case round=>
  clear ry HO HZ HL0 HQ3;obtain⟨l,t,d,A,c,n,M,rfl,hM,h1M,hMt,hn,HX,HO,HZ,HQ⟩:=hrel;have HM:=bD hM;clear hM;obtain⟨n,rfl⟩:∃m,n=m+1:=⟨n-1,by omega⟩;have HE:=bD (jF #[124] t d P wr HX.o.ps);rw[show(#[124]:Array UInt8).toList=[124]from rfl]at HE;have tJ:=gM [124] t;have Fi:=bD HX.o.ps.len;cases he:(dj [124] t).2 with
  |true=>
   have gu:Hy (Z=(DQ 6 (iS one [124] n (l++[(one (dj [124] t).1 d).1]) (one (dj [124] t).1 d).2.1 (one (dj [124] t).1 d).2.2).1,(iS one [124] n (l++[(one (dj [124] t).1 d).1]) (one (dj [124] t).1 d).2.1 (one (dj [124] t).1 d).2.2).2)):=by
    rw[Hy,HZ.o,iS,ae he]
   rw[he]at HE;have tD:=tJ.2 he;have Cw:=HSH.o (dj [124] t).1 d;have Fz:∀k,(Value.slice A M c).ownBlock=some k->w.heap.size+1<=k/\k<wr.heap.size:=b8.lt HO.o;generalize(dj [124] t).1=t1 at*;clear he HZ tJ;simp only[ak,aD]at tD;have av7:M<=10001:=by have:=HS.o;omega
   have Lm:=bD tD;have Gw:=bD Cw;have tU:=bD Fz;clear tD Cw Fz;go_wp2_with fail;refine HE.o.mono ?_;rintro e w4 ⟨rfl,hp,hg⟩;have nx:=bD (HX.o.step hp hg);have HO4:=bD (b8.kept HO.o hg (.inr (fun e=>by have h1:=(tU.o P e).1;have h2:=HX.o.CG;omega)) (fun k hk e=>by have e:=ar e;have h2:=HX.o.CG;omega));have Ka:Hy (wr.heap.size<=w4.heap.size):=hg.size;have HQ4:Hy (w4.cell? ⟨Q,0,none⟩=some (.pointer (some ⟨P,0,none⟩))):=(aW (a:=⟨Q,0,none⟩) (hg.block Q (aq _ _ HQ.o) (fun e=>hQP (ar e)))).trans HQ.o;clear hp hg HX HO HE HQ;go_wp2_with fail;refine(Oh.o t1 d w4 (by have h1:=Lm.o;have h2:=HS.o;omega) nx.o.ps HQ4.o).mono ?_;rintro e w5 ⟨A5,c5,rfl,hk,hp,hg⟩;have sl:=bD (nx.o.step hp hg);have KS:=bD (b8.kept HO4.o hg (.inr (fun e=>by have h1:=(tU.o P e).1;have h2:=nx.o.CG;omega)) (fun k hk e=>by have e:=ar e;have h2:=nx.o.CG;omega));have I5:w.heap.size+1<=w4.heap.size:=by obtain⟨_,_,_,_,_,hB⟩:=nx.o.rz;exact hB.lt
   have HQ5:Hy (w5.cell? ⟨Q,0,none⟩=some (.pointer (some ⟨P,0,none⟩))):=(aW (a:=⟨Q,0,none⟩) (hg.block Q (aq _ _ HQ4.o) (fun e=>hQP (ar e)))).trans HQ4.o;have HA:=bD (UJ (B:=w4.heap.size) KS.o (fun k e=>by have h1:=(tU.o k e).2;have h2:=Ka.o;omega) hk I5 (au I5 hg.size) HM.o (by rw[<-HM.o];omega));generalize one t1 d=z5 at*;obtain⟨x5,s5,b5⟩:=z5;simp only at gu sl Gw HA;have cg:=fun C=>cU w5 (.cells C 202);have No:Hy (∀(A7:Option Addr) (c7:Nat) (w7:World),b8 w7 (w.heap.size+1) 202 5 (fun k=>w.heap.size+1<=k) (.slice A7 (M+1) c7) (l.map Ex.gv++[x5.gv])->(w5.alloc (.cells (bH x5 (.slice A5 x5.bE.length c5)).toArray 202)).grownBy w7 (Value.slice A M c).ownBlock->vS w w7 P w.heap.size s5 b5):=by
    intro A7 c7 w7 h1 h2;have lH:=sl.o.below (cg (bH x5 (.slice A5 x5.bE.length c5)).toArray);have hb:Below (w.heap.size+1) (w5.alloc (.cells (bH x5 (.slice A5 x5.bE.length c5)).toArray 202)) w7:=bN h2 (by rw[size_alloc];have:=Ka.o;have:=hg.size;omega) (fun k hk=>(tU.o k hk).1);obtain⟨a0,a1,a2,a3,a4,hB⟩:=lH.rz;have SU:=lH.ps;refine⟨⟨a0,a1,a2,a3,a4,hB.below hb (Nat.lt_succ_self _)⟩,⟨SU.iz.below hb (by have:=sl.o.CG;omega),?_,SU.hP⟩,⟨hb.os.trans lH.grown.os,hb.tape.trans lH.grown.tape,hb.output.trans lH.grown.output,au lH.grown.size hb.size,fun i hi db=>(hb.block i (by omega)).trans (lH.grown.block i hi db)⟩,lH.hX,lH.CG⟩;exact BG SU.pP (fun k hk=>hb.block k (by have:=sl.o.CG;omega)) SU.hP
   have HQU:Hy (∀(w7:World),(w5.alloc (.cells (bH x5 (.slice A5 x5.bE.length c5)).toArray 202)).grownBy w7 (Value.slice A M c).ownBlock->Q<w.heap.size->w7.cell? ⟨Q,0,none⟩=some (.pointer (some ⟨P,0,none⟩))):=by
    intro w7 h2 hq;have hb:Below (w.heap.size+1) (w5.alloc (.cells (bH x5 (.slice A5 x5.bE.length c5)).toArray 202)) w7:=bN h2 (by rw[size_alloc];have:=Ka.o;have:=hg.size;omega) (fun k hk=>(tU.o k hk).1);have h6:=((cg (bH x5 (.slice A5 x5.bE.length c5)).toArray).cell (p:=⟨Q,0,none⟩) (aq _ _ HQ5.o)).trans HQ5.o;exact(hb.cell (p:=⟨Q,0,none⟩) (by show Q<w.heap.size+1;omega)).trans h6
   clear hk hp hg nx HO4 KS I5 cg HQ4 HQ5;simp only[da,bH]at HA No|-;go_wp2_with (at_builtin;go_loud (refine HA.o.plain rfl _ _ _ rfl ab1 rfl rfl ?_);intro A7 c7 w7 bZ cO fG;have PI:=bD (No.o _ _ _ bZ cO);have Fo:=bD bZ;have HQ7:=bD (HQU.o _ cO av8);clear bZ cO fG);go_roundw
   case rel=>exact⟨l++[x5],s5,b5,A7,c7,n,M+1,rfl,by rw[af,HM.o];rfl,by omega,by have h1:=Lm.o;have h2:=Gw.o;omega,by have h1:=Lm.o;have h2:=Gw.o;omega,PI.o,by rw[aK];exact Fo.o,gu.o,HQ7.o⟩
   case measure=>rw[PI.o.ps.len,Fi.o];have h1:=Lm.o;have h2:=Gw.o;omega
  |false=>
   have gu:Hy (Z=(DQ 6 l,(dj [124] t).1,d)):=by
    rw[Hy,HZ.o,iS,aa (by rw[he];simp)]
   rw[he]at HE;have Fz:∀k,(Value.slice A M c).ownBlock=some k->w.heap.size+1<=k/\k<wr.heap.size:=b8.lt HO.o;generalize(dj [124] t).1=t1 at*;clear he HZ tJ;go_wp2_with fail;refine HE.o.mono ?_;rintro e w4 ⟨rfl,hp,hg⟩;have nx:=bD (HX.o.step hp hg);have ho4:=b8.kept HO.o hg (.inr (fun e=>by have h1:=(Fz P e).1;have h2:=HX.o.CG;omega)) (fun k hk e=>by have e:=ar e;have h2:=HX.o.CG;omega);have cO:=b8.gr (F:=fun k=>w.heap.size<=k/\k≠w.heap.size) ho4 (fun k hk=>⟨by omega,by omega⟩) (fun k hk=>by have:=(Fz k hk).1;exact⟨by omega,by omega⟩);have tV:=bD cO;clear hp hg HX HO HE Fz ho4 cO HQ;obtain⟨wx,rfl⟩:∃wx:World,wx=w4:=⟨_,rfl⟩;have HX:=nx;clear nx;by_cases h1:M=1
   ·subst h1;obtain⟨x,rfl⟩:∃x,l=[x]:=by
     have h:=HM.o;cases l with
     |nil=>simp at h
     |cons a l=>cases l with
      |nil=>exact⟨a,rfl⟩
      |cons b l=>simp at h
    have dS:=nf tV.o;obtain⟨A',c',hv,Cv,mz,dS⟩:=dS;simp only[ak,aD]at hv Cv;injection hv with e1 e2 e3
    subst e1 e3;obtain⟨bq,oq,rfl,-,dS⟩:=dS (by simp);obtain⟨Ak,ck,hE⟩:=dS 0 (by simp);simp only[List.getElem_cons_zero]at hE;have y0:=hE.c0;have y1:=hE.c1;have y2:=hE.c2;have y3:=hE.c3;have y4:=hE.c4;simp at y0 y1 y2 y3 y4;have HK:=bD hE.bE;have ny:Hy (Z=(x,t1,d)):=gu.o;clear dS hE gu mz Cv tV;obtain⟨a0,a1,a2,a3,a4,hB⟩:=HX.o.rz;obtain⟨e0,e1,e2,e3,e4⟩:=kK hB;simp at e0 e1 e2 e3 e4;obtain⟨g0,g1,g2,g3,g4⟩:=xV hB;clear hB;go_wp2_with fail;obtain⟨q1,q2⟩:=HX.o.fin x HK.o;rw[ny.o];change bodyPost _ _ _ _ _ (iq wx w.heap.size x (.slice Ak x.bE.length ck));exact ag (oo rfl q1) rfl q2
   ·have dG:((M:Int)==1)=false:=by rw[ai];omega
    have ny:Hy (Z=(.mk 6 0 [] [] l,t1,d)):=by rw[Hy,gu.o,G9 (by have:=HM.o;omega)]
    clear gu;obtain⟨a0,a1,a2,a3,a4,hB⟩:=HX.o.rz;obtain⟨e0,e1,e2,e3,e4⟩:=kK hB;simp at e0 e1 e2 e3 e4;obtain⟨g0,g1,g2,g3,g4⟩:=xV hB;clear hB;go_wp2_with fail;have cO:=tV.o;rw[HM.o]at cO;obtain⟨q1,q2⟩:=HX.o.fin (.mk 6 0 [] [] l) cO;rw[ny.o,HM.o];change bodyPost _ _ _ _ _ (iq wx w.heap.size (.mk 6 0 [] [] l) (.slice A l.length c));exact ag (oo rfl q1) rfl q2
theorem Jo{w:World}{X:Nat}{tmps:Array Value}{x:Ex}{kv:Value}(h4:tmps[1]?.getD undef=.pointer (some ⟨X,0,none⟩))(B0:bL w X 202 (bH x kv).toArray):
 (results f199 tmps).run prog w=.ok (da x kv) w:=by
 obtain⟨a0,a1,a2,a3,a4⟩:=kK B0;simp[bH]at a0 a1 a2 a3 a4;simp[results,results199,go_sem,h4,a0,a1,a2,a3,a4,da,bH]
theorem LU{w:World}{X:Nat}{tmps:Array Value}{x:Ex}{kv:Value}(h4:tmps[2]?.getD undef=.pointer (some ⟨X,0,none⟩))(B0:bL w X 202 (bH x kv).toArray):
 (results f171 tmps).run prog w=.ok (da x kv) w:=by
 obtain⟨a0,a1,a2,a3,a4⟩:=kK B0;simp[bH]at a0 a1 a2 a3 a4;simp[results,results171,go_sem,h4,a0,a1,a2,a3,a4,da,bH]
theorem km{w:World}{X:Nat}{tmps:Array Value}{x:Ex}{kv:Value}(h4:tmps[2]?.getD undef=.pointer (some ⟨X,0,none⟩))(B0:bL w X 202 (bH x kv).toArray):
 (results f200 tmps).run prog w=.ok (da x kv) w:=by
 obtain⟨a0,a1,a2,a3,a4⟩:=kK B0;simp[bH]at a0 a1 a2 a3 a4;simp[results,results200,go_sem,h4,a0,a1,a2,a3,a4,da,bH]
theorem vS.pre{w0 w W:World}{P X:Nat}{s:Bt}{b:Bool}(h:vS w W P X s b)(hb:Below w0.heap.size w0 w)(hP:P<w0.heap.size):vS w0 W P X s b:=
 ⟨h.rz,h.ps,bU (eR hb _) h.grown,au hb.size h.hX,hP⟩
theorem vS.bE{w W W':World}{P X:Nat}{s:Bt}{b:Bool}{x:Ex}{kv:Value}(h:vS w W P X s b)(hk:GR W' (fun k=>W.heap.size<=k) (.row 5 (x.bE.map Ex.gv)) [kv]):GR W' (fun k=>w.heap.size<=k/\k≠X) (.row 5 (x.bE.map Ex.gv)) [kv]:=by
 obtain⟨_,_,_,_,_,hB⟩:=h.rz;have h1:=hB.lt;have h2:=h.grown.size;exact hk.dY (fun k hk=>⟨by omega,by omega⟩)
theorem OG(one:Bt->Bool->PZ)(Jb:lD one)(P N:Nat)(hN:N<=10000)(Q:Nat)
 (tM:∀(s:Bt) (b:Bool) (W:World),s.length<=N->PS W P s b->Calls prog 200 #[.pointer (some ⟨P,0,none⟩)] W (rP P W (one s b)))
 (s:Bt) (b:Bool) (w:World) (hs:s.length<=N) (h:PS w P s b) (hQ:w.cell? ⟨Q,0,none⟩=some (.pointer (some ⟨P,0,none⟩))):
 Calls prog 199 #[.pointer (some ⟨Q,0,none⟩)] w (rP P w (mw 5 [38] one s b)):=by
 have HX:=bD (vS.start h);have Wm:=bD (fun w h=>Jm one Jb P N hN tM s b w h hs);have c:=((cU w (.cells (bH kH (.slice none 0 0)).toArray 202)).cell (p:=⟨Q,0,none⟩) (aq _ _ hQ)).trans hQ;generalize mw 5 [38] one s b=Z at*;clear h hs tM Jb hQ;go_enter func199,ntmps199;go_upto_region 1 with(fail)
 change Code.wp _ _ _ _ (w.alloc (.cells (bH kH (.slice none 0 0)).toArray 202));generalize w.alloc (.cells (bH kH (.slice none 0 0)).toArray 202)=w1 at*;generalize nH:w.heap.size=X at*;have gg:=bD nH;clear nH;go_wp2_with fail;refine(Wm.o w1 HX.o.ps).mono ?_;rintro e wx ⟨A0,c0,rfl,hk,hp,hg⟩;have HK:=bD (HX.o.bE hk);have iL:=bD (HX.o.step hp hg);clear hk hp hg HX Wm c;have HX:=iL;clear iL;obtain⟨x,t,d⟩:=Z;simp only at HK HX|-;obtain⟨a0,a1,a2,a3,a4,hB⟩:=HX.o.rz;obtain⟨e0,e1,e2,e3,e4⟩:=kK hB;simp at e0 e1 e2 e3 e4;obtain⟨g0,g1,g2,g3,g4⟩:=xV hB;clear hB;simp only[da,bH];go_wp2_with fail;obtain⟨q1,q2⟩:=HX.o.fin x HK.o;change bodyPost _ _ _ _ _ (iq wx X x (.slice A0 x.bE.length c0));exact ag (Jo rfl q1) rfl q2
theorem Ha(one:Bt->Bool->PZ)(Jb:lD one)(P N:Nat)(hN:N<=10000)
 (tM:∀(s:Bt) (b:Bool) (W:World),s.length<=N->PS W P s b->Calls prog 200 #[.pointer (some ⟨P,0,none⟩)] W (rP P W (one s b)))
 (s:Bt) (b:Bool) (w:World) (hs:s.length<=N) (h:PS w P s b):
 Calls prog 171 #[.pointer (some ⟨P,0,none⟩)] w (rP P w (Co one s b)):=by
 have cg:Below w.heap.size w (w.alloc (.cells #[.pointer (some ⟨P,0,none⟩)] 221)):=cU _ _;have hq:=(bL.new w 221 #[.pointer (some ⟨P,0,none⟩)]).cell 0;have HX:=bD ((vS.start (h.below cg)).pre cg h.iz.lt);have Cd:=(aF (w.alloc (.cells #[.pointer (some ⟨P,0,none⟩)] 221)).heap.size (w.alloc (.cells #[.pointer (some ⟨P,0,none⟩)] 221))).alloc (dv _) (.cells (bH kH (.slice none 0 0)).toArray 202);have c:=(Cd.cell (p:=⟨w.heap.size,0,none⟩) (by rw[size_alloc];exact Nat.lt_succ_self _)).trans hq;have hPQ:w.heap.size≠P:=by have:=h.iz.lt;omega
 have Wm:=bD (fun w' (h:PS w' P s b) hQ=>Jn (mw 5 [38] one) (sU Jb _ _) P N hN w.heap.size hPQ (fun s b W h1 h2 h3=>OG one Jb P N hN w.heap.size tM s b W h1 h2 h3) s b w' h hs hQ);have hZ:Co one s b=mw 6 [124] (mw 5 [38] one) s b:=rfl;rw[<-hZ]at Wm;generalize Co one s b=Z at*;rw[size_alloc]at HX;clear h hs tM Jb hq cg Cd hPQ hZ;go_enter func171,ntmps171;go_upto_region 1 with(fail)
 change Code.wp _ _ _ _ ((w.alloc (.cells #[.pointer (some ⟨P,0,none⟩)] 221)).alloc (.cells (bH kH (.slice none 0 0)).toArray 202));generalize(w.alloc (.cells #[.pointer (some ⟨P,0,none⟩)] 221)).alloc (.cells (bH kH (.slice none 0 0)).toArray 202)=w1 at*;generalize nH:w.heap.size=X at*;have gg:=bD nH;clear nH;go_wp2_with fail;refine(Wm.o w1 HX.o.ps c).mono ?_;rintro e wx ⟨A0,c0,rfl,hk,hp,hg⟩;have HK:=bD (HX.o.bE hk);have iL:=bD (HX.o.step hp hg);clear hk hp hg HX Wm c;have HX:=iL;clear iL;obtain⟨x,t,d⟩:=Z;simp only at HK HX|-;obtain⟨a0,a1,a2,a3,a4,hB⟩:=HX.o.rz;obtain⟨e0,e1,e2,e3,e4⟩:=kK hB;simp at e0 e1 e2 e3 e4;obtain⟨g0,g1,g2,g3,g4⟩:=xV hB;clear hB;simp only[da,bH];go_wp2_with fail;obtain⟨q1,q2⟩:=HX.o.fin x HK.o;change bodyPost _ _ _ _ _ (iq wx (X+1) x (.slice A0 x.bE.length c0));exact ag (LU rfl q1) rfl q2
theorem OH{w:World}{F:Nat->Prop}{x y:Ex}{kx ky:Value}{g:Nat}{t:TypeId}(h:bL w g t (bH x kx++bH y ky).toArray)(hg:F g)(hx:GR w F (.row 5 (x.bE.map Ex.gv)) [kx])(hy:GR w F (.row 5 (y.bE.map Ex.gv)) [ky]):
 GR w F (.row 5 ([x,y].map Ex.gv)) [.slice (some ⟨g,0,none⟩) 2 2]:=by
 refine jR.2 ⟨some ⟨g,0,none⟩,2,bH x kx++bH y ky,rfl,dv _,by simp[maxLen],rfl,fun _=>⟨g,0,rfl,hg,fun j u hu=>?_⟩,?_⟩
 ·rw[Nat.zero_add,h.cell]
  simpa using hu
 ·exact gF.2 ⟨bH x kx,bH y ky,rfl,rfl,rO hx,lp (rO hy) rfl⟩
theorem LV(val:nK)(jj:qE y7 val)(P:Nat):∀(n:Nat) (s:Bt) (b:Bool) (w:World),s.length<n->n<=10000->PS w P s b->
 Calls prog 200 #[.pointer (some ⟨P,0,none⟩)] w (rP P w (oY val n s b)):=by
 intro n;induction n with
 |zero=>intro s b w hs;omega
 |succ n ih=>
 intro s b w hs hn h;have HX:=bD (vS.start h);have al5:=bD jj;have RO:=bD (fun s b w h1 h2=>ih s b w h1 (by omega) h2);have HZ:Hy (oY val (n+1) s b=if b then(kH,s,b)
  else if(dj [33] s).2 then(.mk 4 0 [] [] [(oY val n (dj [33] s).1 b).1],(oY val n (dj [33] s).1 b).2)
  else if(dj [40] (dj [33] s).1).2 then uR (Co (oY val n) (dj [40] (dj [33] s).1).1 b)
  else yZ val (iX val (dj [40] (dj [33] s).1).1 b)):=rfl
 generalize oY val (n+1) s b=Z at*;have HS:Hy (s.length<=n/\n<=9999):=⟨by omega,by omega⟩;clear h jj ih hs hn;go_enter func200,ntmps200;go_upto_region 1 with(fail)
 change Code.wp _ _ _ _ (w.alloc (.cells (bH kH (.slice none 0 0)).toArray 202));generalize w.alloc (.cells (bH kH (.slice none 0 0)).toArray 202)=w1 at*;generalize nH:w.heap.size=X at*;have gg:=bD nH;clear nH;obtain⟨wx,rfl⟩:∃wx:World,wx=w1:=⟨_,rfl⟩;obtain⟨c0,c1,f0,f1⟩:=HX.o.cells;cases b with
 |true=>
  have gu:Hy (Z=(kH,s,true)):=by rw[Hy,HZ.o,ae rfl]
  clear HZ;obtain⟨a0,a1,a2,a3,a4,hB⟩:=HX.o.rz;obtain⟨e0,e1,e2,e3,e4⟩:=kK hB;simp at e0 e1 e2 e3 e4;obtain⟨g0,g1,g2,g3,g4⟩:=xV hB;clear hB;go_wp2_with fail;obtain⟨q1,q2⟩:=HX.o.fin kH (A:=none) (c:=0) cS;rw[gu.o];change bodyPost _ _ _ _ _ (iq wx X kH (.slice none 0 0));exact ag (km rfl q1) rfl q2
 |false=>
 have CE:Hy (Z=if(dj [33] s).2 then(.mk 4 0 [] [] [(oY val n (dj [33] s).1 false).1],(oY val n (dj [33] s).1 false).2)
  else if(dj [40] (dj [33] s).1).2 then uR (Co (oY val n) (dj [40] (dj [33] s).1).1 false)
  else yZ val (iX val (dj [40] (dj [33] s).1).1 false)):=by rw[Hy,HZ.o,aa (by simp)]
 have HE:=bD (jF #[33] s false P wx HX.o.ps);rw[show(#[33]:Array UInt8).toList=[33]from rfl]at HE;have tJ:=gM [33] s;generalize dj [33] s=E1 at*;obtain⟨s1,i1⟩:=E1;simp only at CE HE tJ;simp only[ak,aD]at tJ;have j4:=bD tJ;clear HZ tJ;go_wp2_with fail;refine HE.o.mono ?_;rintro e w2 ⟨rfl,hp,hg⟩;have iL:=bD (HX.o.step hp hg);clear hp hg HX HE c0 c1 f0 f1;obtain⟨wx,rfl⟩:∃wx:World,wx=w2:=⟨_,rfl⟩;have HX:=iL;clear iL;cases i1 with
 |true=>
  have gu:Hy (Z=(.mk 4 0 [] [] [(oY val n s1 false).1],(oY val n s1 false).2)):=by rw[Hy,CE.o,ae rfl]
  have HC:=bD (RO.o s1 false wx (by have h1:=j4.o.2 rfl;have h2:=HS.o.1;omega) HX.o.ps);generalize oY val n s1 false=Y at*;obtain⟨x,t,d⟩:=Y;simp only at gu;clear CE;go_wp2_with fail;refine HC.o.mono ?_;rintro e w3 ⟨A0,c0,rfl,hk,hp,hg⟩;have HK:=bD (HX.o.bE hk);have iL:=bD (HX.o.step hp hg);clear hk hp hg HX HC;simp only[da,bH]at iL HK|-;have cg:Below w3.heap.size w3 (w3.alloc (.cells (bH x (.slice A0 x.bE.length c0)).toArray 202)):=cU _ _;have hB:=bL.new w3 202 (bH x (.slice A0 x.bE.length c0)).toArray;have Z5:X<w3.heap.size/\w.heap.size<=w3.heap.size:=by obtain⟨_,_,_,_,_,hB⟩:=iL.o.rz;exact⟨hB.lt,iL.o.grown.size⟩
  have HX:=bD (iL.o.below cg);have Am:Hy (GR (w3.alloc (.cells (bH x (.slice A0 x.bE.length c0)).toArray 202)) (fun k=>w.heap.size<=k/\k≠X) (.row 5 ([x].map Ex.gv)) [.slice (some ⟨w3.heap.size,0,none⟩) 1 1]):=
   ss hB ⟨Z5.2,by omega⟩ (rO (HK.o.below cg)) rfl
  clear cg hB Z5 HK;obtain⟨a0,a1,a2,a3,a4,hB⟩:=iL.o.rz;have al:=cU w3 (.cells (bH x (.slice A0 x.bE.length c0)).toArray 202);have hB:=hB.below al hB.lt;clear al iL;simp only[bH]at HX hB Am;obtain⟨e0,e1,e2,e3,e4⟩:=kK hB;simp at e0 e1 e2 e3 e4;obtain⟨g0,g1,g2,g3,g4⟩:=xV hB;clear hB;go_wp2_with fail;obtain⟨q1,q2⟩:=HX.o.fin (.mk 4 0 [] [] [x]) Am.o;rw[gu.o];change bodyPost _ _ _ _ _ (iq (w3.alloc (.cells (bH x (.slice A0 x.bE.length c0)).toArray 202)) X (.mk 4 0 [] [] [x]) (.slice (some ⟨w3.heap.size,0,none⟩) 1 1));exact ag (km rfl q1) rfl q2
 |false=>
 have gu:Hy (Z=if(dj [40] s1).2 then uR (Co (oY val n) (dj [40] s1).1 false)else yZ val (iX val (dj [40] s1).1 false)):=by rw[Hy,CE.o,aa (by simp)]
 have HE:=bD (jF #[40] s1 false P wx HX.o.ps);rw[show(#[40]:Array UInt8).toList=[40]from rfl]at HE;have tJ:=gM [40] s1;generalize dj [40] s1=E2 at*;obtain⟨s2,i2⟩:=E2;simp only at gu HE tJ;simp only[ak,aD]at tJ;have ab3:=bD tJ;clear CE tJ;go_wp2_with fail;refine HE.o.mono ?_;rintro e w2 ⟨rfl,hp,hg⟩;have iL:=bD (HX.o.step hp hg);clear hp hg HX HE;obtain⟨wx,rfl⟩:∃wx:World,wx=w2:=⟨_,rfl⟩;have HX:=iL;clear iL;cases i2 with
 |true=>
  have ny:Hy (Z=uR (Co (oY val n) s2 false)):=by rw[Hy,gu.o,ae rfl]
  have HC:=bD (Ha (oY val n) (uS val n) P (n-1) (by have h2:=HS.o.2;omega) (fun s b W h1 h2=>RO.o s b W (by have h3:=j4.o.1;have h4:=ab3.o.2 rfl;have h5:=HS.o.1;omega) h2) s2 false wx (by have h3:=j4.o.1;have h4:=ab3.o.2 rfl;have h5:=HS.o.1;omega) HX.o.ps);generalize Co (oY val n) s2 false=Y at*;obtain⟨x,t,d⟩:=Y;clear gu;go_wp2_with fail;refine HC.o.mono ?_;rintro e w3 ⟨A0,c0,rfl,hk,hp,hg⟩;have HK:=bD (HX.o.bE hk);have iL:=bD (HX.o.step hp hg);clear hk hp hg HX HC;simp only[da,bH]at iL HK|-;go_upto_region 7 with(fail)
  have cg:Below w3.heap.size w3 (w3.alloc (.cells (bH x (.slice A0 x.bE.length c0)).toArray 202)):=cU _ _;have HY:=bD (bL.new w3 202 (bH x (.slice A0 x.bE.length c0)).toArray);have HX:=bD (iL.o.below cg);have P8:=bD (HK.o.below cg);have S4:Hy (P<w3.heap.size):=iL.o.ps.iz.lt;change Code.wp _ _ _ _ (w3.alloc (.cells (bH x (.slice A0 x.bE.length c0)).toArray 202));clear cg iL HK;generalize w3.alloc (.cells (bH x (.slice A0 x.bE.length c0)).toArray 202)=w4 at*;generalize w3.heap.size=Y at*;have HE:=bD (jF #[41] t d P w4 HX.o.ps);rw[show(#[41]:Array UInt8).toList=[41]from rfl]at HE;have wA:Hy (Z=if(dj [41] t).2 then(x,(dj [41] t).1,d)else lU):=ny.o;generalize dj [41] t=E3 at*;obtain⟨s3,i3⟩:=E3;simp only at wA HE;clear ny;go_wp2_with fail;refine HE.o.mono ?_;rintro e w2 ⟨rfl,hp,hg⟩;have iL:=bD (HX.o.step hp hg);have YP:=bD (HY.o.grown hg (by have:=S4.o;simp;omega));have fA:GR w2 (fun k=>w.heap.size<=k/\k≠X) (.row 5 (x.bE.map Ex.gv)) [.slice A0 x.bE.length c0]:=
   GR.mono (fun _ h=>h) (fun k hk bW=>hg.block k bW (fun e=>by have e:=ar e;have:=HX.o.CG;omega)) _ _ P8.o
  have YZ:=bD fA;clear hp hg HX HE HY P8 fA;obtain⟨wx,rfl⟩:∃wx:World,wx=w2:=⟨_,rfl⟩;have HX:=iL;clear iL;cases i3 with
  |true=>
   have Aw:Hy (Z=(x,s3,d)):=by rw[Hy,wA.o,ae rfl]
   clear wA;obtain⟨y0,y1,y2,y3,y4⟩:=kK YP.o;simp[bH]at y0 y1 y2 y3 y4;obtain⟨a0,a1,a2,a3,a4,hB⟩:=HX.o.rz;obtain⟨e0,e1,e2,e3,e4⟩:=kK hB;simp at e0 e1 e2 e3 e4;obtain⟨g0,g1,g2,g3,g4⟩:=xV hB;clear hB;go_wp2_with fail;obtain⟨q1,q2⟩:=HX.o.fin x YZ.o;rw[Aw.o];change bodyPost _ _ _ _ _ (iq wx X x (.slice A0 x.bE.length c0));exact ag (km rfl q1) rfl q2
  |false=>
   have Aw:Hy (Z=lU):=by rw[Hy,wA.o,aa (by simp)]
   clear wA;go_wp2_with fail;refine(uT _ _ P _ HX.o.ps).mono ?_;rintro e w9 ⟨A9,c9,rfl,PD,VW,xX⟩;have HK9:=bD (HX.o.bE PD);have qv:=bD (HX.o.step VW xX);clear PD VW xX HX;have HX:=qv;clear qv;obtain⟨a0,a1,a2,a3,a4,hB⟩:=HX.o.rz;obtain⟨e0,e1,e2,e3,e4⟩:=kK hB;simp at e0 e1 e2 e3 e4;obtain⟨g0,g1,g2,g3,g4⟩:=xV hB;clear hB;simp only[da,bH,lU,kH,Ex.kind,Ex.n,Ex.text,Ex.iD,Ex.bE]at*;go_wp2_with fail;obtain⟨q1,q2⟩:=HX.o.fin lU.1 (A:=A9) (c:=c9) HK9.o;rw[Aw.o];change bodyPost _ _ _ _ _ (iq w9 X kH (.slice A9 0 c9));exact ag (km rfl q1) rfl q2
 |false=>
  have ny:Hy (Z=yZ val (iX val s2 false)):=by rw[Hy,gu.o,aa (by simp)]
  have MW:s2.length<=9999:=by have h3:=j4.o.1;have h4:=ab3.o.1;have h5:=HS.o;omega
  have HC:=bD (y8 val al5.o s2 false P wx HX.o.ps (by omega));have mC:=qH val s2 false;generalize iX val s2 false=Y at*;obtain⟨x,t,d⟩:=Y;simp only at mC;have nF:Hy (t.length<=9999):=by rw[Hy];omega
  clear gu mC;go_wp2_with fail;refine HC.o.mono ?_;rintro e w3 ⟨A0,c0,rfl,hk,hp,hg⟩;have HK:=bD (HX.o.bE hk);have iL:=bD (HX.o.step hp hg);clear hk hp hg HX HC;simp only[da,bH]at iL HK|-;go_upto_region 11 with(fail)
  have cg:Below w3.heap.size w3 (w3.alloc (.cells (bH x (.slice A0 x.bE.length c0)).toArray 202)):=cU _ _;have HY:=bD (bL.new w3 202 (bH x (.slice A0 x.bE.length c0)).toArray);have HX:=bD (iL.o.below cg);have P8:=bD (HK.o.below cg);have S4:Hy (P<w3.heap.size/\X<w3.heap.size):=⟨iL.o.ps.iz.lt,by obtain⟨_,_,_,_,_,hB⟩:=iL.o.rz;exact hB.lt⟩;change Code.wp _ _ _ _ (w3.alloc (.cells (bH x (.slice A0 x.bE.length c0)).toArray 202));clear cg iL HK;generalize w3.alloc (.cells (bH x (.slice A0 x.bE.length c0)).toArray 202)=w4 at*;generalize w3.heap.size=Y at*;have HE:=bD (OD t d P w4 HX.o.ps);have wA:Hy (Z=if(ja eL t).1=[]then(x,(ja eL t).2,d)
   else(.mk 7 0 [] (ja eL t).1 [x,(iX val (ja eL t).2 d).1],(iX val (ja eL t).2 d).2)):=ny.o
  have TE:=vR eL t;generalize ja eL t=G at*;obtain⟨sg,u⟩:=G;simp only at wA HE TE;have HUL:Hy (u.length<=9999):=by rw[Hy];have:=nF.o;omega
  clear ny TE;go_wp2_with fail;refine HE.o.mono ?_;rintro e w2 ⟨rfl,hp,hg⟩;have iL:=bD (HX.o.step hp hg);have YP:=bD (HY.o.grown hg (by have:=S4.o.1;simp;omega));have fA:GR w2 (fun k=>w.heap.size<=k/\k≠X) (.row 5 (x.bE.map Ex.gv)) [.slice A0 x.bE.length c0]:=
   GR.mono (fun _ h=>h) (fun k hk bW=>hg.block k bW (fun e=>by have e:=ar e;have:=HX.o.CG;omega)) _ _ P8.o
  have YZ:=bD fA;clear hp hg HX HE HY P8 fA;obtain⟨wx,rfl⟩:∃wx:World,wx=w2:=⟨_,rfl⟩;have HX:=iL;clear iL;obtain⟨y0,y1,y2,y3,y4⟩:=kK YP.o;simp[bH]at y0 y1 y2 y3 y4;by_cases hsg:sg=[]
  ·obtain⟨q1,q2⟩:=fE hsg;have Aw:Hy (Z=(x,u,d)):=by rw[Hy,wA.o,ae hsg]
   clear wA hsg;obtain⟨a0,a1,a2,a3,a4,hB⟩:=HX.o.rz;obtain⟨e0,e1,e2,e3,e4⟩:=kK hB;simp at e0 e1 e2 e3 e4;obtain⟨g0,g1,g2,g3,g4⟩:=xV hB;clear hB;go_wp2_with fail;obtain⟨q1,q2⟩:=HX.o.fin x YZ.o;rw[Aw.o];change bodyPost _ _ _ _ _ (iq wx X x (.slice A0 x.bE.length c0));exact ag (km rfl q1) rfl q2
  ·obtain⟨q1,q2⟩:=gT hsg;have Aw:Hy (Z=(.mk 7 0 [] sg [x,(iX val u d).1],(iX val u d).2)):=by rw[Hy,wA.o,aa hsg]
   have HC:=bD (fun W h=>y8 val al5.o u d P W h (by have:=HUL.o;omega));generalize iX val u d=V at*;obtain⟨z,u2,d2⟩:=V;simp only at Aw;clear wA hsg;go_upto_region 14 with(fail)
   have hS:wx.drew.cell? ⟨Y,0,none⟩=some (.int .i64 x.kind)/\wx.drew.cell? ⟨Y,1,none⟩=some (.int .i64 x.n)/\wx.drew.cell? ⟨Y,2,none⟩=some (.string (bs x.text))/\wx.drew.cell? ⟨Y,3,none⟩=some (.string (bs x.iD))/\wx.drew.cell? ⟨Y,4,none⟩=some (.slice A0 x.bE.length c0):=⟨y0,y1,y2,y3,y4⟩;refine aL (S:=(fun w'=>w'.cell? ⟨Y,0,none⟩=some (.int .i64 x.kind)/\w'.cell? ⟨Y,1,none⟩=some (.int .i64 x.n)/\w'.cell? ⟨Y,2,none⟩=some (.string (bs x.text))/\w'.cell? ⟨Y,3,none⟩=some (.string (bs x.iD))/\w'.cell? ⟨Y,4,none⟩=some (.slice A0 x.bE.length c0))) (by kernel_rfl) ?_;change wpAnyH _ _ _ _ _ _ _ _ (World.drew _);refine jw 0 hS ?_;refine jw 1 hS ?_;refine jw 2 hS ?_;clear hS y0 y1 y2 y3 y4;refine fr 3 (fun K_ bP=>?_);go_simp;have ry:=bD (HX.o.below (aF _ _).drew);refine(HC.o _ ry.o.ps).mono ?_;rintro e w5 ⟨A5,c5,rfl,hk,hp,hg⟩;have Gz:=bD (ry.o.bE hk);have sl:=bD (ry.o.step hp hg);have zH:=bD (bL.grown (w:=wx.drew) YP.o hg (by have:=S4.o.1;simp;omega));have xh:GR w5 (fun k=>w.heap.size<=k/\k≠X) (.row 5 (x.bE.map Ex.gv)) [.slice A0 x.bE.length c0]:=
    GR.mono (fun _ h=>h) (fun k hk bW=>hg.block k bW (fun e=>by have e:=ar e;have:=HX.o.CG;omega)) _ _ (GR.below YZ.o (aF _ _).drew)
   have Kc:=bD xh;clear hk hp hg xh HX ry YZ YP HC;simp only[da,bH]at sl Gz Kc|-;obtain⟨s0,s1,s2,s3,s4⟩:=kK zH.o;simp[bH]at s0 s1 s2 s3 s4;refine bP.out _ _ ⟨s0,s1,s2,s3,s4⟩ fun _=>?_;clear bP K_;refine fr 4 (fun K_ bP=>?_);go_simp;have cg:Below w5.heap.size w5 (w5.alloc (.cells (bH x (.slice A0 x.bE.length c0)++bH z (.slice A5 z.bE.length c5)).toArray 202)):=cU _ _;have hb:=bL.new w5 202 (bH x (.slice A0 x.bE.length c0)++bH z (.slice A5 z.bE.length c5)).toArray;have SZ:=bD (sl.o.below cg);have ZN:=bD (zH.o.below cg zH.o.lt);have Z5:X<w5.heap.size/\w.heap.size<=w5.heap.size:=by obtain⟨_,_,_,_,_,hB⟩:=sl.o.rz;exact⟨hB.lt,sl.o.grown.size⟩
   have Am:=bD (OH (F:=fun k=>w.heap.size<=k/\k≠X) hb ⟨Z5.2,by omega⟩ (Kc.o.below cg) (Gz.o.below cg));change K_ _ (w5.alloc (.cells (bH x (.slice A0 x.bE.length c0)++bH z (.slice A5 z.bE.length c5)).toArray 202));clear cg hb Z5 sl zH Kc Gz s0 s1 s2 s3 s4;generalize w5.alloc (.cells (bH x (.slice A0 x.bE.length c0)++bH z (.slice A5 z.bE.length c5)).toArray 202)=w6 at*;generalize w5.heap.size=G6 at*;obtain⟨s0,s1,s2,s3,s4⟩:=kK ZN.o;simp[bH]at s0 s1 s2 s3 s4;have MX:w6.cell? ⟨Y,0,none⟩=some (.int .i64 x.kind)/\w6.cell? ⟨Y,1,none⟩=some (.int .i64 x.n)/\w6.cell? ⟨Y,2,none⟩=some (.string (bs x.text))/\w6.cell? ⟨Y,3,none⟩=some (.string (bs x.iD))/\w6.cell? ⟨Y,4,none⟩=some (.slice A0 x.bE.length c0):=⟨s0,s1,s2,s3,s4⟩;refine bP.out _ _ MX fun _=>?_;clear bP K_;refine dB 5 MX ?_;clear s0 s1 s2 s3 s4 MX;have HX:=SZ;clear SZ;obtain⟨a0,a1,a2,a3,a4,hB⟩:=HX.o.rz;obtain⟨e0,e1,e2,e3,e4⟩:=kK hB;simp at e0 e1 e2 e3 e4;obtain⟨g0,g1,g2,g3,g4⟩:=xV hB;clear hB;refine fr 6 (fun K_ bP=>?_);go_simp;obtain⟨q1,q2⟩:=HX.o.fin (.mk 7 0 [] sg [x,z]) Am.o;have HQ1:=bD q1;have HQ2:=bD q2;have M7:=ZN.o.grown (xM w6 X (.mk 7 0 [] sg [x,z]) (.slice (some ⟨G6,0,none⟩) (Ex.mk 7 0 [] sg [x,z]).bE.length 2)) (by have:=S4.o.2;simp;omega);change K_ _ (iq w6 X (.mk 7 0 [] sg [x,z]) (.slice (some ⟨G6,0,none⟩) (Ex.mk 7 0 [] sg [x,z]).bE.length 2));generalize iq w6 X (.mk 7 0 [] sg [x,z]) (.slice (some ⟨G6,0,none⟩) (Ex.mk 7 0 [] sg [x,z]).bE.length 2)=w7 at*;obtain⟨s0,s1,s2,s3,s4⟩:=kK M7;simp[bH]at s0 s1 s2 s3 s4;refine bP.out _ _ ⟨s0,s1,s2,s3,s4⟩ fun _=>?_;clear bP K_;refine aJ (by kernel_rfl) ?_ _;clear s0 s1 s2 s3 s4 e0 e1 e2 e3 e4 g0 g1 g2 g3 g4 q1 q2 M7 HX;go_wp2_with fail;rw[Aw.o];exact ag (km rfl HQ1.o) rfl HQ2.o
end Go.Proofs.YtejafaaihodehaaGreatDoor
