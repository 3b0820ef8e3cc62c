/- Part 10. -/
import Derived.Test.YtejafaaihodehaaGreatDoorZ09
import Derived.Deep.RegionHeld
import Derived.Deep.Slices
import Derived.ProofKit
import Derived.OpenShut
set_option linter.all false
set_option maxRecDepth 100000
set_option maxHeartbeats 8000000
namespace Go.Proofs.YtejafaaihodehaaGreatDoor
open Go Go.RowKit Tryz
def jC(w:World)(X:Nat)(e:Elem):Prop:=
 bL w X 62 #[.int .i64 e.kind,.string (bs e.text),.string (bs e.src),.string (bs e.jZ),.bool e.fp,.string (bs e.test),.slice none 0 0]
def oA(X:Nat)(kd:Int)(el:Elem)(n v:Bt)(w:World)(e:Ending)(w':World):Prop:=
 e=.returned (.bool (kC kd el n v).isSome)/\(∀e2,kC kd el n v=some e2->jC w' X e2)/\w.grownBy w' (some X)
theorem lu{X:Nat}{kd:Int}{el:Elem}{n v:Bt}{w w':World}(h:kC kd el n v=none)(hg:w.grownBy w' (some X)):oA X kd el n v w (.returned (.bool false)) w':=
 ⟨by rw[h];rfl,(fun e2 he=>by rw[h]at he;cases he),hg⟩
theorem mH{X:Nat}{kd:Int}{el e2:Elem}{n v:Bt}{w w':World}(h:kC kd el n v=some e2)(he:jC w' X e2)(hg:w.grownBy w' (some X)):oA X kd el n v w (.returned (.bool true)) w':=
 ⟨by rw[h];rfl,(fun e3 h3=>by rw[h]at h3;injection h3 with h3;subst h3;exact he),hg⟩
theorem vM(w:World)(X i j:Nat)(u v:Value):w.grownBy ((w.setCell ⟨X,i,none⟩ u).setCell ⟨X,j,none⟩ v) (some X):=
 bF (p:=⟨X,j,none⟩) (bF (p:=⟨X,i,none⟩) (bR w (some X)) (.inl rfl) u) (.inl rfl) v
theorem qU{n m:Bt}(h:n=m):((bs n).toList==m)=true:=by rw[bQ,h];simp
theorem qV{n m:Bt}(h:¬n=m):((bs n).toList==m)=false:=by rw[bQ,ai];exact h
theorem FB(X:Nat)(el:Elem)(n v:Bt)(w:World)(h:jC w X el):
 Calls prog 128 #[.pointer (some ⟨X,0,none⟩),.string (bs n),.string (bs v)] w (oA X 2 el n v w):=by
 have x2:=h.cell 2;have x3:=h.cell 3;have x4:=h.cell 4;have z2:=h.frozen 2;have z3:=h.frozen 3;have z4:=h.frozen 4;have HX:=bD h;clear h;obtain⟨T,hT⟩:∃T,T=kC 2 el n v:=⟨_,rfl⟩;have HT:Hy (kC 2 el n v=if n=kq then(if v=[]then none else some (el.pQ v))else if n=kN then some (el.xv v)else if n=cQ then(if v=iJ then some (el.fF true)else none)else none):=rfl;clear hT;obtain⟨k,tx,s,a,b,u,ks⟩:=el;go_enter func128,ntmps128;by_cases h1:n=kq
 ·have dG:=qU h1;have pr:Hy (kC 2 (.mk k tx s a b u ks) n v=if v=[]then none else some (.mk k tx v a b u ks)):=HT.o.trans (ae h1);clear HT h1;unfold kq at dG;by_cases hv:v=[]
  ·have Fy:(bs v).toList.isEmpty=true:=by rw[hv,bQ];rfl
   have wy:=bD (pr.o.trans (ae hv));clear hv pr;go_wp2_with fail;go_ret;exact lu wy.o (bF (bR _ _) (.inl rfl) _)
  ·have Fy:(bs v).toList.isEmpty=false:=by rw[bQ];simpa using hv
   have wy:=bD (pr.o.trans (aa hv));clear hv pr;go_wp2_with fail;go_ret;exact mH wy.o (HX.o.cL 2 (.string (bs v))) (bF (bR _ _) (.inl rfl) _)
 ·have dG:=qV h1;have pr:Hy (kC 2 (.mk k tx s a b u ks) n v=if n=kN then some (.mk k tx s v b u ks)else if n=cQ then(if v=iJ then some (.mk k tx s a true u ks)else none)else none):=HT.o.trans (aa h1);clear HT h1;unfold kq at dG;by_cases h2:n=kN
  ·have cu:=qU h2;have wy:=bD (pr.o.trans (ae h2));clear pr h2;unfold kN at cu;go_wp2_with fail;go_ret;exact mH wy.o (HX.o.cL 3 (.string (bs v))) (bF (bR _ _) (.inl rfl) _)
  ·have cu:=qV h2;have wy:=bD (pr.o.trans (aa h2));clear pr h2;unfold kN at cu;by_cases h3:n=cQ
   ·have fm:=qU h3;have HT4:=bD (wy.o.trans (ae h3));clear wy h3;unfold cQ at fm;by_cases hv:v=iJ
    ·have eY:=qU hv;have HT5:=bD (HT4.o.trans (ae hv));clear HT4 hv;unfold iJ at eY;go_wp2_with fail;go_ret;exact mH HT5.o (HX.o.cL 4 (.bool true)) (bF (bR _ _) (.inl rfl) _)
    ·have eY:=qV hv;have HT5:=bD (HT4.o.trans (aa hv));clear HT4 hv;unfold iJ at eY;go_wp2_with fail;go_ret;exact lu HT5.o (bF (bR _ _) (.inl rfl) _)
   ·have fm:=qV h3;have HT4:=bD (wy.o.trans (aa h3));clear wy h3;unfold cQ at fm;go_wp2_with fail;go_ret;exact lu HT4.o (bR _ _)
theorem IS(X:Nat)(el:Elem)(n v:Bt)(w:World)(h:jC w X el):
 Calls prog 132 #[.pointer (some ⟨X,0,none⟩),.string (bs n),.string (bs v)] w (oA X 3 el n v w):=by
 have x2:=h.cell 2;have z2:=h.frozen 2;have HX:=bD h;clear h;have HT:Hy (kC 3 el n v=if n=fY then(if v=[]then none else some (el.pQ v))else if n=cq/\(v=yB\/v=QK)then some el else none):=rfl;obtain⟨k,tx,s,a,b,u,ks⟩:=el;go_enter func132,ntmps132;by_cases h1:n=fY
 ·have dG:=qU h1;have pr:Hy (kC 3 (.mk k tx s a b u ks) n v=if v=[]then none else some (.mk k tx v a b u ks)):=HT.o.trans (ae h1);clear HT h1;unfold fY at dG;by_cases hv:v=[]
  ·have Fy:(bs v).toList.isEmpty=true:=by rw[hv,bQ];rfl
   have wy:=bD (pr.o.trans (ae hv));clear hv pr;go_wp2_with fail;go_ret;exact lu wy.o (bF (bR _ _) (.inl rfl) _)
  ·have Fy:(bs v).toList.isEmpty=false:=by rw[bQ];simpa using hv
   have wy:=bD (pr.o.trans (aa hv));clear hv pr;go_wp2_with fail;go_ret;exact mH wy.o (HX.o.cL 2 (.string (bs v))) (bF (bR _ _) (.inl rfl) _)
 ·have dG:=qV h1;have pr:=bD (HT.o.trans (aa h1));clear HT h1;unfold fY at dG;by_cases h2:n=cq
  ·have cu:=qU h2;have H2:=bD h2;clear h2;unfold cq at cu;by_cases hy:v=yB
   ·have fm:=qU hy;have wy:=bD (pr.o.trans (ae ⟨H2.o,.inl hy⟩));clear hy pr;unfold yB at fm;go_wp2_with fail;go_ret;exact mH wy.o (HX.o) (bR _ _)
   ·have fm:=qV hy;have HY:=bD hy;clear hy;unfold yB at fm;by_cases hn:v=QK
    ·have eY:=qU hn;have wy:=bD (pr.o.trans (ae ⟨H2.o,.inr hn⟩));clear hn pr;unfold QK at eY;go_wp2_with fail;go_ret;exact mH wy.o (HX.o) (bR _ _)
    ·have eY:=qV hn;have wy:=bD (pr.o.trans (aa (by rintro ⟨_,e|e⟩;exact HY.o e;exact hn e)));clear hn pr;unfold QK at eY;go_wp2_with fail;go_ret;exact lu wy.o (bR _ _)
  ·have cu:=qV h2;have wy:=bD (pr.o.trans (aa (fun e=>h2 e.1)));clear h2 pr;unfold cq at cu;go_wp2_with fail;go_ret;exact lu wy.o (bR _ _)
theorem NI(X:Nat)(el:Elem)(n v:Bt)(w:World)(h:jC w X el):
 Calls prog 130 #[.pointer (some ⟨X,0,none⟩),.string (bs n),.string (bs v)] w (oA X 12 el n v w):=by
 have x1:=h.cell 1;have x4:=h.cell 4;have z1:=h.frozen 1;have z4:=h.frozen 4;have HX:=bD h;clear h;have HT:Hy (kC 12 el n v=if n=jM then some ((el.sB v).fF true)else none):=rfl;obtain⟨k,tx,s,a,b,u,ks⟩:=el;go_enter func130,ntmps130;by_cases h1:n=jM
 ·have dG:=qU h1;have pr:=bD (HT.o.trans (ae h1));clear HT h1;unfold jM at dG;go_wp2_with fail;go_ret;exact mH pr.o ((HX.o.cL 1 (.string (bs v))).cL 4 (.bool true)) (vM _ _ _ _ _ _)
 ·have dG:=qV h1;have pr:=bD (HT.o.trans (aa h1));clear HT h1;unfold jM at dG;go_wp2_with fail;go_ret;exact lu pr.o (vM _ _ _ _ _ _)
theorem NJ(X:Nat)(el:Elem)(n v:Bt)(w:World)(h:jC w X el):
 Calls prog 136 #[.pointer (some ⟨X,0,none⟩),.string (bs n),.string (bs v)] w (oA X 8 el n v w):=by
 have x5:=h.cell 5;have x4:=h.cell 4;have z5:=h.frozen 5;have z4:=h.frozen 4;have HX:=bD h;clear h;have HT:Hy (kC 8 el n v=if n=jN then some ((el.sC v).fF true)else none):=rfl;obtain⟨k,tx,s,a,b,u,ks⟩:=el;go_enter func136,ntmps136;by_cases h1:n=jN
 ·have dG:=qU h1;have pr:=bD (HT.o.trans (ae h1));clear HT h1;unfold jN at dG;go_wp2_with fail;go_ret;exact mH pr.o ((HX.o.cL 5 (.string (bs v))).cL 4 (.bool true)) (vM _ _ _ _ _ _)
 ·have dG:=qV h1;have pr:=bD (HT.o.trans (aa h1));clear HT h1;unfold jN at dG;go_wp2_with fail;go_ret;exact lu pr.o (vM _ _ _ _ _ _)
theorem KO(X:Nat)(el:Elem)(kd:Int)(hk:¬(kd=2\/kd=3\/kd=12\/kd=8))(n v:Bt)(w:World)(h:jC w X el):
 Calls prog 134 #[.pointer (some ⟨X,0,none⟩),.string (bs n),.string (bs v)] w (oA X kd el n v w):=by
 have HT:Hy (kC kd el n v=none):=by
  rw[Hy,kC,aa (by omega),aa (by omega),aa (by omega),aa (by omega)]
 clear h;go_enter func134,ntmps134;go_wp2_with fail;go_ret;exact lu HT.o (bR _ _)
structure FC(w:World)(base B:Nat)(v:Value)(st:List Level)(kvs:List Value)(own:Nat->Option Nat):Prop where
 iz:bL w B 115 #[v,.int .i64 0]
 yH:J4 w base 118 62 v st kvs own
 free:own B=none
 ne:v.ownBlock≠some B
theorem FC.form{w:World}{base B:Nat}{v:Value}{r:List Level}{t:Level}{kvs:List Value}{own:Nat->Option Nat}(h:FC w base B v (r++[t]) kvs own):
 ∃sb cap,v=.slice (some ⟨sb,0,none⟩) (r.length+1) cap/\r.length+1<=cap/\cap<=maxLen/\sb<w.heap.size/\base<=sb:=by
 have hr:=h.yH.row;rcases hr.2 with⟨_,h0⟩|⟨g,cap,S7,hv,hb,hh,hn,hm,_⟩
 ·simp at h0
 ·rw[af,aR]at hv hn;exact⟨g,cap,hv,hn,hm,(hr.lt g (by rw[hv];rfl)).2,hb⟩
theorem FC.Nw{w:World}{base B:Nat}{v:Value}{r:List Level}{t:Level}{kvs:List Value}{own:Nat->Option Nat}(h:FC w base B v (r++[t]) kvs own):
 ∃kvr kv,kvs=kvr++[kv]/\kvr.length=r.length:=by
 have hl:=h.yH.len;rw[af,aR]at hl;rcases List.eq_nil_or_concat kvs with rfl|⟨a,b,rfl⟩
 ·simp at hl
 ·rw[List.concat_eq_append]at hl|-;exact⟨a,b,rfl,by simpa using hl⟩
theorem rG{B sb cap n:Nat}(w:World)(h0:w.cell? ⟨B,0,none⟩=some (.slice (some ⟨sb,0,none⟩) (n+1) cap))(hn:n+1<=cap)(hc:n<=1000):
 Calls prog 68 #[.pointer (some ⟨B,0,none⟩)] w fun e w'=>e=.returned (.pointer (some ⟨sb,n*8,none⟩))/\∃m,w'=w.drewN m:=by
 have tQ:(0:Int)<=(n:Int):=by omega
 have Ix:(n:Int)<((n+1:Nat):Int):=by omega
 have PT:((n:Int)+1)-1=(n:Int):=by omega
 go_enter func68,ntmps68;go_wp2_with fail;go_quiet (fail);go_wp2_with fail;go_ret;exact⟨rfl,_,rfl⟩
end Go.Proofs.YtejafaaihodehaaGreatDoor
namespace Go.Proofs.YtejafaaihodehaaGreatDoor
open Go Go.Deep Go.RowKit Tryz
section
variable {H:Type} {enc:TypeId × Value->H} {P:Program} {w:World} {base:Nat} {jP:Nat->Bool} {held:Bool}
theorem Dc(b o j:Nat):(⟨b,o,none⟩:Addr).add j=⟨b,o+j,none⟩:=by unfold Addr.add;split<;>simp_all
theorem FD{a:Addr}{xs:List Value}(hc:∀j u,xs[j]?=some u->w.cell? (a.add j)=some u):mR w (fun _=>True) (some a) xs:=by
 intro db;obtain⟨b,o,sp⟩:=a;obtain⟨x,l,rfl⟩:=List.exists_cons_of_ne_nil db;have h0:=World.cell?_spot (hc 0 x rfl);have hsp:sp=none:=by simpa[Addr.add]using h0
 subst hsp;exact⟨b,o,rfl,trivial,fun j u hu=>by rw[<-Dc];exact hc j u hu⟩
theorem KP{α:Type}(gv:α->GV){t e:TypeId}{sz:Nat}(ht:P.underlying t=some (.slice e))(hC:P.cellsOf e=sz)
 (ai3:∀n cs x,DataW.trod enc P w base jP held n e cs=some x->∃a:α,GR w (fun _=>True) (gv a) cs) {fuel:Nat} {cs:List Value} {x:DataW H × List MemPlace}
 (h:DataW.trod enc P w base jP held fuel t cs=some x):∃l:List α,GR w (fun _=>True) (.row sz (l.map gv)) cs:=by
 rcases open_slice ht h with⟨rfl,_⟩|⟨a,len,cap,m,n,D,Pl,rfl,hb,hl,hm,QU,hx,hi⟩
 ·exact⟨[],cS⟩
 ·have KL:len<=m:=by rw[QU];split<;>omega
  rw[hC]at hi;have key:∀k,k<=len->∃(l:List α) (xs:List Value),l.length=k/\xs.length=k*sz/\fW w (fun _=>True) sz (l.map gv) xs/\∀j u,xs[j]?=some u->w.cell? (a.add j)=some u:=by
   intro k;induction k with
   |zero=>exact fun _=>⟨[],[],rfl,by simp,jt.2 rfl,fun j u hu=>by simp at hu⟩
   |succ k ih=>
    intro hk;obtain⟨l,xs,h1,h2,h3,h4⟩:=ih (by omega);obtain⟨cs',hc,ht'⟩:=hi k (by omega);obtain⟨_,wv,qy⟩:=World.cells?_some hc;obtain⟨el,tJ⟩:=ai3 _ _ _ ht';refine⟨l++[el],xs++cs',by rw[af,h1];rfl,by rw[af,h2,wv,Nat.add_mul];omega,?_,fun j u hu=>?_⟩
    ·rw[aK];exact fW.append (lp tJ wv) h3
    ·rcases Nat.lt_or_ge j xs.length with hj|hj
     ·exact h4 j u (by rwa [bB hj]at hu)
     ·rw[List.getElem?_append_right hj]at hu;have ZB:=(List.getElem?_eq_some_iff.1 hu).1;have e:=qy (j-xs.length) (by omega);rw[Go.Deep.add_add,h2]at e;rw[h2]at hu hj;rw[show k*sz+(j-k*sz)=j by omega]at e;rw[e];exact hu
  obtain⟨l,xs,h1,h2,h3,h4⟩:=key len (dv _);exact⟨l,jR.2 ⟨some a,cap,xs,by rw[ah,h1],by rw[ah,h1];exact hl,hm,by rw[ah,h1];exact h2,FD h4,h3⟩⟩
end
end Go.Proofs.YtejafaaihodehaaGreatDoor
namespace Go.Proofs.YtejafaaihodehaaGreatDoor
open Go Go.RowKit Tryz
theorem TF:kJ prog 36 62 7 104:=by
 obtain⟨i0,hi,zR,rq,vF⟩:=info_parts (show(prog.info? 62).map (fun i=>(i.zero,i.size,i.bytes))=some (some (.agg #[.int .i64 0,.string ⟨#[]⟩,.string ⟨#[]⟩,.string ⟨#[]⟩,.bool false,.string ⟨#[]⟩,.slice none 0 0]),7,104) by kernel_rfl);exact⟨i0,_,underlying36,hi,zR,rq,vF,rfl,by omega⟩
def QV(e:Elem)(kv:Value):List Value:=[.int .i64 e.kind,.string (bs e.text),.string (bs e.src),.string (bs e.jZ),.bool e.fp,.string (bs e.test),kv]
theorem WM{w:World}{F:Nat->Prop}{e:Elem}{kv:Value}(h:GR w F (.row 7 (e.bE.map Elem.gv)) [kv]):GR w F e.gv (QV e kv):=by
 obtain⟨k,tx,s,a,b,u,l⟩:=e;rw[Elem.gv,sD];exact nN.2 (cd.2 ⟨[_],_,rfl,lK.2 rfl,cd.2 ⟨[_],_,rfl,eQ.2 rfl,cd.2 ⟨[_],_,rfl,eQ.2 rfl,cd.2 ⟨[_],_,rfl,eQ.2 rfl,cd.2 ⟨[_],_,rfl,sr.2 rfl,
  cd.2 ⟨[_],_,rfl,eQ.2 rfl,cd.2 ⟨[kv],[],rfl,h,ma.2 rfl⟩⟩⟩⟩⟩⟩⟩)
def IT(W:World)(g o:Nat)(c0 c1 c2 c3 c4 c5 c6:Value):World:=
 ((((((W.setCell ⟨g,o,none⟩ c0).setCell ⟨g,o+1,none⟩ c1).setCell ⟨g,o+2,none⟩ c2).setCell ⟨g,o+3,none⟩ c3).setCell ⟨g,o+4,none⟩ c4).setCell ⟨g,o+5,none⟩ c5).setCell ⟨g,o+6,none⟩ c6
theorem xD{w:World}{base N cap g:Nat}{te:TypeId}{xs:List Value}{z0 z1 z2 z3 z4 z5 z6:Value}(hx:xs.length=N*7)
 (h:w.ownsRow base te 7 (.slice (some ⟨g,0,none⟩) (N+1) cap) (N+1) (xs++[z0,z1,z2,z3,z4,z5,z6])) (c0 c1 c2 c3 c4 c5 c6:Value):
 (IT w g (N*7) c0 c1 c2 c3 c4 c5 c6).ownsRow base te 7 (.slice (some ⟨g,0,none⟩) (N+1) cap) (N+1) (xs++[c0,c1,c2,c3,c4,c5,c6])/\w.grownBy (IT w g (N*7) c0 c1 c2 c3 c4 c5 c6) (some g):=by
 obtain⟨h0,g0⟩:=h.stored (N*7) c0;obtain⟨h1,g1⟩:=h0.stored (N*7+1) c1;obtain⟨h2,g2⟩:=h1.stored (N*7+2) c2;obtain⟨h3,g3⟩:=h2.stored (N*7+3) c3;obtain⟨h4,g4⟩:=h3.stored (N*7+4) c4;obtain⟨h5,g5⟩:=h4.stored (N*7+5) c5;obtain⟨h6,g6⟩:=h5.stored (N*7+6) c6;refine⟨?_,bU (bU (bU (bU (bU (bU g0 g1) g2) g3) g4) g5) g6⟩;have e:((((((((xs++[z0,z1,z2,z3,z4,z5,z6]).set (N*7) c0).set (N*7+1) c1).set (N*7+2) c2).set (N*7+3) c3).set (N*7+4) c4).set (N*7+5) c5).set (N*7+6) c6)=xs++[c0,c1,c2,c3,c4,c5,c6]:=by
  rw[<-hx];simp
 rw[e]at h6;exact h6
theorem IU(w:World)(p q:Addr)(u v:Value)(h:p.block≠q.block):(w.setCell p u).setCell q v=(w.setCell q v).setCell p u:=by
 simp only[World.setCell];congr 1;apply Array.ext_getElem?;intro i;simp only[Array.getElem?_modify];by_cases h1:p.block=i
 ·by_cases h2:q.block=i
  ·exact aX (h1.trans h2.symm) h
  ·simp[h1,h2]
 ·by_cases h2:q.block=i<;>simp[h1,h2]
theorem yI{w:World}{sb x g o:Nat}(h:sb≠g)(u c0 c1 c2 c3 c4 c5 c6:Value):
 IT (w.setCell ⟨sb,x,none⟩ u) g o c0 c1 c2 c3 c4 c5 c6=(IT w g o c0 c1 c2 c3 c4 c5 c6).setCell ⟨sb,x,none⟩ u:=by
 have hc:∀(W:World) (i:Nat) (c:Value),(W.setCell ⟨sb,x,none⟩ u).setCell ⟨g,i,none⟩ c=(W.setCell ⟨g,i,none⟩ c).setCell ⟨sb,x,none⟩ u:=fun W i c=>IU W _ _ _ _ h;simp only[IT,hc]
theorem GG{w w1 w4 w5:World}{base B sb cap g qW N c:Nat}{A:Option Addr}{r:List Level}{t:Level}{kvr:List Value}{own:Nat->Option Nat}{xs:List Value}
 (ib:w5.ownsRow base 62 7 (.slice (some ⟨g,0,none⟩) (N+1) qW) (N+1) (xs++[.int .i64 0,.string ⟨#[]⟩,.string ⟨#[]⟩,.string ⟨#[]⟩,.bool false,.string ⟨#[]⟩,.slice none 0 0]))
 (cO:w4.grownBy w5 (Value.slice A N c).ownBlock) (fG:(Value.slice A N c).ownBlock=some g\/g=w4.heap.size) (NG:xs.length=N*7)
 (hko:∀k,(Value.slice A N c).ownBlock=some k->own k=some r.length)
 (h:FC w base B (.slice (some ⟨sb,0,none⟩) (r.length+1) cap) (r++[t]) (kvr++[.slice A N c]) own) (hb:Below w.heap.size w w4) (hs4:w4.heap.size=w1.heap.size+1) (zX:w1.heap.size=w.heap.size+1) (aC8:kvr.length=r.length):
 (g≠w.heap.size/\g≠sb/\g≠B)/\some w.heap.size≠(Value.slice A N c).ownBlock/\(some sb≠(Value.slice A N c).ownBlock/\some B≠(Value.slice A N c).ownBlock):=by
 have h1:∀k,(Value.slice A N c).ownBlock=some k->k<w.heap.size/\k≠sb/\k≠B:=by
  intro k hk;have ho:=hko k hk;refine⟨(h.yH.lt k _ ho).2,?_,?_⟩
  ·rintro rfl;have:=h.yH.B5 k rfl;rw[this]at ho;cases ho
  ·rintro rfl;have:=h.free;rw[this]at ho;cases ho
 have E5:=(h.yH.row.lt sb rfl).2;have hB:=h.iz.lt;refine⟨?_,?_,?_,?_⟩
 ·rcases fG with e|e
  ·have:=h1 g e;exact⟨by omega,this.2.1,this.2.2⟩
  ·exact⟨by omega,by omega,by omega⟩
 ·intro e;have:=(h1 _ e.symm).1;omega
 ·exact fun e=>(h1 _ e.symm).2.1 rfl
 ·exact fun e=>(h1 _ e.symm).2.2 rfl
theorem KQ{w:World}{base g N qW:Nat}{te:TypeId}{xs zs:List Value}(h:w.ownsRow base te 7 (.slice (some ⟨g,0,none⟩) (N+1) qW) (N+1) (xs++zs))(hx:xs.length=N*7)(j:Nat)(hj:j<7):w.cell? ⟨g,N*7+j,none⟩=zs[j]?:=by
 rw[h.cellAt _ (by omega),<-hx,List.getElem?_append_right (by omega),Nat.add_sub_cancel_left]
def WN(B:Nat)(v:Value)(own:Nat->Option Nat)(k:Nat):Prop:=own k≠none\/v.ownBlock=some k\/k=B
def Fr(w w':World)(B:Nat)(v:Value)(own:Nat->Option Nat)(v':Value)(pT:Nat->Option Nat)(T:Nat->Prop):Prop:=
 ∀k,k<w.heap.size->¬WN B v own k->¬T k->w'.heap[k]?=w.heap[k]?/\¬WN B v' pT k
theorem Fr.trans{w w1 w2:World}{B:Nat}{v v1 v2:Value}{own ai4 ai5:Nat->Option Nat}{T T':Nat->Prop}(h:Fr w w1 B v own v1 ai4 T)(h2:Fr w1 w2 B v1 ai4 v2 ai5 T')(hs:w.heap.size<=w1.heap.size)
 (hT:∀k,¬WN B v own k->¬T k->¬T' k):Fr w w2 B v own v2 ai5 T:=fun k hk hm ht=>by
 obtain⟨e1,m1⟩:=h k hk hm ht;obtain⟨e2,m2⟩:=h2 k (br hk hs) m1 (hT k hm ht);exact⟨e2.trans e1,m2⟩
theorem rH{w w':World}{B:Nat}{v:Value}{own:Nat->Option Nat}{T:Nat->Prop}(hb:Below w.heap.size w w'):Fr w w' B v own v own T:=fun k hk hm _=>⟨hb.block k hk,hm⟩
theorem yJ{B k:Nat}{v:Value}{own:Nat->Option Nat}(h:¬WN B v own k):own k=none/\v.ownBlock≠some k/\k≠B:=
 ⟨bg fun e=>h (.inl e),fun e=>h (.inr (.inl e)),fun e=>h (.inr (.inr e))⟩
def PW(base B:Nat)(v:Value)(own:Nat->Option Nat)(T:Nat->Prop)(r:List Level)(t:Level)(e:Elem)(w:World)(en:Ending)(w':World):Prop:=
 en=.returned (.tuple #[])/\(∃v' IG pT,FC w' base B v' (r++[⟨oT t.e e,t.name⟩]) IG pT/\Fr w w' B v own v' pT T)/\Below base w w'
theorem WO{w w4:World}{base B sb cap N c:Nat}{A:Option Addr}{r:List Level}{t:Level}{kvr:List Value}{own:Nat->Option Nat}{T:Nat->Prop}{xs:List Value}{e:Elem}{Yu:Value}
 (h:FC w base B (.slice (some ⟨sb,0,none⟩) (r.length+1) cap) (r++[t]) (kvr++[.slice A N c]) own) (xA:kvr.length=r.length) (hB:base<=B) (Bk:¬t.e.kind=11) (hN:N=t.e.bE.length)
 (hb:Below w.heap.size w w4) (NG:xs.length=N*7)
 (hxg:fW w (fun k=>own k=some r.length/\some k≠(Value.slice A N c).ownBlock) 7 (t.e.bE.map Elem.gv) xs)
 (hko:∀k,(Value.slice A N c).ownBlock=some k->own k=some r.length)
 (hE:GR w T (.row 7 (e.bE.map Elem.gv)) [Yu]) (hT:∀g,T g->own g=none/\sb≠g/\g≠B/\base<=g/\g<w.heap.size)
 (w5:World) (g qW:Nat) {w7:World}
 (e7:(IT w5 g (N*7) (.int .i64 e.kind) (.string (bs e.text)) (.string (bs e.src)) (.string (bs e.jZ)) (.bool e.fp) (.string (bs e.test)) Yu).setCell ⟨sb,r.length*8+6,none⟩ (.slice (some ⟨g,0,none⟩) (N+1) qW)=w7)
 (ib:w5.ownsRow base 62 7 (.slice (some ⟨g,0,none⟩) (N+1) qW) (N+1) (xs++[.int .i64 0,.string ⟨#[]⟩,.string ⟨#[]⟩,.string ⟨#[]⟩,.bool false,.string ⟨#[]⟩,.slice none 0 0]))
 (cO:w4.grownBy w5 (Value.slice A N c).ownBlock) (fG:(Value.slice A N c).ownBlock=some g\/g=w4.heap.size) (bW:g<w5.heap.size):PW base B (.slice (some ⟨sb,0,none⟩) (r.length+1) cap) own T r t e w (.returned (.tuple #[])) w7:=by
 subst hN e7;obtain⟨Yv,rI⟩:=xD NG ib (.int .i64 e.kind) (.string (bs e.text)) (.string (bs e.src)) (.string (bs e.jZ)) (.bool e.fp) (.string (bs e.test)) Yu;obtain⟨W7,hW7⟩:∃W,W=IT w5 g (t.e.bE.length*7) (.int .i64 e.kind) (.string (bs e.text)) (.string (bs e.src)) (.string (bs e.jZ)) (.bool e.fp) (.string (bs e.test)) Yu:=⟨_,rfl⟩;rw[<-hW7]at Yv rI|-;have ai6:=(h.yH.row.lt sb rfl);have Yw:=h.iz.lt;have NK:∀k,(Value.slice A t.e.bE.length c).ownBlock=some k->base<=k/\k<w.heap.size/\k≠sb/\k≠B:=by
  intro k hk;have ho:=hko k hk;refine⟨(h.yH.lt k _ ho).1,(h.yH.lt k _ ho).2,?_,?_⟩
  ·rintro rfl;have:=h.yH.B5 k rfl;rw[this]at ho;cases ho
  ·rintro rfl;have:=h.free;rw[this]at ho;cases ho
 have tT:base<=w.heap.size:=by omega
 have lQ:=hb.size;have hG:w4.grownBy W7 (Value.slice A t.e.bE.length c).ownBlock:=by
  refine⟨rI.os.trans cO.os,rI.tape.trans cO.tape,rI.output.trans cO.output,au cO.size rI.size,fun i hi db=>(rI.block i (br hi cO.size) ?_).trans (cO.block i hi db)⟩;rcases fG with e|e
  ·rw[<-e];exact db
  ·intro e2;injection e2 with e2;omega
 have ZT:∀k,k<w.heap.size->some k≠(Value.slice A t.e.bE.length c).ownBlock->W7.heap[k]?=w.heap[k]?:=fun k hk db=>(hG.block k (by omega) db).trans (hb.block k hk);have hgk:∀k,k<w.heap.size->some k≠(Value.slice A t.e.bE.length c).ownBlock->some k≠some g:=by
  intro k hk db e2;injection e2 with e2
  subst e2;rcases fG with e|e
  ·exact db e.symm
  ·omega
 have TG:=h.yH.below hb;have hTn:∀k,T k->some k≠(Value.slice A t.e.bE.length c).ownBlock:=fun k hk e2=>by
  have:=hko k e2.symm;rw[(hT k hk).1]at this;cases this
 have ho:b8 W7 base 62 7 (fun k=>own k=some r.length\/T k) (.slice (some ⟨g,0,none⟩) (t.e.bE.length+1) qW) ((t.e.bE++[e]).map Elem.gv):=by
  refine⟨_,by rw[ah,af];exact Yv,?_⟩;rw[aK];refine fW.append (lp (GR.mono (F:=T) ?_ ?_ _ _ (WM hE)) rfl) (fW.mono (F:=fun k=>own k=some r.length/\some k≠(Value.slice A t.e.bE.length c).ownBlock) ?_ ?_ _ _ _ hxg)
  ·exact fun k hk=>⟨.inr hk,hgk k (hT k hk).2.2.2.2 (hTn k hk)⟩
  ·exact fun k hk bW=>ZT k bW (hTn k hk)
  ·exact fun k hk=>⟨.inl hk.1,hgk k (h.yH.lt k _ hk.1).2 hk.2⟩
  ·exact fun k hk bW=>ZT k bW hk.2
 have hTT:∀k,T k->own k=none/\sb≠k/\base<=k/\k<W7.heap.size:=fun k hk=>by
  have:=hT k hk;have hs:=hG.size;exact⟨this.1,this.2.1,this.2.2.2.1,by omega⟩
 obtain⟨pT,hs',Yx⟩:=TG.put (e:=e) (T:=T) xA hG hTT ho (by
  rcases fG with e2|e2
  ·exact .inl (by rw[e2];rfl)
  ·exact .inr (by rw[<-e2];rfl)) rfl
 have hBk:some B≠(Value.slice A t.e.bE.length c).ownBlock:=fun e2=>(NK B e2.symm).2.2.2 rfl;have hBs:B≠sb:=fun e2=>h.ne (by rw[e2];rfl);refine⟨rfl,⟨.slice (some ⟨sb,0,none⟩) (r.length+1) cap,kvr++[.slice (some ⟨g,0,none⟩) (t.e.bE.length+1) qW],pT,?_,?_⟩,?_⟩
 ·have hp:oT t.e e=t.e.dD (t.e.bE++[e]):=by unfold oT;rw[aa Bk]
  rw[hp];exact⟨((h.iz.below hb Yw).grown hG hBk).gf (p:=⟨sb,r.length*8+6,none⟩) hBs _,hs',Yx B h.free (fun hk=>(hT B hk).2.2.1 rfl) (by omega),fun e2=>hBs (by injection e2 with e2;exact e2.symm)⟩
 ·intro k hk hm hnt;obtain⟨m1,m2,m3⟩:=yJ hm;have nG:k≠sb:=fun e2=>m2 (by rw[e2];rfl);have SG:some k≠(Value.slice A t.e.bE.length c).ownBlock:=fun e2=>by
   have:=hko k e2.symm;rw[m1]at this;cases this
  refine⟨(Below.heap_setCell W7 ⟨sb,r.length*8+6,none⟩ _ k nG).trans (ZT k hk SG),?_⟩;rintro (e2|e2|e2)
  ·exact e2 (Yx k m1 hnt (by omega))
  ·exact nG (ar e2).symm
  ·exact m3 e2
 ·have h2:Below base w4 W7:=⟨hG.os,hG.tape,hG.output,hG.size,fun k hk=>hG.block k (by omega) (fun e2=>by have:=(NK k e2.symm).1;omega)⟩;exact((hb.mono tT).trans h2).setCell (p:=⟨sb,r.length*8+6,none⟩) ai6.1 _
theorem Ah{base B:Nat}{v:Value}{r:List Level}{t:Level}{kvs:List Value}{own:Nat->Option Nat}{T:Nat->Prop}(e:Elem)(Yu:Value)(w:World)(h:FC w base B v (r++[t]) kvs own)(hr:r.length<=100)
 (hk:t.e.bE.length<=10000) (hE:GR w T (.row 7 (e.bE.map Elem.gv)) [Yu]) (hT:∀g,T g->own g=none/\v.ownBlock≠some g/\g≠B/\base<=g/\g<w.heap.size) (hB:base<=B):
 Calls prog 101 #[.pointer (some ⟨B,0,none⟩),.agg #[.int .i64 e.kind,.string (bs e.text),.string (bs e.src),.string (bs e.jZ),.bool e.fp,.string (bs e.test),Yu]] w (PW base B v own T r t e w):=by
 obtain⟨AE,cE,at4⟩:∃A c,Yu=.slice A e.bE.length c:=by
  obtain⟨A,c,xs,h1,-⟩:=GD hE;rw[ah]at h1;exact⟨A,c,h1⟩
 subst at4;obtain⟨sb,cap,rfl,sJ,mz,E5,VJ⟩:=h.form;obtain⟨kvr,kv,rfl,xA⟩:=h.Nw;obtain⟨ux,wJ⟩:=h.yH.Nw r.length t kv (by simp) (by rw[<-xA];simp);obtain⟨Ak,ck,rfl⟩:=ux.form;rw[ah]at*;have Yw:=h.iz.lt;obtain⟨w1,jz⟩:∃w1,w1=w.alloc (.cells #[.int .i64 e.kind,.string (bs e.text),.string (bs e.src),.string (bs e.jZ),.bool e.fp,.string (bs e.test),(.slice AE e.bE.length cE)] 62):=⟨_,rfl⟩;have cg:Below w.heap.size w w1:=by rw[jz];exact cU _ _
 have zX:w1.heap.size=w.heap.size+1:=by rw[jz,size_alloc]
 have hxb:bL w1 w.heap.size 62 #[.int .i64 e.kind,.string (bs e.text),.string (bs e.src),.string (bs e.jZ),.bool e.fp,.string (bs e.test),(.slice AE e.bE.length cE)]:=by rw[jz];exact bL.new w _ _
 have FA:=h.iz.below cg Yw;have WQ:=h.yH.below cg;have ib:=WQ.row;rw[af,aR]at ib;have qy:∀j,j<8->w1.cell? ⟨sb,r.length*8+j,none⟩=(ik t (.slice Ak t.e.bE.length ck))[j]?:=fun j hj=>by
  rw[ib.cellAt _ (by omega)];exact xz r.length j hj (by simp) (by rw[<-xA];simp)
 have b0:=FA.cell 0;have k0:=qy 0 (by omega);have k6:w1.cell? ⟨sb,r.length*8+6,none⟩=some (.slice Ak t.e.bE.length ck):=qy 6 (by omega);obtain⟨xs,PY,hxg⟩:=ux;rw[ah]at PY;have NG:xs.length=t.e.bE.length*7:=PY.1;have HXG:=bD hxg;have HXR:=bD PY;have WS:=bD wJ;clear hxg PY wJ;have J6:=bD jz;have HH:=bD h;have Cb:=bD cg;clear qy h cg;go_enter func101,ntmps101;clear jz;go_wp2_with fail;rw[<-J6.o];refine(rG w1 b0 sJ (by omega)).mono ?_;rintro en w2 ⟨rfl,m,rfl⟩;have k0:(w1.drewN m).cell? ⟨sb,r.length*8,none⟩=some (.int .i64 t.e.kind):=k0;by_cases Bk:t.e.kind=11
 ·have hb:(t.e.kind !=11)=false:=by rw[Bk];rfl
  have H11:=bD Bk;clear Bk;go_wp2_with fail;go_end0;have dG:Below w.heap.size w (w1.drewN m):=below_drewN Cb.o m;have hp:oT t.e e=t.e:=by unfold oT;rw[ae H11.o]
  refine⟨rfl,⟨.slice (some ⟨sb,0,none⟩) (r.length+1) cap,kvr++[.slice Ak t.e.bE.length ck],own,?_,rH dG⟩,dG.mono (by omega)⟩;rw[hp];exact⟨FA,WQ.below (below_drewN (aF _ _) m),HH.o.free,HH.o.ne⟩
 ·have hb:(t.e.kind !=11)=true:=by rw[aQ];exact Bk
  have H11:=bD Bk;clear Bk;go_wp2_with fail;have dh:bL (w1.drewN m).drew w.heap.size 62 #[.int .i64 e.kind,.string (bs e.text),.string (bs e.src),.string (bs e.jZ),.bool e.fp,.string (bs e.test),(.slice AE e.bE.length cE)]:=hxb;have k7:(w1.drewN m).drew.cell? ⟨sb,r.length*8+6,none⟩=some (.slice Ak t.e.bE.length ck):=k6;refine aL (S:=(fun w'=>bL w' w.heap.size 62 #[.int .i64 e.kind,.string (bs e.text),.string (bs e.src),.string (bs e.jZ),.bool e.fp,.string (bs e.test),(.slice AE e.bE.length cE)])) (by kernel_rfl) ?_;change wpAnyH _ _ _ _ _ _ _ _ (World.drew _);refine dB 0 dh ?_;refine dB 1 dh ?_;refine dB 2 dh ?_;refine dB 3 dh ?_;refine mO 5 ?_ dh ?_ ?_;rotate_left
  ·(intro w_ cY;have s0:=bL.cell cY 0;have s1:=bL.cell cY 1;have s2:=bL.cell cY 2;have s3:=bL.cell cY 3;have s4:=bL.cell cY 4;have s5:=bL.cell cY 5;have s6:=bL.cell cY 6;go_simp;try with_reducible rfl)
  obtain⟨w4,qn⟩:∃w4,w4=(w1.drewN (m+1)).alloc (.cells #[.int .i64 0,.string ⟨#[]⟩,.string ⟨#[]⟩,.string ⟨#[]⟩,.bool false,.string ⟨#[]⟩,.slice none 0 0] 62):=⟨_,rfl⟩;have eY:Below w1.heap.size w1 w4:=by rw[qn];exact(below_drewN (aF _ _) (m+1)).alloc (dv _) _
  have hs4:w4.heap.size=w1.heap.size+1:=by rw[qn,size_alloc];rfl
  have ZU:bL w4 (w.heap.size+1) 62 [.int .i64 0,.string ⟨#[]⟩,.string ⟨#[]⟩,.string ⟨#[]⟩,.bool false,.string ⟨#[]⟩,.slice none 0 0].toArray:=by rw[qn,<-zX];exact bL.new (w1.drewN (m+1)) _ _
  have ki:bL w4 w.heap.size 62 #[.int .i64 e.kind,.string (bs e.text),.string (bs e.src),.string (bs e.jZ),.bool e.fp,.string (bs e.test),(.slice AE e.bE.length cE)]:=hxb.below eY (by omega);have KR:Below w.heap.size w w4:=Cb.o.trans (eY.mono (by omega));have hAR:IF w4 base 62 7 104 (.slice Ak t.e.bE.length ck) t.e.bE.length xs ⟨w.heap.size+1,0,none⟩ [.int .i64 0,.string ⟨#[]⟩,.string ⟨#[]⟩,.string ⟨#[]⟩,.bool false,.string ⟨#[]⟩,.slice none 0 0]:=by
   refine⟨HXR.o.kept (row:=none) ⟨KR.os,KR.tape,KR.output,KR.size,fun k hk _=>KR.block k hk⟩ (by cases(Value.slice Ak t.e.bE.length ck).ownBlock<;>simp),rfl,fun j u hu=>?_,?_,by simp only[maxLen];omega,by omega,by omega⟩
   ·rw[Dc,Nat.zero_add,ZU.cell];simpa using hu
   ·intro u hu;simp only[List.mem_cons,List.not_mem_nil,or_false]at hu;rcases hu with rfl|rfl|rfl|rfl|rfl|rfl|rfl<;>rfl
  have ai7:=WO HH.o xA hB H11.o rfl KR NG HXG.o WS.o hE (fun k hk=>⟨(hT k hk).1,fun e2=>(hT k hk).2.1 (by rw[e2];rfl),(hT k hk).2.2⟩);have HE:=bD ai7;clear ai7;have HAR:=bD hAR;have Yq:=bD qn;clear hAR qn;refine bC (rs:=[4,7]) (by kernel_rfl) (by simp) ?_;refine AllReadyH.cons rfl (fun K_ bP=>?_) (AllReadyH.cons rfl (fun K_ bP=>?_) AllReadyH.nil)
  ·go_simp;refine bP.out _ _ (by exact dh) fun _=>?_;clear bP K_;refine dB 6 dh ?_;refine fr 7 (fun K_ bP=>?_);go_simp;rw[<-Yq.o];refine bP.out _ _ (by exact ki) fun _=>?_;clear bP K_;refine fr 8 (fun K_ bP=>?_);refine HAR.o.step (by rfl) _ _ _ (by rfl) TF (by rfl) (by rfl) ?_;intro g qW w5 kR oV uy NL;have HF:=bD (GG kR oV uy NG WS.o HH.o KR hs4 zX xA);obtain⟨hgE,hgS,hgB⟩:=HF.o.1;have pe:bL w5 w.heap.size 62 #[.int .i64 e.kind,.string (bs e.text),.string (bs e.src),.string (bs e.jZ),.bool e.fp,.string (bs e.test),(.slice AE e.bE.length cE)]:=ki.grown oV HF.o.2.1;have pA:=bD kR;have tP:=bD oV;have KS:=bD uy;clear kR oV uy;refine bP.out _ _ (by exact pe) fun _=>?_;clear bP K_;have X9:(0:Int)<=(t.e.bE.length:Int):=by omega
   have hi2:(t.e.bE.length:Int)<((t.e.bE.length+1:Nat):Int):=by omega
   have hi3:(t.e.bE.length:Int)<(t.e.bE.length:Int)+1:=by omega
   refine dB 9 pe ?_;refine dB 11 pe ?_;refine dB 12 pe ?_;refine dB 13 pe ?_;have hc:=fun j hj=>KQ pA.o NG j hj;have c0:w5.cell? ⟨g,t.e.bE.length*7,none⟩=some (.int .i64 0):=hc 0 (by omega);have c1:w5.cell? ⟨g,t.e.bE.length*7+1,none⟩=some (.string ⟨#[]⟩):=hc 1 (by omega);have c2:w5.cell? ⟨g,t.e.bE.length*7+2,none⟩=some (.string ⟨#[]⟩):=hc 2 (by omega);have c3:w5.cell? ⟨g,t.e.bE.length*7+3,none⟩=some (.string ⟨#[]⟩):=hc 3 (by omega);have c4:w5.cell? ⟨g,t.e.bE.length*7+4,none⟩=some (.bool false):=hc 4 (by omega);have c5:w5.cell? ⟨g,t.e.bE.length*7+5,none⟩=some (.string ⟨#[]⟩):=hc 5 (by omega);have c6:w5.cell? ⟨g,t.e.bE.length*7+6,none⟩=some (.slice none 0 0):=hc 6 (by omega);have f0:=pA.o.frozenAt (t.e.bE.length*7);have f1:=pA.o.frozenAt (t.e.bE.length*7+1);have f2:=pA.o.frozenAt (t.e.bE.length*7+2);have f3:=pA.o.frozenAt (t.e.bE.length*7+3);have f4:=pA.o.frozenAt (t.e.bE.length*7+4);have f5:=pA.o.frozenAt (t.e.bE.length*7+5);have f6:=pA.o.frozenAt (t.e.bE.length*7+6);have NN:=WQ.below eY;have kR:=(NN.row.kept tP.o (.inr HF.o.2.2.1));rw[af,aR]at kR;have k8:w5.cell? ⟨sb,r.length*8+6,none⟩=some (.slice Ak t.e.bE.length ck):=by
    rw[kR.cellAt _ (by omega)];exact xz (x:=t) (kv:=.slice Ak t.e.bE.length ck) r.length 6 (by omega) (by simp) (by rw[<-xA];simp)
   have z8:=kR.frozenAt (r.length*8+6);have sk:=bD NN;clear hc kR NN;have TH:=xD NG pA.o (.int .i64 e.kind) (.string (bs e.text)) (.string (bs e.src)) (.string (bs e.jZ)) (.bool e.fp) (.string (bs e.test)) (.slice AE e.bE.length cE);have MX:=pe.grown TH.2 (by simpa using fun e=>hgE e.symm);have hS8:=pe.gf (p:=⟨sb,r.length*8+6,none⟩) (show w.heap.size≠sb by omega) (.slice (some ⟨g,0,none⟩) (t.e.bE.length+1) qW);have TI:sb≠g:=fun e=>hgS e.symm;have qt:bL (IT (w5.setCell ⟨sb,r.length*8+6,none⟩ (.slice (some ⟨g,0,none⟩) (t.e.bE.length+1) qW)) g (t.e.bE.length*7) (.int .i64 e.kind) (.string (bs e.text)) (.string (bs e.src)) (.string (bs e.jZ)) (.bool e.fp) (.string (bs e.test)) (.slice AE e.bE.length cE)) w.heap.size 62 #[.int .i64 e.kind,.string (bs e.text),.string (bs e.src),.string (bs e.jZ),.bool e.fp,.string (bs e.test),(.slice AE e.bE.length cE)]:=by
    rw[yI TI];exact MX.gf (p:=⟨sb,r.length*8+6,none⟩) (show w.heap.size≠sb by omega) _
   clear TH;refine bC (rs:=[10,14]) (by kernel_rfl) (by simp) ?_;refine AllReadyH.cons rfl (fun K_ bP=>?_) (AllReadyH.cons rfl (fun K_ bP=>?_) AllReadyH.nil)
   ·go_simp;refine bP.out _ _ (by exact MX) fun _=>?_;clear bP K_;refine fr 14 (fun K_ bP=>?_);go_simp;refine bP.out _ _ (by exact MX.gf (p:=⟨sb,r.length*8+6,none⟩) (show w.heap.size≠sb by omega) _) fun _=>?_;clear bP K_;refine aJ (by kernel_rfl) ?_ _;go_wp2_with fail;go_end0;exact HE.o _ _ _ rfl pA.o tP.o KS.o NL
   ·go_simp;refine bP.out _ _ (by exact hS8) fun _=>?_;clear bP K_;refine fr 10 (fun K_ bP=>?_);go_simp;refine bP.out _ _ (by exact qt) fun _=>?_;clear bP K_;refine aJ (by kernel_rfl) ?_ _;go_wp2_with fail;go_end0;exact HE.o _ _ _ (yI TI _ _ _ _ _ _ _ _).symm pA.o tP.o KS.o NL
  ·go_simp;rw[<-Yq.o];refine bP.out _ _ (by exact ki) fun _=>?_;clear bP K_;have k74:w4.cell? ⟨sb,r.length*8+6,none⟩=some (.slice Ak t.e.bE.length ck):=(aW (eY.block sb (by omega))).trans k6;refine fr 4 (fun K_ bP=>?_);go_simp;refine bP.out _ _ (by exact ki) fun _=>?_;clear bP K_;refine dB 6 ki ?_;refine fr 8 (fun K_ bP=>?_);refine HAR.o.step (by rfl) _ _ _ (by rfl) TF (by rfl) (by rfl) ?_;intro g qW w5 kR oV uy NL;have HF:=bD (GG kR oV uy NG WS.o HH.o KR hs4 zX xA);obtain⟨hgE,hgS,hgB⟩:=HF.o.1;have pe:bL w5 w.heap.size 62 #[.int .i64 e.kind,.string (bs e.text),.string (bs e.src),.string (bs e.jZ),.bool e.fp,.string (bs e.test),(.slice AE e.bE.length cE)]:=ki.grown oV HF.o.2.1;have pA:=bD kR;have tP:=bD oV;have KS:=bD uy;clear kR oV uy;refine bP.out _ _ (by exact pe) fun _=>?_;clear bP K_;have X9:(0:Int)<=(t.e.bE.length:Int):=by omega
   have hi2:(t.e.bE.length:Int)<((t.e.bE.length+1:Nat):Int):=by omega
   have hi3:(t.e.bE.length:Int)<(t.e.bE.length:Int)+1:=by omega
   refine dB 9 pe ?_;refine dB 11 pe ?_;refine dB 12 pe ?_;refine dB 13 pe ?_;have hc:=fun j hj=>KQ pA.o NG j hj;have c0:w5.cell? ⟨g,t.e.bE.length*7,none⟩=some (.int .i64 0):=hc 0 (by omega);have c1:w5.cell? ⟨g,t.e.bE.length*7+1,none⟩=some (.string ⟨#[]⟩):=hc 1 (by omega);have c2:w5.cell? ⟨g,t.e.bE.length*7+2,none⟩=some (.string ⟨#[]⟩):=hc 2 (by omega);have c3:w5.cell? ⟨g,t.e.bE.length*7+3,none⟩=some (.string ⟨#[]⟩):=hc 3 (by omega);have c4:w5.cell? ⟨g,t.e.bE.length*7+4,none⟩=some (.bool false):=hc 4 (by omega);have c5:w5.cell? ⟨g,t.e.bE.length*7+5,none⟩=some (.string ⟨#[]⟩):=hc 5 (by omega);have c6:w5.cell? ⟨g,t.e.bE.length*7+6,none⟩=some (.slice none 0 0):=hc 6 (by omega);have f0:=pA.o.frozenAt (t.e.bE.length*7);have f1:=pA.o.frozenAt (t.e.bE.length*7+1);have f2:=pA.o.frozenAt (t.e.bE.length*7+2);have f3:=pA.o.frozenAt (t.e.bE.length*7+3);have f4:=pA.o.frozenAt (t.e.bE.length*7+4);have f5:=pA.o.frozenAt (t.e.bE.length*7+5);have f6:=pA.o.frozenAt (t.e.bE.length*7+6);have NN:=WQ.below eY;have kR:=(NN.row.kept tP.o (.inr HF.o.2.2.1));rw[af,aR]at kR;have k8:w5.cell? ⟨sb,r.length*8+6,none⟩=some (.slice Ak t.e.bE.length ck):=by
    rw[kR.cellAt _ (by omega)];exact xz (x:=t) (kv:=.slice Ak t.e.bE.length ck) r.length 6 (by omega) (by simp) (by rw[<-xA];simp)
   have z8:=kR.frozenAt (r.length*8+6);have sk:=bD NN;clear hc kR NN;have TH:=xD NG pA.o (.int .i64 e.kind) (.string (bs e.text)) (.string (bs e.src)) (.string (bs e.jZ)) (.bool e.fp) (.string (bs e.test)) (.slice AE e.bE.length cE);have MX:=pe.grown TH.2 (by simpa using fun e=>hgE e.symm);have hS8:=pe.gf (p:=⟨sb,r.length*8+6,none⟩) (show w.heap.size≠sb by omega) (.slice (some ⟨g,0,none⟩) (t.e.bE.length+1) qW);have TI:sb≠g:=fun e=>hgS e.symm;have qt:bL (IT (w5.setCell ⟨sb,r.length*8+6,none⟩ (.slice (some ⟨g,0,none⟩) (t.e.bE.length+1) qW)) g (t.e.bE.length*7) (.int .i64 e.kind) (.string (bs e.text)) (.string (bs e.src)) (.string (bs e.jZ)) (.bool e.fp) (.string (bs e.test)) (.slice AE e.bE.length cE)) w.heap.size 62 #[.int .i64 e.kind,.string (bs e.text),.string (bs e.src),.string (bs e.jZ),.bool e.fp,.string (bs e.test),(.slice AE e.bE.length cE)]:=by
    rw[yI TI];exact MX.gf (p:=⟨sb,r.length*8+6,none⟩) (show w.heap.size≠sb by omega) _
   clear TH;refine bC (rs:=[10,14]) (by kernel_rfl) (by simp) ?_;refine AllReadyH.cons rfl (fun K_ bP=>?_) (AllReadyH.cons rfl (fun K_ bP=>?_) AllReadyH.nil)
   ·go_simp;refine bP.out _ _ (by exact MX) fun _=>?_;clear bP K_;refine fr 14 (fun K_ bP=>?_);go_simp;refine bP.out _ _ (by exact MX.gf (p:=⟨sb,r.length*8+6,none⟩) (show w.heap.size≠sb by omega) _) fun _=>?_;clear bP K_;refine aJ (by kernel_rfl) ?_ _;go_wp2_with fail;go_end0;exact HE.o _ _ _ rfl pA.o tP.o KS.o NL
   ·go_simp;refine bP.out _ _ (by exact hS8) fun _=>?_;clear bP K_;refine fr 10 (fun K_ bP=>?_);go_simp;refine bP.out _ _ (by exact qt) fun _=>?_;clear bP K_;refine aJ (by kernel_rfl) ?_ _;go_wp2_with fail;go_end0;exact HE.o _ _ _ (yI TI _ _ _ _ _ _ _ _).symm pA.o tP.o KS.o NL
end Go.Proofs.YtejafaaihodehaaGreatDoor
