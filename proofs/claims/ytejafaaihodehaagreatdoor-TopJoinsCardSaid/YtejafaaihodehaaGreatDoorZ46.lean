/- Part 46. -/
import Derived.Test.YtejafaaihodehaaGreatDoorZ29
import Derived.Test.YtejafaaihodehaaGreatDoorZ36
import Derived.Test.YtejafaaihodehaaGreatDoorZ40
import Derived.Test.YtejafaaihodehaaGreatDoorZ45
set_option linter.all false
set_option maxRecDepth 100000
set_option maxHeartbeats 8000000
namespace Go.Proofs.YtejafaaihodehaaGreatDoor
open Go Go.RowKit Tryz
theorem Pa(s t:Bt):(Lib.cut s t).1.length<=s.length/\(Lib.cut s t).2.1.length<=s.length:=je s t
theorem Et{s:Bt}{b:UInt8}{p:Bt}(h:p∈fT s b):p.length<=s.length:=by
 unfold fT at h;obtain⟨h1,-⟩:=List.mem_filter.1 h;obtain⟨x,hx,rfl⟩:=List.mem_map.1 h1;have:=Hd hx;rw[<-cm];exact this
theorem zo:∀(n:Nat) (o l x:Bt),oH n o l=some x->x.length<=o.length+l.length
 |0,o,l,x,h=>by simp[oH]at h
 |n+1,o,[],x,h=>by
  rw[oH]at h;injection h with h
  subst h;simp
 |n+1,o,[c],x,h=>by
  have h:(if c=34 then none else if c=92 then none else oH n (o++[c]) [])=some x:=h;split at h
  ·cases h
  ·split at h
   ·cases h
   ·have:=zo n _ _ x h;simp only[af,ak,aD]at this|-;omega
 |n+1,o,c::d::r,x,h=>by
  have h:(if c=34 then none else if c=92 then oH n (o++[d]) r else oH n (o++[c]) (d::r))=some x:=h;split at h
  ·cases h
  ·split at h
   ·have:=zo n _ _ x h;simp only[af,ak,aD]at this|-;omega
   ·have:=zo n _ _ x h;simp only[af,ak,aD]at this|-;omega
theorem JM(s:Bt):(jE s).1.length<=s.length:=by
 unfold jE;split
 ·simp
 ·cases h:oH s.length [] ((s.take (s.length-1)).drop 1)with
  |none=>simp[DN]
  |some x=>
   have:=zo _ _ _ _ h;simp only[DN,aD,aj,ay]at this|-;omega
theorem Eu{N:Nat}{l:List bY}{p:Bt}(h:∀q∈l,q.value.length<=N)(hp:p.length<=N):∀q∈gl l p,q.value.length<=N:=by
 unfold gl;split
 ·exact h
 ·intro q hq;rcases List.mem_append.1 hq with hq|hq
  ·exact h q hq
  ·rw[aV]at hq;subst hq;have h1:=rN p;have h2:=(Pa (fu p) [61]).2;have h3:=rN (Lib.cut (fu p) [61]).2.1;have h4:=JM (fu (Lib.cut (fu p) [61]).2.1)
   show(if _ then _ else _:Bt).length<=N
   split
   ·omega
   ·omega
theorem Ge{N:Nat}{l:List bY}{p:Bt}(h:∀q∈l,q.value.length<=N)(hp:p.length<=N):∀q∈iK l p,q.value.length<=N:=by
 unfold iK;intro q hq;rcases List.mem_append.1 hq with hq|hq
 ·exact h q hq
 ·rw[aV]at hq;subst hq;have h2:=(Pa p [61]).2;have h3:=sS ((Lib.cut p [61]).2.1.length+1) (Lib.cut p [61]).2.1
  show(mv (Lib.cut p [61]).2.1).length<=N
  unfold mv;omega
theorem Ev{N:Nat}{step:List bY->Bt->List bY}(hs:∀l p,(∀q∈l,q.value.length<=N)->p.length<=N->∀q∈step l p,q.value.length<=N):
 ∀(m:List Bt) (l:List bY),(∀q∈l,q.value.length<=N)->(∀p∈m,p.length<=N)->∀q∈m.foldl step l,q.value.length<=N
 |[],l,h,_=>h
 |p::m,l,h,hm=>Ev hs m _ (hs l p h (hm p (by simp))) (fun x hx=>hm x (by simp[hx]))
theorem Hw{N:Nat}{l:List bY}(h:∀q∈l,q.value.length<=N)(nm:Bt):(oG nm l).1.length<=N:=by
 unfold oG;split
 ·rename_i p hp;exact h p (List.mem_of_find?_eq_some hp)
 ·exact ax _
def cK.AP(v:cK):Prop:=v.e0.length<=300/\v.e1.length<=300/\v.e2.length<=300/\v.e3.length<=300/\v.e4.length<=300/\v.e5.length<=300
theorem cK.AP.VZ{v:cK}(h:v.AP):v.VZ:=by
 obtain⟨h0,h1,h2,h3,h4,h5⟩:=h;exact⟨by omega,by omega,by omega,by omega,by omega,by omega⟩
theorem U7(r:Bt):(wD r).length<=r.length:=by
 unfold wD;rw[ay];omega
theorem Pc(s key:Bt):(rj s key).length<=s.length+10:=by
 unfold rj;have h1:=fun t=>au (U7 (Lib.cut s t).2.1) (Pa s t).2;split
 ·unfold sY uY
  repeat' split
  all_goals simp
 ·split
  ·unfold ld
   repeat' split
   ·have:=h1 Js;show(wD _).length<=_;omega
   ·have:=h1 vT;show(wD _).length<=_;omega
   ·simp
  ·split
   ·unfold ld He uZ uY
    repeat' split
    all_goals simp
   ·simp
theorem Ew{v:cK}(h:v.AP)(nm key:Bt):(tO v nm key).1.length<=310:=by
 obtain⟨h0,h1,h2,h3,h4,h5⟩:=h;have hb:∀(s k:Bt),s.length<=300->(rM s k).1.length<=310:=fun s k hs=>by
  unfold rM kW;split
  ·show s.length<=310;omega
  ·simp
 have ho:∀(s k:Bt) (r:Bt × Bool),s.length<=300->r.1.length<=310->(vQ s k r).1.length<=310:=fun s k r hs hr=>by
  unfold vQ kW;split
  ·show s.length<=310;omega
  ·exact hr
 unfold tO;split
 ·exact hb _ _ h0
 ·split
  ·exact hb _ _ h1
  ·split
   ·exact ho _ _ _ h2 (by have:=Pc v.e2 key;show(rj v.e2 key).length<=310;omega)
   ·split
    ·exact ho _ _ _ h3 (Hw (fun q hq=>Ev (N:=310) (fun l p h hp=>Eu h hp) _ [] (by simp) (fun p hp=>by have:=Et hp;omega) q hq) key)
    ·split
     ·exact ho _ _ _ h5 (Hw (fun q hq=>Ev (N:=310) (fun l p h hp=>Ge h hp) _ [] (by simp) (fun p hp=>by have:=Et hp;omega) q hq) key)
     ·split
      ·refine ho _ _ _ h4 ?_;unfold BL;split<;>simp
      ·simp
def iE(v:cK)(cR:List gw):lq:=⟨Xm (j9 (tO v)),L7 (tO y7) (tO v),cR,true⟩
theorem U8{v:cK}(h:v.AP):Ur v (j9 (tO v)):=fun r hr=>by
 have h1:=Jk (tO v) r 100000 (fun nm key=>by have:=Ew h nm key;omega) hr;exact⟨⟨h1.2,by omega⟩,fun W hg=>vP v (tO v) (vf v h.VZ) r hr W hg⟩
theorem Qn{v:cK}(h:v.AP)(cR:List gw){s:Bt}(hs:s.length<=3000):GN v (iE v cR) s:=by
 have h1:=LQ (j9 (tO v)) 3000 3000 (fun r hr=>Jk (tO v) r 3000 (fun nm key=>by have:=Ew h nm key;omega) hr) s.length s [] hs;refine⟨?_,fun W hg=>Rq v (j9 (tO v)) (U8 h) s (by omega) W hg⟩
 show(wC (j9 (tO v)) s.length s []).length<=10000000
 have h2:(3000+1)*s.length<=(3000+1)*3000:=Nat.mul_le_mul_left _ hs;rw[aD]at h1;omega
theorem Mn{v:cK}(h:v.AP)(cR:List gw){s:Bt}(hs:s.length<=3000):oX v (iE v cR) s:=by
 have h1:=Qn h cR hs;exact⟨h1,qJ _ (by have:=h1.1;omega)⟩
theorem U9{v:cK}(h:v.AP)(cR:List gw){s:Bt}(hs:s.length<=3000):I9 v (iE v cR) s:=fun W hg=>
 Jy v (tO y7) (tO v) (vf y7 (by simp[cK.VZ,y7])) (vf v h.VZ)
  (fun t ht=>by have:=(Jk (tO v) t 10000 (fun nm key=>by have:=Ew h nm key;omega) ht).1;omega) s (by omega) W hg
theorem Qo{v:cK}{D:lq}:∀{l:List Elem},(∀e∈l,Q5 v D e)->tL v D l
 |[],_=>by rw[tL];trivial
 |e::l,h=>by rw[tL];exact⟨h e (by simp),Qo fun x hx=>h x (by simp[hx])⟩
theorem BS{N:Nat}{S:Bt}:∀{l:List Elem} {e:Elem},eM N S l->e∈l->eZ N S e
 |[],_,_,h=>by cases h
 |x::l,e,h,he=>by
  rw[eM]at h;rcases List.mem_cons.1 he with rfl|he
  ·exact h.1
  ·exact BS h.2 he
theorem Hz{v:cK}(hv:v.AP)(cR:List gw){S:Bt}:∀(d:Nat) (ej:Int) (l:List Elem),tq d ej l->eM 3000 S l->tL v (iE v cR) l
 |0,ej,l,h,_=>h.elim
 |d+1,ej,l,h,hi=>by
  refine Qo fun e he=>?_;obtain⟨i,bW,rfl⟩:=List.getElem_of_mem he;obtain⟨hs,hp,-⟩:=h.2.2 i bW;obtain⟨s1,s2,s3,s4,s5,s6⟩:=hs;obtain⟨p1,p2,p3,p4,p5,p6⟩:=(od _).1 (BS hi he);rw[xF];refine⟨by omega,Qn hv cR p1,fun _=>⟨Mn hv cR p2,fun _=>Mn hv cR p3⟩,fun _=>U9 hv cR p4,fun h4=>⟨rfl,?_⟩,fun h7=>⟨rfl,?_⟩,?_⟩
  ·have hn:=s4 (by unfold yL;omega);rw[h4]at hn;cases d with
   |zero=>exact hn.elim
   |succ d=>have:=hn.1 rfl;omega
  ·have hn:=s4 (by unfold yL;omega);rw[h7]at hn;cases d with
   |zero=>exact hn.elim
   |succ d=>
    intro x hx;obtain⟨j,hj,rfl⟩:=List.getElem_of_mem hx;obtain⟨-,q,-⟩:=hn.2.2 j hj;obtain⟨q1,q2,q3⟩:=q;by_cases a8:l[i].bE[j].kind=8
    ·exact .inl a8
    ·by_cases a9:l[i].bE[j].kind=9
     ·exact .inr a9
     ·exfalso;by_cases a5:l[i].bE[j].kind=5
      ·have:=(q1 (.inl a5)).1;omega
      ·by_cases a6:l[i].bE[j].kind=6
       ·have:=(q1 (.inr a6)).1;omega
       ·exact(q3 a5 a6 a8 a9).2 rfl
  ·by_cases hl:yL l[i].kind
   ·rw[s3 hl,tL];trivial
   ·exact Hz hv cR d _ _ (s4 hl) p6
theorem JN{N N':Nat}{S:Bt}(h:N<=N'):∀l:List Elem,eM N S l->eM N' S l:=by
 have key:∀k,∀l:List Elem,fC l<=k->eM N S l->eM N' S l:=by
  intro k;induction k with
  |zero=>
   intro l hl hi;cases l with
   |nil=>rw[eM];trivial
   |cons e l=>have:=j8 e;simp only[fC]at hl;omega
  |succ k ih=>
   intro l;induction l with
   |nil=>intro _ _;rw[eM];trivial
   |cons e l ihl=>
    intro hl hi;have he:=j8 e;simp only[fC]at hl;rw[eM]at hi|-;obtain⟨h1,h2,h3,h4,h5,h6⟩:=(od _).1 hi.1;exact⟨(od _).2 ⟨by omega,by omega,by omega,by omega,h5,ih e.bE (by omega) h6⟩,ihl (by omega) hi.2⟩
 exact fun l=>key _ l (dv _)
theorem Ey{v:cK}(hv:v.AP)(cR:List gw){body:Bt}(hb:body.length<=3000)(h:(cM body).2=0):tL v (iE v cR) (cM body).1:=
 Hz hv cR 17 0 _ ((La body).1 h) (JN hb _ (vt h))
theorem Mo{v:cK}(hv:v.AP){cR:List gw}(hr:∀r∈cR,r.jK.length<=500/\r.body.length<=1500):Ds v (iE v cR):=fun r hm _=>
 ⟨qJ _ (by have:=(hr r hm).1;omega),Ey hv cR (by have:=(hr r hm).2;omega)⟩
theorem H0(v:cK)(D:lq)(rv:Value)(M:Nat)(wO:Ds v D):∀d,d<=4->∀l,Dt v D rv M d l:=by
 have step:∀(base:Bt) (el:List Elem) (fU:Int) (tk:Tk),Og v D rv M base el fU tk->∀(k:Nat) (l:List Elem),fC l<=k->tL v D l->Bs v D rv M base el fU tk l:=by
  intro base el fU tk so k;induction k using Nat.strongRecOn with
  |ind k ih=>
   intro l hk hl;refine Dy v D rv M base el _ _ l fun j hj=>?_;have hx:=Au hl j hj;have tp:=(xF _).1 hx;have h1:=nU hj;have h2:=j8 l[j];have ux:∀i (h:i<l[j].bE.length),Bs v D rv M base el fU tk l[j].bE[i].bE:=fun i h=>by
    have h3:=nU h;have h4:=j8 l[j].bE[i];exact ih (fC l[j].bE[i].bE) (by omega) _ (dv _) ((xF _).1 (Au tp.2.2.2.2.2.2 i h)).2.2.2.2.2.2
   refine xH v D rv M base el _ _ so l[j] hx (fun _=>ih (fC l[j].bE) (by omega) _ (dv _) tp.2.2.2.2.2.2) (fun h7=>?_) (fun h4=>?_)
   ·refine FN v D rv M base el fU tk l[j] ux fun i hi db=>?_;have Xb:l[j].bE[i]∈l[j].bE:=List.getElem_mem hi;rcases(tp.2.2.2.2.2.1 h7).2 _ Xb with h8|h9
    ·exact((xF _).1 (Au tp.2.2.2.2.2.2 i hi)).2.2.2.1 h8
    ·exact aX h9 db
   ·exact Oq v D rv M base el fU tk l[j] ux (tp.2.2.2.2.1 h4).2
 intro d;induction d with
 |zero=>
  intro hd l base el pv lv sub n c W Du tJ hl hm qX Oc hn;have so:Og v D rv M base el (4-((0:Nat):Int)) (gJ D 0 base el):=fun pv s c W hs hm qX=>sM v D rv M 0 hd (fun h=>aX rfl h) wO base el pv s c W Du tJ hs hm qX;exact step base el _ _ so _ l (dv _) hl pv lv sub n c W hm qX Oc hn
 |succ d ihd=>
  intro hd l base el pv lv sub n c W Du tJ hl hm qX Oc hn;have so:Og v D rv M base el (4-((d+1:Nat):Int)) (gJ D (d+1) base el):=fun pv s c W hs hm qX=>sM v D rv M (d+1) hd (fun _ l=>ihd (by omega) l) wO base el pv s c W Du tJ hs hm qX;exact step base el _ _ so _ l (dv _) hl pv lv sub n c W hm qX Oc hn
theorem Sh(v:cK)(hv:v.AP)(cR:List gw)(hr:∀r∈cR,r.jK.length<=500/\r.body.length<=1500)(base body:Bt)(eU:Bool)(hb:base.length<=1000000)(hl:body.length<=3000)(rv:Value)(F:Nat->Prop)
 (w:World) (hg:eK w) (GP:GR w F (.row 5 (cR.map gw.gv)) [rv]):
 Calls prog 6 #[nJ v base body eU,rv] w fun e w'=>e=.returned (.tuple #[(iZ (iE v cR) base body eU).1.val,.int .i64 (iZ (iE v cR) base body eU).2])/\Below w.heap.size w w':=
 AB v (iE v cR) base body eU rv F (qJ base (by omega)) (fun _ M rv=>H0 v _ rv M (Mo hv hr) 4 (dv _) _) (Ey hv cR hl) (by omega) w hg GP
end Go.Proofs.YtejafaaihodehaaGreatDoor
