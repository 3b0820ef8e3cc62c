/- Part 24. -/
import Derived.Test.YtejafaaihodehaaGreatDoorZ13
import Derived.Test.YtejafaaihodehaaGreatDoorZ16
set_option linter.all false
set_option maxRecDepth 100000
set_option maxHeartbeats 8000000
namespace Go.Proofs.YtejafaaihodehaaGreatDoor
open Go Go.RowKit Tryz
def fJ(t:bG):Prop:=(t.kind=0/\t.bK=[])\/t.kind=1\/t.kind=2\/t.kind=3
theorem Sc{m s:Bt}{k0:Nat}{t:bG}{r:Bt}{k:Nat}(h:ml m s k0=.ok t r k):t.kind=1\/t.kind=2\/t.kind=3:=by
 rw[ml]at h;obtain⟨_,r1,k1,h1,h2⟩:=eN.cG h;obtain⟨nm,r3,k3,h3,h4⟩:=eN.cG h2;split at h4
 ·obtain⟨_,r5,k5,h5,h6⟩:=eN.cG h4;obtain⟨_,r7,k7,h7,h8⟩:=eN.cG h6;injection h8 with e1 e2 e3
  subst e1;exact .inr (.inl rfl)
 ·obtain⟨-,-,-,c4⟩:=om h4;rcases c4 with c|c
  ·exact .inl c
  ·exact .inr (.inr c)
theorem O1{s m:Bt}(h:(fe s m).2.1≠0):fJ (fe s m).1:=by
 unfold fe at h|-;cases ht:ml m s 0 with
 |ok t r k=>exact .inr (Sc ht)
 |short=>rw[ht]at h;exact aX rfl h
 |bad e=>rw[ht]at h;exact aX rfl h
theorem qg:∀(n:Nat) (b:Bool) (s:Bt) (o:List bG),(∀t∈o,fJ t)->∀t∈(cC n b s o).2.1,fJ t
 |0,_,_,_,_=>by intro t ht;simp[cC]at ht
 |n+1,b,s,o,ho=>by
  rw[fL];have h1:∀t∈ek o s (bX b s).2,fJ t:=by
   unfold ek;split
   ·intro t ht;rcases List.mem_append.1 ht with h|h
    ·exact ho t h
    ·rw[aV]at h;subst h;exact .inl ⟨rfl,rfl⟩
   ·exact ho
  generalize ek o s (bX b s).2=o1 at*;generalize s.drop (bX b s).2=s1 at*;generalize(bX b s).1=m at*;unfold fk;split
  ·exact h1
  ·split
   ·exact qg n _ _ _ h1
   ·split
    ·intro t ht;cases ht
    ·split
     ·exact h1
     ·rename_i hn;refine qg n _ _ _ ?_;intro t ht;rcases List.mem_append.1 ht with h|h
      ·exact h1 t h
      ·rw[aV]at h;subst h;exact O1 hn
theorem oJ(x:gG)(s:Bt):∀t∈(dC x s).2.1,fJ t:=by
 unfold dC;split
 ·exact qg _ _ _ _ (by simp)
 ·intro t ht;cases ht
theorem s9(x:gG):∀t∈(ig x).1,fJ t:=by
 unfold ig;split
 ·split
  ·intro t ht;cases ht
  ·split
   ·intro t ht;cases ht
   ·intro t ht;rw[aV]at ht;subst ht;exact .inl ⟨rfl,rfl⟩
 ·intro t ht;cases ht
theorem Ei{o:List bG}{t:bG}(ho:∀x∈o,fJ x)(ht:fJ t):∀x∈bV o t,fJ x:=by
 have hs:∀x∈o++[t],fJ x:=by
  intro x hx;rcases List.mem_append.1 hx with h|h
  ·exact ho x h
  ·rw[aV]at h;subst h;exact ht
 unfold bV;split
 ·exact hs
 ·split
  ·exact ho
  ·rcases List.eq_nil_or_concat o with rfl|⟨l,u,rfl⟩
   ·exact hs
   ·rw[List.concat_eq_append]at ho hs|-;simp only[List.getLast?_append,List.getLast?_singleton,Option.some_or];split
    ·rename_i hu;rw[List.dropLast_concat];intro x hx;rcases List.mem_append.1 hx with h|h
     ·exact ho x (by simp[h])
     ·rw[aV]at h;subst h;rcases ho u (by simp)with h|h
      ·exact .inl ⟨hu,h.2⟩
      ·omega
    ·exact hs
theorem BN:∀(l o:List bG),(∀x∈o,fJ x)->(∀x∈l,fJ x)->∀x∈l.foldl bV o,fJ x
 |[],_,h,_=>h
 |t::l,o,h,hk=>BN l _ (Ei h (hk t (by simp))) (fun x hx=>hk x (by simp[hx]))
theorem vg{l:List bG}(h:∀x∈l,fJ x):∀x∈eV l,fJ x:=BN l [] (by simp) h
theorem JG{t:bG}(h:fJ t):dE t=t:=by
 unfold dE;split
 ·rfl
 ·rename_i hk;rcases h with⟨h1,h2⟩|h
  ·obtain⟨k,x,a⟩:=t;simp only at h1 h2;subst h1 h2;rfl
  ·exact aX h hk
theorem xN:∀{o:List bG} {t:bG} {l:List bG},lO (o++t::l)->t.kind=0->t.text≠[]/\∀u,o.getLast?=some u->u.kind≠0
 |[],t,l,h,h0=>⟨(h.1 h0).1,by simp⟩
 |[x],t,l,h,h0=>⟨(h.2.2.1 h0).1,fun u hu hk=>by
  have hu:x=u:=ar hu;subst hu;exact(h.1 hk).2 t rfl h0⟩
 |x::y::o,t,l,h,h0=>by
  have ih:=xN (o:=y::o) h.2.2 h0;exact⟨ih.1,fun u hu=>ih.2 u (by rw[List.getLast?_cons_cons]at hu;exact hu)⟩
theorem tz:∀(l o:List bG),lO (o++l)->l.foldl bV o=o++l
 |[],o,_=>by simp
 |t::l,o,h=>by
  have hs:bV o t=o++[t]:=by
   unfold bV;by_cases h0:t.kind=0
   ·obtain⟨h1,h2⟩:=xN h h0;rw[aa (by simp[h0]),aa h1];split
    ·rename_i u hu;rw[aa (h2 u hu)]
    ·rfl
   ·rw[ae h0]
  rw[List.foldl_cons,hs,tz l (o++[t]) (by simpa using h)];simp
theorem O2{l:List bG}(hp:∀x∈l,fJ x)(hj:lO l):ed l=l:=by
 have e:l.map dE=l:=by
  conv=>rhs;rw[<-List.map_id l]
  exact List.map_congr_left fun x hx=>by rw[JG (hp x hx)];rfl
 unfold ed eV;rw[e]
 simpa using tz l [] (by simpa using hj)
theorem Mb{l:List bG}(h:∀x∈l,fJ x):∀t∈l,t.kind=0\/t.kind=1\/t.kind=2\/t.kind=3:=fun t ht=>by
 rcases h t ht with h|h
 ·exact .inl h.1
 ·exact .inr h
theorem zh{l:List bG}(h:∀x∈l,fJ x):lO (eV l):=sL l [] trivial (Mb h)
def vW(o:List bG):Prop:=∀u,o.getLast?=some u->u.kind≠0
theorem Ej{o:List bG}(ho:vW o)(p:List bG)(t:bG):bV (o++p) t=o++bV p t:=by
 unfold bV;split
 ·rw[aN]
 ·split
  ·rfl
  ·rcases List.eq_nil_or_concat p with rfl|⟨l,u,rfl⟩
   ·rw[List.append_nil];simp only[List.getLast?_nil,List.nil_append];split
    ·rename_i u hu;rw[aa (ho u hu)]
    ·rfl
   ·rw[List.concat_eq_append,<-aN];simp only[List.getLast?_append,List.getLast?_singleton,Option.some_or];split
    ·rw[List.dropLast_concat,List.dropLast_concat,aN]
    ·simp[aN]
theorem vh{o:List bG}(ho:vW o):∀(l p:List bG),l.foldl bV (o++p)=o++l.foldl bV p
 |[],_=>rfl
 |t::l,p=>by
  rw[List.foldl_cons,List.foldl_cons,Ej ho,vh ho l]
theorem Mc{l m:List bG}(h:vW (eV l)):eV (l++m)=eV l++eV m:=by
 unfold eV at*;rw[List.foldl_append];have:=vh h m []
 rwa [List.append_nil]at this
theorem ta{o:List bG}{t:bG}(h:t.kind≠0):bV o t=o++[t]:=by
 unfold bV;rw[ae h]
theorem JH{l:List bG}{t:bG}(h:t.kind≠0):vW (l++[t]):=by
 intro u hu;simp only[List.getLast?_append,List.getLast?_singleton,Option.some_or,Option.some.injEq]at hu;subst hu;exact h
theorem lE:∀(l m:List bG) (i:Nat) (st:List Level),
 bO i st (l++m)=if(bO i st l).2≠0 then bO i st l else bO (i+l.length) (bO i st l).1 m
 |[],m,i,st=>by simp[bO]
 |t::l,m,i,st=>by
  rw[aU,bO,bO];by_cases h4:400<=i
  ·rw[ae h4,ae h4,ae (show(4:Int)≠0 by decide)]
  ·rw[aa h4,aa h4];by_cases hn:(cD st t).2≠0
   ·rw[ae hn,ae hn,ae hn]
   ·rw[aa hn,aa hn,lE l m (i+1),ak,show i+1+l.length=i+(l.length+1) by omega]
theorem wU:∀(l:List bG) (i:Nat) (st:List Level),(bO i st l).2=0->l≠[]->i+l.length<=400
 |[],_,_,_,h=>aX rfl h
 |t::l,i,st,h,_=>by
  unfold bO at h;split at h
  ·cases h
  ·rename_i h4;split at h
   ·rename_i db;exact aX h db
   ·rcases Classical.em (l=[])with rfl|hl
    ·simp;omega
    ·have:=wU l (i+1) _ h hl;rw[ak];omega
def ie(f:Level->Level):List Level->List Level
 |[]=>[]
 |[p]=>[f p]
 |u::v::r=>u::ie f (v::r)
theorem xO(f:Level->Level):∀st:List Level,(ie f st).length=st.length
 |[]=>rfl
 |[p]=>rfl
 |u::v::r=>by simp only[ie,ak];rw[xO f (v::r)];rfl
def nM(p:Level):Prop:=p.name=[]/\p.e.dD []=fi 0
theorem nM.kind{p:Level}(h:nM p):p.e.kind=0:=by
 have:=congrArg Elem.kind h.2
 rwa [Elem.jU]at this
theorem nM.set{p:Level}(h:nM p)(l:List Elem):nM ⟨p.e.dD l,p.name⟩:=⟨h.1,by
 have e:∀x:Elem,(x.dD l).dD []=x.dD []:=fun x=>by cases x;rfl
 exact(e _).trans h.2⟩
theorem nM.eq{p:Level}(h:nM p):p=⟨(fi 0).dD p.e.bE,[]⟩:=by
 obtain⟨e,n⟩:=p;obtain⟨h1,h2⟩:=h;simp only at h1 h2;subst h1;rw[<-h2];cases e;rfl
theorem Ek:nM dN:=⟨rfl,rfl⟩
def Cr:List Level->Prop
 |[]=>False
 |[p]=>nM p
 |_::v::r=>Cr (v::r)
def cX(x:List Elem)(p:Level):Level:=⟨p.e.dD (x++p.e.bE),p.name⟩
theorem o7(e:Elem)(a b:List Elem):(e.dD a).dD b=e.dD b:=by cases e;rfl
theorem Hn(x:List Elem)(e:Elem):∀st:List Level,Cr st->kO (ie (cX x) st) e=ie (cX x) (kO st e)
 |[],h=>h.elim
 |[p],h=>by
  have h:p.e.kind=0:=nM.kind h;simp only[ie,kO,cX,oT,Elem.jU,Elem.fP,o7];rw[aa (by omega),aa (by omega)];simp[o7,aN]
 |u::v::r,h=>rfl
theorem El{e:Elem}:∀{st:List Level},Cr st->Cr (kO st e)
 |[],h=>h.elim
 |[p],h=>by
  show nM ⟨oT p.e e,p.name⟩
  unfold oT;split
  ·exact h
  ·exact nM.set h _
 |u::v::r,h=>h
theorem tc(x:List Elem)(t:bG):∀st:List Level,Cr st->cD (ie (cX x) st) t=(ie (cX x) (cD st t).1,(cD st t).2)/\Cr (cD st t).1
 |[],h=>h.elim
 |[p],h=>by
  have hp:p.e.kind=0:=nM.kind h;have hm:ie (cX x) [p]=[cX x p]:=rfl;have hk:(cX x p).e.kind=0:=by simp[cX,hp]
  have h1:=fun e=>Hn x e [p] h;rw[hm]at h1;unfold cD;split
  ·unfold fw;cases hq:eW t.text with
   |none=>exact⟨rfl,h⟩
   |some q=>
    simp only[hm];split
    ·exact⟨rfl,h⟩
    ·cases fv q.kind (fi q.kind) [] t.bK with
     |none=>exact⟨rfl,h⟩
     |some e=>
      simp only;split
      ·exact⟨rfl,h⟩
      ·have e1:jO (cX x p).e q.kind q.ej=jO p.e q.kind q.ej:=by
        unfold jO;rw[hk,hp,aa (by omega),aa (by omega),aa (by omega),aa (by omega)]
       rw[e1];split
       ·exact⟨rfl,h⟩
       ·split
        ·rw[h1];exact⟨rfl,El h⟩
        ·rw[aa (by simp),aa (by simp)];exact⟨rfl,h⟩
  ·split
   ·unfold jA;cases hq:eW t.text with
    |none=>exact⟨rfl,h⟩
    |some q=>
     simp only[hm];split
     ·exact⟨rfl,h⟩
     ·simp only[eq_self,true_or,if_true];exact⟨rfl,h⟩
   ·unfold mF;simp only[hm];rw[aa (by omega),aa (by omega),h1];exact⟨rfl,El h⟩
 |u::v::r,h=>by
  have h0:Cr (v::r):=h;have hm:ie (cX x) (u::v::r)=u::ie (cX x) (v::r):=rfl;have hl:=xO (cX x) (v::r);obtain⟨y,ys,hy⟩:∃y ys,ie (cX x) (v::r)=y::ys:=by
   cases hz:ie (cX x) (v::r)with
   |nil=>rw[hz]at hl;cases hl
   |cons y ys=>exact⟨y,ys,rfl⟩
  have h1:∀e,kO (u::ie (cX x) (v::r)) e=ie (cX x) (kO (u::v::r) e):=fun e=>rfl;have h2:=fun e=>Hn x e (v::r) h0;rw[hm];unfold cD;split
  ·unfold fw;cases hq:eW t.text with
   |none=>exact⟨rfl,h⟩
   |some q=>
    simp only;split
    ·exact⟨rfl,h⟩
    ·cases fv q.kind (fi q.kind) [] t.bK with
     |none=>exact⟨rfl,h⟩
     |some e=>
      simp only;split
      ·exact⟨rfl,h⟩
      ·split
       ·exact⟨rfl,h⟩
       ·split
        ·exact⟨rfl,h⟩
        ·rw[ak,hl];simp only[ak];split
         ·exact⟨rfl,h⟩
         ·exact⟨rfl,h⟩
  ·split
   ·unfold jA;cases hq:eW t.text with
    |none=>exact⟨rfl,h⟩
    |some q=>
     simp only;split
     ·exact⟨rfl,h⟩
     ·rw[hy]at h2|-;by_cases hc:(v::r)=[]\/u.name≠t.text\/u.e.kind=4/\u.e.bE.length≠2\/u.e.kind=7/\u.e.bE.length=0
      ·have nC:(y::ys)=[]\/u.name≠t.text\/u.e.kind=4/\u.e.bE.length≠2\/u.e.kind=7/\u.e.bE.length=0:=hc.imp (fun e=>by cases e) id;rw[ae hc,ae nC];exact⟨by rw[hm,hy],h⟩
      ·have nC:¬((y::ys)=[]\/u.name≠t.text\/u.e.kind=4/\u.e.bE.length≠2\/u.e.kind=7/\u.e.bE.length=0):=fun e=>hc (e.imp (fun e=>by cases e) id);rw[aa hc,aa nC,h2];exact⟨rfl,El h0⟩
   ·unfold mF;simp only;split
    ·exact⟨rfl,h⟩
    ·exact⟨rfl,h⟩
def eN.as4{α:Type}(o:eN α):Prop:=∃e,o=.bad e
theorem eN.as4.bind{α β:Type}{o:eN α}{f:α->Bt->Nat->eN β}(h:o.as4):(o.bind f).as4:=by
 obtain⟨e,rfl⟩:=h;exact⟨e,rfl⟩
theorem Ext.ok{α:Type}{o o':eN α}{b:Bt}(h:Ext o o' b){a:α}{r:Bt}{k:Nat}(he:o=.ok a r k):o'=.ok a (r++b) k:=by
 subst he;exact h
def eN.S5{α:Type}(o:eN α):Prop:=∀e,o=.bad e->e≠0
theorem eN.S5.bind{α β:Type}{o:eN α}{f:α->Bt->Nat->eN β}(h:o.S5)(hf:∀a r k,(f a r k).S5):(o.bind f).S5:=by
 cases o with
 |ok a r k=>exact hf a r k
 |short=>intro e he;cases he
 |bad x=>intro e he;exact h e (by injection he with he;rw[he])
theorem vi{α:Type}(a:α)(r:Bt)(k:Nat):(eN.ok a r k).S5:=fun e he=>by cases he
theorem vX{α:Type}{x:Int}(h:x≠0):(eN.bad x:eN α).S5:=fun e he=>by injection he with he;rwa [<-he]
theorem Ho(r:Bt)(k:Nat):(dy r k).S5:=by
 unfold dy;split
 ·intro e he;cases he
 ·split
  ·exact vX (by decide)
  ·exact vi _ _ _
theorem oc:∀(m r:Bt) (k:Nat),(cZ m r k).S5
 |[],r,k=>vi _ _ _
 |x::m,r,k=>by
  rw[cZ];refine(Ho r k).bind fun y r k=>?_;split
  ·exact oc m _ _
  ·exact vX (by decide)
theorem vk(p:UInt8->Bool):∀(r:Bt) (k:Nat),(fg p r k).S5
 |[],k=>fun e he=>by cases he
 |x::r,k=>by
  rw[fg];split
  ·exact vX (by decide)
  ·split
   ·exact(vk p r (k+1)).bind fun _ _ _=>vi _ _ _
   ·exact vi _ _ _
theorem Hp(r:Bt)(k:Nat):(eO r k).S5:=by
 rw[eO];refine(vk _ r k).bind fun l r k=>?_;split
 ·exact vX (by decide)
 ·exact vi _ _ _
theorem BO:∀(n:Nat) (nm:Bt) (at_:List bY) (r:Bt) (k:Nat),(dz n nm at_ r k).S5
 |0,_,_,_,_=>fun e he=>by cases he
 |n+1,nm,at_,r,k=>by
  rw[dz];refine(vk _ r k).bind fun wF r k=>(Ho r k).bind fun c r k=>?_;unfold gO;split
  ·exact vi _ _ _
  ·split
   ·exact(oc _ _ _).bind fun _ _ _=>vi _ _ _
   ·split
    ·exact vX (by decide)
    ·refine(Hp _ _).bind fun a r k=>(oc _ _ _).bind fun _ r k=>?_;unfold qx;split
     ·exact vX (by decide)
     ·unfold su;exact(oc _ _ _).bind fun _ r k=>(vk _ _ _).bind fun v r k=>(oc _ _ _).bind fun _ r k=>BO n nm _ r k
theorem U1(m r:Bt)(k:Nat):(ml m r k).S5:=by
 rw[ml];refine(oc _ _ _).bind fun _ r k=>(Hp _ _).bind fun nm r k=>?_;split
 ·exact(vk _ _ _).bind fun _ _ _=>(oc _ _ _).bind fun _ _ _=>vi _ _ _
 ·exact BO _ _ _ _ _
end Go.Proofs.YtejafaaihodehaaGreatDoor
