/- Part 13. -/
import Derived.Test.YtejafaaihodehaaGreatDoorZ07
set_option linter.all false
set_option maxRecDepth 100000
set_option maxHeartbeats 8000000
namespace Go.Proofs.YtejafaaihodehaaGreatDoor
open Go Go.RowKit Tryz
def yL(k:Int):Prop:=k=1\/k=2\/k=12\/k=11
instance(k:Int):Decidable (yL k):=by unfold yL;infer_instance
def ZZ(N:Int->List Elem->Prop)(e:Elem):Prop:=
 1<=e.kind/\e.kind<=12/\(yL e.kind->e.bE=[])/\(¬yL e.kind->N e.kind e.bE)/\(e.kind=2->e.src≠[])/\(e.kind=1->e.text≠[])
def Place(ej:Int)(k:Int)(i n:Nat):Prop:=
 ((k=5\/k=6)->ej=4/\(k=5↔i=0))/\((k=8\/k=9)->ej=7/\(k=9->i≠0/\i+1=n))/\(k≠5->k≠6->k≠8->k≠9->ej≠4/\ej≠7)
def Z0(N:Int->List Elem->Prop)(ej:Int)(l:List Elem)(i:Nat)(h:i<l.length):Prop:=
 ZZ N l[i]/\Place ej l[i].kind i l.length/\(0<i->l[i].kind=1->∀u,l[i-1]?=some u->u.kind≠1)
def wL(N:Int->List Elem->Prop)(ej:Int)(l:List Elem):Prop:=∀i (h:i<l.length),Z0 N ej l i h
def tq:Nat->Int->List Elem->Prop
 |0,_,_=>False
 |d+1,ej,l=>(ej=4->l.length=2)/\(ej=7->l.length≠0)/\wL (tq d) ej l
theorem wL.snoc{N:Int->List Elem->Prop}{ej:Int}{l:List Elem}{e:Elem}(h:wL N ej l)(hs:ZZ N e)(hp:Place ej e.kind l.length (l.length+1))
 (ht:e.kind=1->∀u,l.getLast?=some u->u.kind≠1) (h9:ej=7->∀u,l.getLast?=some u->u.kind≠9):wL N ej (l++[e]):=by
 intro i hi;rw[af,aR]at hi;rcases Nat.lt_or_ge i l.length with bW|Nc
 ·obtain⟨h1,h2,h3⟩:=h i bW;have e1:(l++[e])[i]'(by simp;omega)=l[i]:=List.getElem_append_left bW;refine⟨by rw[e1];exact h1,?_,?_⟩
  ·rw[e1,af,aR];obtain⟨p1,p2,p3⟩:=h2;refine⟨p1,fun hk=>⟨(p2 hk).1,fun PD=>?_⟩,p3⟩;obtain⟨p4,p5⟩:=p2 hk;obtain⟨p6,p7⟩:=p5 PD;exfalso;refine h9 p4 l[i] ?_ PD;rw[List.getLast?_eq_getElem?,show l.length-1=i by omega];exact aB bW
  ·rw[e1];intro MT hk u hu;rw[bB (by omega)]at hu;exact h3 MT hk u hu
 ·have hie:i=l.length:=by omega
  subst hie;have e1:(l++[e])[l.length]'(by simp)=e:=by simp
  refine⟨by rw[e1];exact hs,by rw[e1,af,aR];exact hp,?_⟩;rw[e1];intro MT hk u hu;refine ht hk u ?_;rw[List.getLast?_eq_getElem?]
  rwa [bB (by omega)]at hu
def GI(k:Int):Int:=if k=5\/k=6 then 4 else if k=8\/k=9 then 7 else 0
theorem NR{s:Bt}{q:Ca}(h:eW s=some q):q.ej=GI q.kind/\(q.alone=true/\(q.kind=2\/q.kind=12)\/q.alone=false/\3<=q.kind/\q.kind<=11):=by
 unfold eW at h
 repeat (split at h;(·injection h with h;subst h;simp[GI]))
 cases h
theorem Di{t:Elem}{k:Int}(h:jO t k (GI k)=true):Place t.kind k t.bE.length (t.bE.length+1)/\(t.kind=7->∀u,t.bE.getLast?=some u->u.kind≠9):=by
 unfold jO at h;split at h
 ·rename_i h4;rw[aH]at h;refine⟨⟨fun _=>⟨h4,by omega⟩,fun hk=>by omega,fun a b c d=>by omega⟩,fun h7=>by omega⟩
 ·split at h
  ·rename_i h7;rw[aH]at h;obtain⟨h1,h2⟩:=h;exact⟨⟨fun hk=>by omega,fun _=>⟨h7,fun h9=>⟨by omega,rfl⟩⟩,fun a b c d=>by omega⟩,fun _=>h2⟩
  ·rename_i h4 h7;rw[aH]at h;unfold GI at h;split at h
   ·cases h
   ·split at h
    ·cases h
    ·exact⟨⟨fun hk=>by omega,fun hk=>by omega,fun _ _ _ _=>⟨h4,h7⟩⟩,fun h=>aX h h7⟩
def oC:List Level->Prop
 |[]=>False
 |[p]=>p.e.kind=0/\wL (tq 16) 0 p.e.bE
 |t::u::r=>(u::r).length<=16/\3<=t.e.kind/\t.e.kind<=11/\wL (tq (16-(u::r).length)) t.e.kind t.e.bE/\(t.e.kind=11->t.e.bE=[])/\
  jO u.e t.e.kind (GI t.e.kind)=true/\oC (u::r)
def uB(st:List Level):Prop:=∃t r,st=t::r/\∃u,t.e.bE.getLast?=some u/\u.kind=1
theorem oC.at7{t:Level}{r:List Level}(h:oC (t::r)):wL (tq (16-r.length)) t.e.kind t.e.bE:=by
 cases r with
 |nil=>
  obtain⟨h1,h2⟩:=h;rw[h1];exact h2
 |cons u r=>exact h.2.2.2.1
theorem oC.bE{t:Level}{r:List Level}{l:List Elem}(h:oC (t::r))(hn:wL (tq (16-r.length)) t.e.kind l)(Bk:t.e.kind=11->l=[]):oC (⟨t.e.dD l,t.name⟩::r):=by
 cases r with
 |nil=>
  obtain⟨h1,h2⟩:=h;rw[h1]at hn;exact⟨by simpa using h1,by simpa using hn⟩
 |cons u r=>
  obtain⟨h1,h2,h3,h4,h5,h6,h7⟩:=h;exact⟨h1,by simpa using h2,by simpa using h3,by simpa using hn,by simpa using Bk,by simpa using h6,h7⟩
theorem oC.put{t:Level}{r:List Level}{e:Elem}(h:oC (t::r))(hs:ZZ (tq (16-r.length)) e)(hf:Place t.e.kind e.kind t.e.bE.length (t.e.bE.length+1))
 (h9:t.e.kind=7->∀u,t.e.bE.getLast?=some u->u.kind≠9) (ht:e.kind=1->¬uB (t::r)):oC (kO (t::r) e):=by
 show oC (⟨oT t.e e,t.name⟩::r)
 unfold oT;split
 ·exact h
 ·rename_i Bk;refine h.bE (h.at7.snoc hs hf (fun hk u hu he=>ht hk ⟨t,r,rfl,u,hu,he⟩) h9) (fun h=>aX h Bk)
theorem yM{t:Level}{r:List Level}{e:Elem}(h0:t.e.kind=11->t.e.bE=[])(h:uB (kO (t::r) e)):e.kind=1:=by
 obtain⟨t',r',h1,u,h2,h3⟩:=h;unfold kO at h1;injection h1 with h1 _
 subst h1;unfold oT at h2;split at h2
 ·rename_i Bk;rw[h0 Bk]at h2;cases h2
 ·simp only[Elem.fP,List.getLast?_concat,Option.some.injEq]at h2;rw[h2];exact h3
theorem oC.rem{t:Level}{r:List Level}(h:oC (t::r)):t.e.kind=11->t.e.bE=[]:=by
 cases r with
 |nil=>exact fun e=>by have:=h.1;omega
 |cons u r=>exact h.2.2.2.2.1
theorem NS{kd:Int}{e e':Elem}{n v:Bt}(h:kC kd e n v=some e'):e'.kind=e.kind/\e'.bE=e.bE:=by
 unfold kC at h
 repeat' split at h
 all_goals first
  |(cases h;done)
  |(injection h with h;subst h;simp)
theorem qC{kd:Int}:∀{l seen:List bY} {e e':Elem},fv kd e seen l=some e'->e'.kind=e.kind/\e'.bE=e.bE
 |[],seen,e,e',h=>by
  injection h with h
  subst h;exact⟨rfl,rfl⟩
 |p::l,seen,e,e',h=>by
  unfold fv at h;split at h
  ·cases h
  ·split at h
   ·cases h
   ·rename_i e2 h2;obtain⟨h3,h4⟩:=NS h2;obtain⟨h5,h6⟩:=qC h;exact⟨h5.trans h3,h6.trans h4⟩
theorem NT{d:Nat}(h:0<d)(k:Int)(l:List Elem):tq d k l↔(k=4->l.length=2)/\(k=7->l.length≠0)/\wL (tq (d-1)) k l:=by
 obtain⟨d,rfl⟩:∃m,d=m+1:=⟨d-1,by omega⟩;simp only[tq,Nat.add_sub_cancel]
theorem FG{st:List Level}{t:bG}(h:oC st)(ht:t.kind=0->t.text≠[]/\¬uB st)(hk:t.kind=0\/t.kind=1\/t.kind=2\/t.kind=3)(he:(cD st t).2=0):
 oC (cD st t).1/\(uB (cD st t).1->t.kind=0):=by
 obtain⟨u,r,rfl⟩:∃u r,st=u::r:=by
  cases st with
  |nil=>exact aX h (by simp[oC])
  |cons u r=>exact⟨u,r,rfl⟩
 have au0:=h.rem;unfold cD at he|-;split at he
 ·rename_i nE;rw[ae nE];unfold fw at he|-;cases hq:eW t.text with
  |none=>rw[hq]at he;cases he
  |some q=>
   rw[hq]at he;simp only at he|-;split at he
   ·cases he
   ·rename_i cg;rw[aa cg];cases ha:fv q.kind (fi q.kind) [] t.bK with
    |none=>rw[ha]at he;cases he
    |some e=>
     rw[ha]at he;simp only at he|-;split at he
     ·cases he
     ·rename_i hnd;rw[aa hnd];split at he
      ·cases he
      ·rename_i hft;rw[aa hft];have hft:jO u.e q.kind q.ej=true:=by simpa using hft
       obtain⟨r1,r2⟩:=NR hq;rw[r1]at hft;obtain⟨k1,k2⟩:=qC ha;have k1:e.kind=q.kind:=k1;have k2:e.bE=[]:=k2;have fA:(gq q.kind e).kind=q.kind:=by unfold gq;simpa using k1
       have xh:(gq q.kind e).bE=[]:=by unfold gq;simpa using k2
       obtain⟨f1,f2⟩:=Di hft;split at he
       ·rename_i J7;rw[ae J7];have hqk:q.kind=2\/q.kind=12:=by
         rcases r2 with r2|r2
         ·exact r2.2
         ·rw[r2.1]at J7;cases J7
        refine⟨h.put ⟨by omega,by omega,fun _=>xh,fun hl=>aX (by unfold yL;omega) hl,fun h2=>?_,fun h1=>by omega⟩ (by rw[fA];exact f1) f2 (fun h1=>by omega),fun hl=>?_⟩
        ·have:kt q.kind e=true:=by simpa using hnd
         rw[fA]at h2;unfold kt at this;rw[ae (.inl h2),aH]at this;unfold gq
         simpa using this
        ·have:=yM au0 hl;omega
       ·rename_i J7;rw[aa J7];split at he
        ·cases he
        ·rename_i hdp;rw[aa hdp];have hqk:3<=q.kind/\q.kind<=11:=by
          rcases r2 with r2|r2
          ·exact aX r2.1 J7
          ·exact r2.2
         refine⟨⟨by omega,by show 3<=(gq q.kind e).kind;omega,by show(gq q.kind e).kind<=11;omega,?_,fun _=>xh,by show jO u.e (gq q.kind e).kind (GI (gq q.kind e).kind)=true;rw[fA];exact hft,h⟩,?_⟩
         ·show wL _ (gq q.kind e).kind (gq q.kind e).bE
          rw[xh];intro i hi;exact aX hi (by simp)
         ·rintro ⟨t',r',h1,x,h2,h3⟩;injection h1 with h1 _
          subst h1;have h2:(gq q.kind e).bE.getLast?=some x:=h2;rw[xh]at h2;cases h2
 ·rename_i nE;rw[aa nE];split at he
  ·rename_i fA;rw[ae fA];unfold jA at he|-;cases hq:eW t.text with
   |none=>rw[hq]at he;cases he
   |some q=>
    rw[hq]at he;simp only at he|-;split at he
    ·cases he
    ·rename_i cg;rw[aa cg];split at he
     ·cases he
     ·rename_i hc;rw[aa hc];obtain⟨v,r,rfl⟩:∃v r',r=v::r':=by
       cases r with
       |nil=>exact aX (.inl rfl) hc
       |cons v r=>exact⟨v,r,rfl⟩
      obtain⟨h1,h2,h3,h4,h5,h6,h7⟩:=h;obtain⟨f1,f2⟩:=Di h6;simp only[ak]at h1 h4;have hd:(v::r).length=r.length+1:=rfl;refine⟨h7.put ⟨by omega,by omega,?_,?_,fun e2=>by omega,fun e1=>by omega⟩ f1 f2 (fun h1=>by omega),fun hl=>?_⟩
      ·intro hl;unfold yL at hl;exact h5 (by omega)
      ·intro hl;rw[NT (by omega)];refine⟨fun e4=>bg fun hn=>hc (.inr (.inr (.inl ⟨e4,hn⟩))),fun e7 hn=>hc (.inr (.inr (.inr ⟨e7,hn⟩))),?_⟩;have e:16-r.length-1=16-(r.length+1):=by omega
       rw[e];exact h4
      ·have:=yM h7.rem hl;omega
  ·rename_i fA;rw[aa fA];have tW:t.kind=0:=by omega
   unfold mF at he|-;simp only at he|-;split at he
   ·rename_i PM;rw[ae PM];exact⟨h,fun _=>tW⟩
   ·rename_i PM;rw[aa PM];refine⟨h.put ⟨by simp[dH,Elem.kind],by simp[dH,Elem.kind],fun _=>rfl,fun hl=>aX (.inl rfl) hl,fun e=>by simp[dH,Elem.kind]at e,fun _=>(ht tW).1⟩ ?_ ?_ (fun _=>(ht tW).2),fun _=>tW⟩
    ·refine⟨fun e=>by simp[dH,Elem.kind]at e,fun e=>by simp[dH,Elem.kind]at e,fun _ _ _ _=>by omega⟩
    ·exact fun e=>aX (.inr e) PM
def lO:List bG->Prop
 |[]=>True
 |t::l=>(t.kind=0->t.text≠[]/\∀u,l.head?=some u->u.kind≠0)/\(t.kind=0\/t.kind=1\/t.kind=2\/t.kind=3)/\lO l
theorem tr:∀(l:List bG) (i:Nat) (st:List Level),oC st->lO l->(uB st->∀u,l.head?=some u->u.kind≠0)->(bO i st l).2=0->oC (bO i st l).1
 |[],i,st,h,_,_,_=>h
 |t::l,i,st,h,hj,bW,he=>by
  unfold bO at he|-;split at he
  ·cases he
  ·rename_i h4;rw[aa h4];split at he
   ·rename_i db;exact aX he db
   ·rename_i db;rw[aa db];have db:(cD st t).2=0:=bg db;obtain⟨j1,j2,j3⟩:=hj;obtain⟨s1,s2⟩:=FG h (fun h0=>⟨(j1 h0).1,fun hl=>bW hl t rfl h0⟩) j2 db;exact tr l (i+1) _ s1 j3 (fun hl=>(j1 (s2 hl)).2) he
theorem uC{l:List bG}{t:bG}(h:lO l)(h0:t.kind=0->t.text≠[]/\∀u,l.getLast?=some u->u.kind≠0)(hk:t.kind=0\/t.kind=1\/t.kind=2\/t.kind=3):lO (l++[t]):=by
 induction l with
 |nil=>exact⟨fun e=>⟨(h0 e).1,by simp⟩,hk,trivial⟩
 |cons x l ih=>
  obtain⟨h1,h2,h3⟩:=h;refine⟨fun e=>⟨(h1 e).1,?_⟩,h2,ih h3 (fun e=>⟨(h0 e).1,fun u hu=>?_⟩)⟩
  ·intro u hu;cases l with
   |nil=>
    have hu:t=u:=ar hu;subst hu;exact fun tW=>(h0 tW).2 x rfl e
   |cons y l=>exact(h1 e).2 u (by simpa using hu)
  ·refine(h0 e).2 u ?_;cases l with
   |nil=>cases hu
   |cons y l=>rw[List.getLast?_cons_cons];exact hu
theorem K8{l:List bG}{u u':bG}(h:lO (l++[u]))(hk:u'.kind=0)(hk':u.kind=0)(ht:u'.text≠[]):lO (l++[u']):=by
 induction l with
 |nil=>exact⟨fun _=>⟨ht,by simp⟩,.inl hk,trivial⟩
 |cons x l ih=>
  obtain⟨h1,h2,h3⟩:=h;refine⟨fun e=>⟨(h1 e).1,?_⟩,h2,ih h3⟩;intro v hv;cases l with
  |nil=>
   exact aX hk' ((h1 e).2 u (by simp))
  |cons y l=>exact(h1 e).2 v (by simpa using hv)
theorem Ce{o:List bG}{t:bG}(h:lO o)(hk:t.kind=0\/t.kind=1\/t.kind=2\/t.kind=3):lO (bV o t):=by
 unfold bV;split
 ·rename_i h0;exact uC h (fun e=>aX e h0) hk
 ·split
  ·exact h
  ·rename_i h0 h1;rcases List.eq_nil_or_concat o with rfl|⟨l,u,rfl⟩
   ·exact uC h (fun e=>⟨h1,by simp⟩) hk
   ·rw[List.concat_eq_append]at h|-;simp only[List.getLast?_append,List.getLast?_singleton,Option.some_or];split
    ·rename_i hu;rw[List.dropLast_concat];exact K8 h hu hu (by simp[h1])
    ·rename_i hu;refine uC h (fun e=>⟨h1,fun v hv=>?_⟩) hk;simp only[List.getLast?_append,List.getLast?_singleton,Option.some_or,Option.some.injEq]at hv;subst hv;exact hu
theorem sL:∀(l o:List bG),lO o->(∀t∈l,t.kind=0\/t.kind=1\/t.kind=2\/t.kind=3)->lO (l.foldl bV o)
 |[],o,h,_=>h
 |t::l,o,h,hk=>sL l _ (Ce h (hk t (by simp))) (fun x hx=>hk x (by simp[hx]))
theorem K9(t:bG):(dE t).kind=0\/(dE t).kind=1\/(dE t).kind=2\/(dE t).kind=3:=by
 unfold dE;split
 ·rename_i h;exact .inr h
 ·exact .inl rfl
theorem Dj(l:List bG):lO (ed l):=by
 refine sL _ [] trivial fun t ht=>?_;obtain⟨x,-,rfl⟩:=List.mem_map.1 ht;exact K9 x
theorem I3(l:List bG):((iO l).2=0->tq 17 0 (iO l).1)/\((iO l).2≠0->(iO l).1=[]):=by
 have hu:iO l=if(bO 0 [dN] (ed l)).2≠0 then([],(bO 0 [dN] (ed l)).2)else match(bO 0 [dN] (ed l)).1 with
  |[p]=>(p.e.bE,0)
  |_=>([],42):=rfl
 rw[hu];split
 ·rename_i db;exact⟨fun h=>aX h db,fun _=>rfl⟩
 ·rename_i db;have db:(bO 0 [dN] (ed l)).2=0:=bg db;have h:=tr (ed l) 0 [dN] ⟨rfl,fun i hi=>aX hi (by simp[dN,fi,Elem.bE])⟩ (Dj l) (by
   rintro ⟨t,r,h1,u,h2,_⟩;injection h1 with h1 _
   subst h1;cases h2) db
  split
  ·rename_i p hp;rw[hp]at h;exact⟨fun _=>⟨fun e=>aX e (by decide),fun e=>aX e (by decide),h.2⟩,fun e=>aX rfl e⟩
  ·exact⟨fun e=>aX e (by decide),fun _=>rfl⟩
theorem La(s:Bt):((cM s).2=0->tq 17 0 (cM s).1)/\((cM s).2≠0->(cM s).1=[]):=by
 unfold cM;split
 ·rename_i h;exact⟨fun e=>aX e h,fun _=>rfl⟩
 ·exact I3 _
end Go.Proofs.YtejafaaihodehaaGreatDoor
