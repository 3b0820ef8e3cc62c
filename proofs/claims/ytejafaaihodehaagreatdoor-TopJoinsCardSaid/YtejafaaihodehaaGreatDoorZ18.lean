/- Part 18. -/
import Derived.Test.YtejafaaihodehaaGreatDoorZ07
import Derived.Deep.CutRange
set_option linter.all false
set_option maxRecDepth 100000
set_option maxHeartbeats 8000000
namespace Go.Proofs.YtejafaaihodehaaGreatDoor
open Go Go.RowKit Tryz
def dM(s:Bt):Int:=match eW s with|some q=>q.kind|none=>0
def iV:List bY->Bt->Option Bt
 |[],_=>none
 |p::l,n=>if p.name=n then some p.value else iV l n
def js(l:List bY)(n:Bt):Bt:=(iV l n).getD []
def jH(l:List bY)(n:Bt):Bool:=(iV l n).isSome
def lh:List bY->List bY->Bool
 |_,[]=>true
 |seen,p::l=>!seen.any (fun x=>x.name==p.name)&&lh (seen++[p]) l
def lj(ns:List Bt):List bY->List bY->Bool
 |_,[]=>true
 |seen,p::l=>(ns.any (fun n=>p.name==n)&&!seen.any (fun x=>x.name==p.name))&&lj ns (seen++[p]) l
def gV(t:bG):Elem × Bool:=
 if dM t.text=2 then
  (.mk 2 [] (js t.bK kq) (js t.bK kN) (jH t.bK cQ) [] [],decide (js t.bK kq≠[])&&(!jH t.bK cQ||decide (js t.bK cQ=iJ))&&lj [kq,kN,cQ] [] t.bK)
 else if dM t.text=3 then
  (.mk 3 [] (js t.bK fY) [] false [] [],decide (js t.bK fY≠[])&&(!jH t.bK cq||decide (js t.bK cq=yB)||decide (js t.bK cq=QK))&&lj [fY,cq] [] t.bK)
 else if dM t.text=12 then
  (.mk 12 (js t.bK jM) [] [] false [] [],jH t.bK jM&&lj [jM] [] t.bK)
 else if dM t.text=8 then
  (.mk 8 [] [] [] false (js t.bK jN) [],jH t.bK jN&&lj [jN] [] t.bK)
 else(fi (dM t.text),decide (t.bK.length=0))
theorem sj(ns:List Bt):∀(l seen:List bY),lj ns seen l=(l.all (fun p=>ns.any (fun n=>p.name==n))&&lh seen l)
 |[],seen=>rfl
 |p::l,seen=>by
  rw[lj,lh,List.all_cons,sj ns l];cases ns.any (fun n=>p.name==n)<;>cases seen.any (fun x=>x.name==p.name)<;>cases l.all (fun p=>ns.any (fun n=>p.name==n))<;>cases lh (seen++[p]) l<;>rfl
theorem pG:∀{l seen:List bY} {n:Bt},lh seen l=true->seen.any (fun x=>x.name==n)=true->iV l n=none
 |[],seen,n,_,_=>rfl
 |p::l,seen,n,h,hs=>by
  rw[lh,aG,Bool.not_eq_true']at h;have hp:¬p.name=n:=fun e=>by rw[<-e,h.1]at hs;cases hs
  rw[iV,aa hp];exact pG h.2 (by rw[bf,hs,Bool.true_or])
theorem AV:∀{l seen:List bY} {p:bY},lh seen l=true->p∈l->iV l p.name=some p.value
 |q::l,seen,p,h,hp=>by
  rw[lh,aG,Bool.not_eq_true']at h;rw[iV];rcases List.mem_cons.1 hp with rfl|hp
  ·rw[ae rfl]
  ·have h1:=AV h.2 hp;by_cases e:q.name=p.name
   ·have h2:=pG (n:=p.name) h.2 (by rw[bf];simp[e]);rw[h2]at h1;cases h1
   ·rw[aa e];exact h1
def yd(kd:Int)(p:bY):Bool:=
 if kd=2 then(p.name==kq&&decide (p.value≠[]))||p.name==kN||(p.name==cQ&&p.value==iJ)
 else if kd=3 then(p.name==fY&&decide (p.value≠[]))||(p.name==cq&&(p.value==yB||p.value==QK))
 else if kd=12 then p.name==jM
 else if kd=8 then p.name==jN
 else false
def rp(kd:Int)(e:Elem)(p:bY):Elem:=
 if kd=2 then(if p.name=kq then e.pQ p.value else if p.name=kN then e.xv p.value else e.fF true)
 else if kd=3 then(if p.name=fY then e.pQ p.value else e)
 else if kd=12 then(e.sB p.value).fF true
 else(e.sC p.value).fF true
theorem XQ(kd:Int)(e:Elem)(p:bY):kC kd e p.name p.value=if yd kd p then some (rp kd e p)else none:=by
 unfold kC yd rp;have d1:kN≠kq:=by decide
 have d2:cQ≠kq:=by decide
 have d3:cQ≠kN:=by decide
 have d4:cq≠fY:=by decide
 by_cases h2:kd=2
 ·simp only[ae h2];by_cases n1:p.name=kq
  ·by_cases v:p.value=[]<;>simp[n1,v,d1.symm,d2.symm]
  ·by_cases n2:p.name=kN
   ·simp[n2,d1]
   ·by_cases n3:p.name=cQ
    ·by_cases v:p.value=iJ<;>simp[n3,v,d2,d3]
    ·simp[n1,n2,n3]
 ·simp only[aa h2];by_cases h3:kd=3
  ·simp only[ae h3];by_cases n1:p.name=fY
   ·by_cases v:p.value=[]<;>simp[n1,v,d4.symm]
   ·by_cases n2:p.name=cq
    ·by_cases v:p.value=yB
     ·simp[n2,v,d4]
     ·by_cases v2:p.value=QK<;>simp[n2,v,v2,d4]
    ·simp[n1,n2]
  ·simp only[aa h3];by_cases h4:kd=12
   ·simp only[ae h4];by_cases n:p.name=jM<;>simp[n]
   ·simp only[aa h4];by_cases h5:kd=8
    ·simp only[ae h5];by_cases n:p.name=jN<;>simp[n]
    ·simp[aa h5]
theorem EP(kd:Int):∀(l seen:List bY) (e:Elem),fv kd e seen l=if lh seen l&&l.all (yd kd)then some (l.foldl (rp kd) e)else none
 |[],seen,e=>rfl
 |p::l,seen,e=>by
  rw[fv,XQ,lh,List.all_cons,List.foldl_cons];cases seen.any (fun x=>x.name==p.name)
  ·cases h:yd kd p
   ·simp
   ·simp only[if_true,EP kd l];simp
  ·simp
theorem pH(p:bY)(l:List bY)(n:Bt):iV (p::l) n=if p.name=n then some p.value else iV l n:=rfl
theorem Qr:∀(l seen:List bY) (t s a:Bt) (b:Bool) (u:Bt),lh seen l=true->l.all (yd 2)=true->
 l.foldl (rp 2) (.mk 2 t s a b u [])=.mk 2 t ((iV l kq).getD s) ((iV l kN).getD a) (b||jH l cQ) u []
 |[],seen,t,s,a,b,u,_,_=>by simp[iV,jH]
 |p::l,seen,t,s,a,b,u,h,ho=>by
  rw[lh,aG]at h;rw[List.all_cons,aG]at ho;have hn:=pG (n:=p.name) h.2 (by rw[bf];simp);have d1:kN≠kq:=by decide
  have d2:cQ≠kq:=by decide
  have d3:cQ≠kN:=by decide
  rw[List.foldl_cons];have hk:p.name=kq\/p.name=kN\/p.name=cQ:=by
   have:=ho.1;simp only[yd,if_true,bA,aG,beq_iff_eq]at this;rcases this with(⟨h,_⟩|h)|⟨h,_⟩
   ·exact .inl h
   ·exact .inr (.inl h)
   ·exact .inr (.inr h)
  rcases hk with e|e|e
  ·rw[show rp 2 (.mk 2 t s a b u []) p=.mk 2 t p.value a b u [] by simp[rp,e,Elem.pQ],Qr l _ t p.value a b u h.2 ho.2];rw[e]at hn;simp[jH,pH,e,hn,d1.symm,d2.symm]
  ·rw[show rp 2 (.mk 2 t s a b u []) p=.mk 2 t s p.value b u [] by simp[rp,e,Elem.xv,d1],Qr l _ t s p.value b u h.2 ho.2];rw[e]at hn;simp[jH,pH,e,hn,d1,d3.symm]
  ·rw[show rp 2 (.mk 2 t s a b u []) p=.mk 2 t s a true u [] by simp[rp,e,Elem.fF,d2,d3],Qr l _ t s a true u h.2 ho.2];simp[jH,pH,e,d2,d3]
theorem Vp:∀(l seen:List bY) (t s a:Bt) (b:Bool) (u:Bt),lh seen l=true->l.all (yd 3)=true->
 l.foldl (rp 3) (.mk 3 t s a b u [])=.mk 3 t ((iV l fY).getD s) a b u []
 |[],seen,t,s,a,b,u,_,_=>by simp[iV]
 |p::l,seen,t,s,a,b,u,h,ho=>by
  rw[lh,aG]at h;rw[List.all_cons,aG]at ho;have hn:=pG (n:=p.name) h.2 (by rw[bf];simp);rw[List.foldl_cons];by_cases e:p.name=fY
  ·rw[show rp 3 (.mk 3 t s a b u []) p=.mk 3 t p.value a b u [] by simp[rp,e,Elem.pQ],Vp l _ t p.value a b u h.2 ho.2];rw[e]at hn;simp[pH,e,hn]
  ·rw[show rp 3 (.mk 3 t s a b u []) p=.mk 3 t s a b u [] by simp[rp,e],Vp l _ t s a b u h.2 ho.2];simp[pH,e]
theorem Vq:∀(l seen:List bY) (t s a:Bt) (b:Bool) (u:Bt),lh seen l=true->l.all (yd 12)=true->
 l.foldl (rp 12) (.mk 12 t s a b u [])=.mk 12 ((iV l jM).getD t) s a (b||jH l jM) u []
 |[],seen,t,s,a,b,u,_,_=>by simp[iV,jH]
 |p::l,seen,t,s,a,b,u,h,ho=>by
  rw[lh,aG]at h;rw[List.all_cons,aG]at ho;have hn:=pG (n:=p.name) h.2 (by rw[bf];simp);have e:p.name=jM:=by simpa[yd]using ho.1
  rw[List.foldl_cons,show rp 12 (.mk 12 t s a b u []) p=.mk 12 p.value s a true u [] by simp[rp,Elem.sB,Elem.fF],Vq l _ p.value s a true u h.2 ho.2];rw[e]at hn;simp[jH,pH,e,hn]
theorem Zd:∀(l seen:List bY) (t s a:Bt) (b:Bool) (u:Bt),lh seen l=true->l.all (yd 8)=true->
 l.foldl (rp 8) (.mk 8 t s a b u [])=.mk 8 t s a (b||jH l jN) ((iV l jN).getD u) []
 |[],seen,t,s,a,b,u,_,_=>by simp[iV,jH]
 |p::l,seen,t,s,a,b,u,h,ho=>by
  rw[lh,aG]at h;rw[List.all_cons,aG]at ho;have hn:=pG (n:=p.name) h.2 (by rw[bf];simp);have e:p.name=jN:=by simpa[yd]using ho.1
  rw[List.foldl_cons,show rp 8 (.mk 8 t s a b u []) p=.mk 8 t s a true p.value [] by simp[rp,Elem.sC,Elem.fF],Zd l _ t s a true p.value h.2 ho.2];rw[e]at hn;simp[jH,pH,e,hn]
def JU(kd:Int)(l:List bY):Option Elem:=
 match fv kd (fi kd) [] l with
 |none=>none
 |some e=>if kt kd e=false then none else some (gq kd e)
theorem ER:∀{l:List bY} {n v:Bt},iV l n=some v->∃p∈l,p.name=n/\p.value=v
 |p::l,n,v,h=>by
  rw[iV]at h;split at h
  ·rename_i e;exact⟨p,List.mem_cons_self,e,by injection h⟩
  ·obtain⟨q,hq,h1⟩:=ER h;exact⟨q,List.mem_cons_of_mem _ hq,h1⟩
theorem St(t:bG):JU (dM t.text) t.bK=if(gV t).2=true then some (gV t).1 else none:=by
 unfold JU gV;rw[EP];have d1:kN≠kq:=by decide
 have d2:cQ≠kq:=by decide
 have d3:cQ≠kN:=by decide
 have d4:cq≠fY:=by decide
 have d5:yB≠QK:=by decide
 generalize dM t.text=kd;obtain⟨tk,tx,l⟩:=t;simp only;by_cases h2:kd=2
 ·subst h2;simp only[if_true,sj];cases hd:lh [] l with
  |false=>simp
  |true=>
   cases ho:l.all (yd 2)with
   |true=>
    have kF:l.all (fun p=>[kq,kN,cQ].any (fun n=>p.name==n))=true:=by
     rw[List.all_eq_true]at ho|-;intro p hp;have:=ho p hp;simp only[yd,if_true,bA,aG,beq_iff_eq]at this;simp only[List.any_cons,List.any_nil,Bool.or_false,bA,beq_iff_eq];rcases this with(⟨h,_⟩|h)|⟨h,_⟩
     ·exact .inl h
     ·exact .inr (.inl h)
     ·exact .inr (.inr h)
    have XR:(!jH l cQ||decide (js l cQ=iJ))=true:=by
     cases hf:iV l cQ with
     |none=>simp[jH,hf]
     |some v=>
      obtain⟨p,hp,hn,hv⟩:=ER hf;have:=List.all_eq_true.1 ho p hp;simp only[yd,if_true,hn,bA,aG,beq_iff_eq,d2,d3,false_and,false_or,true_and]at this;simp[jH,js,hf,<-hv,this]
    rw[kF,XR];simp only[Bool.and_self,Bool.and_true,if_true];unfold fi;rw[Qr l [] [] [] [] false [] hd ho];by_cases hs:(iV l kq).getD []=[]<;>simp[kt,Elem.src,hs,js,gq,Elem.fF,Elem.fp]
   |false=>
    simp only[Bool.and_false,Bool.and_true,if_false,Bool.false_eq_true]
    symm
    rw[aa];intro h;simp only[aG,aH,bA,Bool.not_eq_true']at h;obtain⟨⟨hs,XR⟩,kF⟩:=h;rw[<-Bool.not_eq_true]at ho;apply ho;rw[List.all_eq_true]at kF|-;intro p hp;have hf:=AV hd hp;have:=kF p hp;simp only[List.any_cons,List.any_nil,Bool.or_false,bA,beq_iff_eq]at this;rcases this with e|e|e
    ·rw[e]at hf;simp only[js,hf,Option.getD_some]at hs;simp[yd,e,hs]
    ·simp[yd,e]
    ·rw[e]at hf;simp only[jH,js,hf,Option.isSome_some,Option.getD_some,Bool.true_eq_false,false_or]at XR;simp[yd,e,XR]
 ·by_cases h3:kd=3
  ·subst h3;simp only[aa h2,if_true,sj];cases hd:lh [] l with
   |false=>simp
   |true=>
    cases ho:l.all (yd 3)with
    |true=>
     have kF:l.all (fun p=>[fY,cq].any (fun n=>p.name==n))=true:=by
      rw[List.all_eq_true]at ho|-;intro p hp;have:=ho p hp;simp only[yd,aa h2,if_true,bA,aG,beq_iff_eq]at this;simp only[List.any_cons,List.any_nil,Bool.or_false,bA,beq_iff_eq];rcases this with⟨h,_⟩|⟨h,_⟩
      ·exact .inl h
      ·exact .inr h
     have XR:(!jH l cq||decide (js l cq=yB)||decide (js l cq=QK))=true:=by
      cases hf:iV l cq with
      |none=>simp[jH,hf]
      |some v=>
       obtain⟨p,hp,hn,hv⟩:=ER hf;have:=List.all_eq_true.1 ho p hp;simp only[yd,aa h2,if_true,hn,bA,aG,beq_iff_eq,d4,false_and,false_or,true_and]at this;simp only[jH,js,hf,<-hv,Option.isSome_some,Option.getD_some,Bool.not_true,Bool.false_or,bA,aH];exact this
     rw[kF,XR];simp only[Bool.and_self,Bool.and_true,if_true];unfold fi;rw[Vp l [] [] [] [] false [] hd ho];by_cases hs:(iV l fY).getD []=[]<;>simp[kt,Elem.src,hs,js,gq,Elem.fF,Elem.fp]
    |false=>
     simp only[Bool.and_false,Bool.and_true,if_false,Bool.false_eq_true]
     symm
     rw[aa];intro h;simp only[aG,aH,bA,Bool.not_eq_true']at h;obtain⟨⟨hs,XR⟩,kF⟩:=h;rw[<-Bool.not_eq_true]at ho;apply ho;rw[List.all_eq_true]at kF|-;intro p hp;have hf:=AV hd hp;have:=kF p hp;simp only[List.any_cons,List.any_nil,Bool.or_false,bA,beq_iff_eq]at this;rcases this with e|e
     ·rw[e]at hf;simp only[js,hf,Option.getD_some]at hs;simp[yd,e,hs]
     ·rw[e]at hf;simp only[jH,js,hf,Option.isSome_some,Option.getD_some,Bool.true_eq_false,false_or]at XR;simp only[yd,aa h2,if_true,e,beq_self_eq_true,Bool.true_and,bA,beq_iff_eq];exact .inr XR
  ·by_cases II:kd=12
   ·subst II;simp only[aa h2,aa h3,if_true,sj];cases hd:lh [] l with
    |false=>simp
    |true=>
     have kF:l.all (fun p=>[jM].any (fun n=>p.name==n))=l.all (yd 12):=by
      congr 1;funext p;simp[yd]
     rw[kF];cases ho:l.all (yd 12)with
     |true=>
      simp only[Bool.and_self,Bool.and_true,if_true];unfold fi;rw[Vq l [] [] [] [] false [] hd ho];cases hh:jH l jM<;>simp[kt,Elem.fp,js,gq,Elem.fF,hh]
     |false=>simp
   ·by_cases h8:kd=8
    ·subst h8;simp only[aa h2,aa h3,aa II,if_true,sj];cases hd:lh [] l with
     |false=>simp
     |true=>
      have kF:l.all (fun p=>[jN].any (fun n=>p.name==n))=l.all (yd 8):=by
       congr 1;funext p;simp[yd]
      rw[kF];cases ho:l.all (yd 8)with
      |true=>
       simp only[Bool.and_self,Bool.and_true,if_true];unfold fi;rw[Zd l [] [] [] [] false [] hd ho];cases hh:jH l jN<;>simp[kt,Elem.fp,js,gq,Elem.fF,hh]
      |false=>simp
    ·simp only[aa h2,aa h3,aa II,aa h8];cases l with
     |nil=>simp[lh,kt,h2,h3,II,h8,fi,gq,Elem.fF,Elem.fp]
     |cons p l=>
      have:yd kd p=false:=by simp[yd,h2,h3,II,h8]
      simp[this]
def AW(ej:Int)(before:List Elem)(k:Int):Bool:=
 if ej=4 then decide (k=5/\before.length=0\/k=6/\before.length=1)
 else if ej=7 then decide ((∀u,before.getLast?=some u->u.kind≠9)/\(k=8\/k=9/\0<before.length))
 else decide (k≠5/\k≠6/\k≠8/\k≠9)
def o9(k:Int):Bool:=decide (k=2\/k=12)
def Ib(t:bG)(ej:Int)(name:Bt)(l:List Elem):Int:=
 if dM t.text=0\/dM t.text=2\/dM t.text=12 then 40
 else if t.text≠name\/ej=4/\l.length≠2\/ej=7/\l.length=0 then 42 else 0
def mx(sub:Int->Bt->Nat->List Elem × Int × Nat)(room:Bool)(t:bG)(ej:Int)(out:List Elem)(i:Nat):Elem × Int × Nat:=
 if dM t.text=0\/o9 (dM t.text)≠decide (t.kind=3)then((gV t).1,40,i)
 else if(gV t).2=false then((gV t).1,41,i)
 else if AW ej out (dM t.text)=false then((gV t).1,42,i)
 else if o9 (dM t.text)=true then((gV t).1,0,i)
 else if room=false then((gV t).1,5,i)
 else((gV t).1.dD (if dM t.text=11 then[]else(sub (dM t.text) t.text i).1),(sub (dM t.text) t.text i).2.1,(sub (dM t.text) t.text i).2.2)
def lJ(sub:Int->Bt->Nat->List Elem × Int × Nat)(room:Bool)(l:List bG)(ej:Int)(name:Bt):Nat->Nat->List Elem->List Elem × Int × Nat
 |0,i,out=>(out,if name≠[]then 42 else 0,i)
 |n+1,i,out=>
  match l[i]? with
  |none=>(out,if name≠[]then 42 else 0,i)
  |some t=>
   if 400<=i then(out,4,i)
   else if t.kind=2 then(out,Ib t ej name out,i+1)
   else if t.kind=1\/t.kind=3 then
    (if(mx sub room t ej out (i+1)).2.1=0 then lJ sub room l ej name n (mx sub room t ej out (i+1)).2.2 (out++[(mx sub room t ej out (i+1)).1])
     else(out++[(mx sub room t ej out (i+1)).1],(mx sub room t ej out (i+1)).2.1,(mx sub room t ej out (i+1)).2.2))
   else if ej=4\/ej=7 then(if t.text.all cV then lJ sub room l ej name n (i+1) out else(out,42,i+1))
   else lJ sub room l ej name n (i+1) (out++[dH t.text])
def mh(l:List bG):Nat->Int->Bt->Nat->List Elem × Int × Nat
 |0,ej,name,i=>lJ (fun _ _ i=>([],0,i)) false l ej name (l.length+1) i []
 |d+1,ej,name,i=>lJ (mh l d) true l ej name (l.length+1) i []
def qk(l:List bG):List Elem × Int:=
 let z:=mh (ed l) 16 0 [] 0
 if z.2.1≠0 then([],z.2.1)else(z.1,0)
def xc(s:Bt):List Elem × Int:=if(gH s).2≠0 then([],(gH s).2)else qk (gH s).1
theorem wg(s:Bt):(dM s=0↔eW s=none)/\∀q,eW s=some q->dM s=q.kind/\q.alone=o9 q.kind/\(q.ej=0↔q.kind≠5/\q.kind≠6/\q.kind≠8/\q.kind≠9)/\s≠[]:=by
 unfold dM;have key:∀q,eW s=some q->q.kind≠0/\q.alone=o9 q.kind/\(q.ej=0↔q.kind≠5/\q.kind≠6/\q.kind≠8/\q.kind≠9)/\s≠[]:=by
  intro q hq;unfold eW at hq
  repeat' split at hq
  all_goals first
   |(cases hq;done)
   |(injection hq with hq;subst hq;exact⟨by decide,by decide,by decide,fun hs=>by subst hs;rename_i h;exact aX h (by decide)⟩)
 cases h:eW s with
 |none=>exact⟨⟨fun _=>rfl,fun _=>rfl⟩,fun q hq=>by cases hq⟩
 |some q=>
  obtain⟨k1,k2,k3,k4⟩:=key q h;exact⟨⟨fun e=>aX e k1,fun e=>by cases e⟩,fun q' hq=>by injection hq with hq;subst hq;exact⟨rfl,k2,k3,k4⟩⟩
def Bad(z:List Level × Int):Prop:=z.2≠0\/z.1.length≠1
def xd(ej:Int)(out:List Elem):List Elem:=if ej=11 then[]else out
def oL(e:Elem)(name:Bt)(out:List Elem):Level:=⟨e.dD (xd e.kind out),name⟩
theorem JV(e x:Elem)(name:Bt)(out:List Elem)(r:List Level):kO (oL e name out::r) x=oL e name (out++[x])::r:=by
 obtain⟨k,t,s,a,b,u,l⟩:=e;unfold kO oT oL xd;by_cases h:k=11<;>simp[h,Elem.kind,Elem.dD,Elem.bE]
theorem Vr(e:Elem)(out:List Elem)(q:Ca)(hq:q.ej=0↔q.kind≠5/\q.kind≠6/\q.kind≠8/\q.kind≠9):
 jO (e.dD (xd e.kind out)) q.kind q.ej=AW e.kind out q.kind:=by
 unfold jO AW xd;by_cases h4:e.kind=4
 ·simp[h4]
 ·by_cases h7:e.kind=7
  ·simp[h7,and_comm]
  ·simp only[Elem.jU,aa h4,aa h7,hq]
def AX(l:List bG)(e:Elem)(name:Bt)(r:List Level)(i:Nat)(out:List Elem)(z:List Elem × Int × Nat):Prop:=
 (z.2.1=0->name≠[]->bO i (oL e name out::r) (l.drop i)=bO z.2.2 (kO r (e.dD (xd e.kind z.1))) (l.drop z.2.2))/\
 (z.2.1=0->name=[]->bO i (oL e name out::r) (l.drop i)=([oL e name z.1],0))/\
 (z.2.1≠0->Bad (bO i (oL e name out::r) (l.drop i)))/\i<=z.2.2
theorem drop_at{l:List bG}{i:Nat}{t:bG}(h:l[i]?=some t):l.drop i=t::l.drop (i+1):=by
 obtain⟨hi,rfl⟩:=List.getElem?_eq_some_iff.1 h;exact aE hi
theorem MF{l:List bG}{e:Elem}{name:Bt}{r:List Level}{i:Nat}{out:List Elem}(h0:l.drop i=[])(hr:name=[]↔r=[]):
 AX l e name r i out (out,if name≠[]then 42 else 0,i):=by
 by_cases hn:name=[]
 ·rw[aa (fun h=>h hn)];refine⟨fun _ h=>aX hn h,fun _ _=>?_,fun h=>aX rfl h,dv _⟩;rw[h0,bO,hr.1 hn]
 ·rw[ae hn];refine⟨fun h=>(by cases h),fun h=>(by cases h),fun _=>?_,dv _⟩;rw[h0,bO];refine .inr ?_;have:0<r.length:=List.length_pos_iff.2 (fun h=>hn (hr.2 h));simp only[ak];omega
theorem pI(sub:Int->Bt->Nat->List Elem × Int × Nat)(l:List bG)(d:Nat)
 (yO:∀(e:Elem) (name:Bt) (r:List Level) (i:Nat),name≠[]->r≠[]->r.length+d=17->0<d->e.bE=[]->AX l e name r i [] (sub e.kind name i))
 (e:Elem) (name:Bt) (r:List Level) (hr:name=[]↔r=[]) (hd:r.length+d=16):
 ∀(n i:Nat) (out:List Elem),l.length<n+i->AX l e name r i out (lJ sub (decide (0<d)) l e.kind name n i out)
 |0,i,out,h=>by
  rw[lJ];exact MF (List.drop_eq_nil_of_le (by omega)) hr
 |n+1,i,out,h=>by
  rw[lJ];cases ht:l[i]? with
  |none=>exact MF (List.drop_eq_nil_of_le (List.getElem?_eq_none_iff.1 ht)) hr
  |some t=>
   have GB:=drop_at ht;have fH:i<l.length:=(List.getElem?_eq_some_iff.1 ht).1;simp only;by_cases h4:400<=i
   ·rw[ae h4];refine⟨fun h=>(by cases h),fun h=>(by cases h),fun _=>?_,dv _⟩;rw[GB,bO,ae h4];exact .inl (show(4:Int)≠0 by decide)
   ·rw[aa h4];by_cases fA:t.kind=2
    ·rw[ae fA];have hT:cD (oL e name out::r) t=jA (oL e name out::r) t:=by
      unfold cD;rw[aa (by rw[fA];decide),ae fA]
     have hC:jA (oL e name out::r) t=if Ib t e.kind name out=0 then(kO r (e.dD (xd e.kind out)),0)else(oL e name out::r,Ib t e.kind name out):=by
      unfold jA Ib;obtain⟨k1,k2⟩:=wg t.text;cases hq:eW t.text with
      |none=>simp only[k1.2 hq,true_or,if_true];rfl
      |some q=>
       obtain⟨q1,q2,q3,q4⟩:=k2 q hq;have q0:¬dM t.text=0:=fun h=>by rw[k1.1 h]at hq;cases hq
       simp only;by_cases ha:q.alone=true
       ·have:dM t.text=0\/dM t.text=2\/dM t.text=12:=by
         rw[q2,o9,aH]at ha;rw[q1];exact .inr ha
        rw[ae ha,ae this];rfl
       ·have:¬(dM t.text=0\/dM t.text=2\/dM t.text=12):=by
         rw[q2,o9,aH]at ha;rw[q1]at q0|-;exact fun h=>h.elim q0 ha
        rw[aa ha,aa this];have KB:(r=[]\/(oL e name out).name≠t.text\/(oL e name out).e.kind=4/\(oL e name out).e.bE.length≠2\/(oL e name out).e.kind=7/\(oL e name out).e.bE.length=0)↔
         (t.text≠name\/e.kind=4/\out.length≠2\/e.kind=7/\out.length=0):=by
         simp only[oL,Elem.jU,Elem.fP,xd];constructor
         ·rintro (h|h|⟨h,h2⟩|⟨h,h2⟩)
          ·exact .inl (by rw[hr.2 h];exact q4)
          ·exact .inl (fun e=>h e.symm)
          ·exact .inr (.inl ⟨h,by rw[h]at h2;simpa using h2⟩)
          ·exact .inr (.inr ⟨h,by rw[h]at h2;simpa using h2⟩)
         ·rintro (h|⟨h,h2⟩|⟨h,h2⟩)
          ·exact .inr (.inl (fun e=>h e.symm))
          ·exact .inr (.inr (.inl ⟨h,by rw[h];simpa using h2⟩))
          ·exact .inr (.inr (.inr ⟨h,by rw[h];simpa using h2⟩))
        by_cases hc:t.text≠name\/e.kind=4/\out.length≠2\/e.kind=7/\out.length=0
        ·rw[ae (KB.2 hc),ae hc];rfl
        ·rw[aa (fun h=>hc (KB.1 h)),aa hc];rfl
     have IP:Ib t e.kind name out=0->name≠[]:=by
      intro h hn;unfold Ib at h;split at h
      ·cases h
      ·rename_i h1;split at h
       ·cases h
       ·rename_i h2;refine h2 (.inl ?_);rw[hn];cases hq:eW t.text with
        |none=>exact aX (.inl ((wg t.text).1.2 hq)) h1
        |some q=>exact((wg t.text).2 q hq).2.2.2
     refine⟨fun h _=>?_,fun h hn=>aX hn (IP h),fun h=>?_,aY _⟩
     ·simp only at h|-;rw[GB,bO,aa h4,hT,hC,ae h,aa (by simp)]
     ·simp only at h;rw[GB,bO,aa h4,hT,hC,aa h,ae h];exact .inl h
    ·rw[aa fA];by_cases nE:t.kind=1\/t.kind=3
     ·rw[ae nE];have hT:cD (oL e name out::r) t=fw (oL e name out::r) t:=by
       unfold cD;rw[ae nE]
      obtain⟨k1,k2⟩:=wg t.text;have so:=St t;have bad:∀(x:Elem) (err:Int) (j:Nat) (ac3:Int),err≠0->ac3≠0->i<=j->fw (oL e name out::r) t=(oL e name out::r,ac3)->
       AX l e name r i out (if err=0 then lJ sub (decide (0<d)) l e.kind name n j (out++[x])else(out++[x],err,j)):=by
       intro x err j ac3 he Iq hj hB;rw[aa he];refine⟨fun h=>aX h he,fun h=>aX h he,fun _=>?_,hj⟩;rw[GB,bO,aa h4,hT,hB,ae Iq];exact .inl Iq
      generalize Fe:mx sub (decide (0<d)) t e.kind out (i+1)=bz;unfold mx at Fe;cases hq:eW t.text with
      |none=>
       have hc:dM t.text=0\/o9 (dM t.text)≠decide (t.kind=3):=.inl (k1.2 hq);rw[ae hc]at Fe;subst Fe;exact bad _ 40 (i+1) 40 (by decide) (by decide) (aY _) (by unfold fw;rw[hq])
      |some q=>
       obtain⟨q1,q2,q3,q4⟩:=k2 q hq;have q0:¬dM t.text=0:=fun h=>by rw[k1.1 h]at hq;cases hq
       have hB:fw (oL e name out::r) t=if q.alone≠decide (t.kind=3)then(oL e name out::r,(40:Int))else match JU q.kind t.bK with
        |none=>(oL e name out::r,(41:Int))
        |some x=>if jO (oL e name out).e q.kind q.ej=false then(oL e name out::r,42)else if q.alone then(kO (oL e name out::r) x,0)else if 16<(oL e name out::r).length then(oL e name out::r,5)else(⟨x,t.text⟩::oL e name out::r,0):=by
        unfold fw JU;rw[hq];simp only;split
        ·rfl
        ·cases fv q.kind (fi q.kind) [] t.bK with
         |none=>rfl
         |some x=>
          simp only;cases kt q.kind x<;>rfl
       rw[q1,<-q2]at Fe;rw[q1]at q0 so;by_cases ha:q.alone=decide (t.kind=3)
       ·have hn:¬(q.kind=0\/q.alone≠decide (t.kind=3)):=fun h=>h.elim q0 (fun h=>h ha);rw[aa hn]at Fe;rw[aa (by simp[ha]),so]at hB;cases he:(gV t).2 with
        |false=>
         rw[aa (by rw[he];decide)]at hB;rw[ae he]at Fe;subst Fe;exact bad _ 41 (i+1) 41 (by decide) (by decide) (aY _) hB
        |true=>
         rw[ae he]at hB;rw[aa (by rw[he];decide)]at Fe;simp only at hB;rw[show jO (oL e name out).e q.kind q.ej=AW e.kind out q.kind from Vr e out q q3]at hB;cases hm:AW e.kind out q.kind with
         |false=>
          rw[ae hm]at hB;rw[ae hm]at Fe;subst Fe;exact bad _ 42 (i+1) 42 (by decide) (by decide) (aY _) hB
         |true=>
          rw[aa (by rw[hm];decide)]at hB;rw[aa (by rw[hm];decide)]at Fe;cases cg:q.alone with
          |true=>
           rw[ae cg,JV]at hB;rw[ae cg]at Fe;subst Fe
           show AX l e name r i out (if(0:Int)=0 then lJ sub (decide (0<d)) l e.kind name n (i+1) (out++[(gV t).1])else(out++[(gV t).1],0,i+1))
           rw[ae rfl];have ih:=pI sub l d yO e name r hr hd n (i+1) (out++[(gV t).1]) (by omega);have mJ:bO i (oL e name out::r) (l.drop i)=bO (i+1) (oL e name (out++[(gV t).1])::r) (l.drop (i+1)):=by
            rw[GB,bO,aa h4,hT,hB,aa (by simp)]
           unfold AX at ih|-;rw[mJ];exact⟨ih.1,ih.2.1,ih.2.2.1,au (aY _) ih.2.2.2⟩
          |false=>
           rw[aa (by rw[cg];decide)]at hB;rw[aa (by rw[cg];decide)]at Fe;by_cases hd0:0<d
           ·have KH:¬16<(oL e name out::r).length:=by rw[ak];omega
            rw[aa KH]at hB;rw[aa (by rw[aS hd0];decide)]at Fe;have ZY:(gV t).1.kind=q.kind/\(gV t).1.bE=[]:=by
             unfold gV;rw[q1];by_cases e2:q.kind=2
             ·rw[ae e2];exact⟨e2.symm,rfl⟩
             ·rw[aa e2];by_cases e3:q.kind=3
              ·rw[ae e3];exact⟨e3.symm,rfl⟩
              ·rw[aa e3];by_cases e12:q.kind=12
               ·rw[ae e12];exact⟨e12.symm,rfl⟩
               ·rw[aa e12];by_cases e8:q.kind=8
                ·rw[ae e8];exact⟨e8.symm,rfl⟩
                ·rw[aa e8];exact⟨rfl,rfl⟩
            have hs:=yO (gV t).1 t.text (oL e name out::r) (i+1) q4 (by simp) (by rw[ak];omega) hd0 ZY.2;rw[ZY.1]at hs;generalize(gV t).1=x at ZY hs Fe hB;have hlx:oL x t.text []=⟨x,t.text⟩:=by
             unfold oL xd;obtain⟨xk,xt,xs,xa,xb,xu,xl⟩:=x;have:=ZY.2;simp only[Elem.bE]at this;subst this;simp[Elem.dD]
            have mJ:bO i (oL e name out::r) (l.drop i)=bO (i+1) (oL x t.text []::oL e name out::r) (l.drop (i+1)):=by
             rw[GB,bO,aa h4,hT,hB,aa (by simp),hlx]
            generalize sub q.kind t.text (i+1)=z at hs Fe;obtain⟨zl,ze,zi⟩:=z;subst Fe;unfold AX at hs;simp only at hs
            show AX l e name r i out (if ze=0 then lJ sub (decide (0<d)) l e.kind name n zi (out++[x.dD (if q.kind=11 then[]else zl)])else(out++[x.dD (if q.kind=11 then[]else zl)],ze,zi))
            by_cases hze:ze=0
            ·rw[ae hze];have h1:=hs.1 hze q4;have hzi:i+1<=zi:=hs.2.2.2;rw[ZY.1,show xd q.kind zl=(if q.kind=11 then[]else zl)from rfl]at h1;rw[JV]at h1;have ih:=pI sub l d yO e name r hr hd n zi (out++[x.dD (if q.kind=11 then[]else zl)]) (by omega);unfold AX at ih|-;rw[mJ,h1];exact⟨ih.1,ih.2.1,ih.2.2.1,au (by omega) ih.2.2.2⟩
            ·rw[aa hze];refine⟨fun h=>aX h hze,fun h=>aX h hze,fun _=>?_,au (aY _) hs.2.2.2⟩;rw[mJ];exact hs.2.2.1 hze
           ·have KH:16<(oL e name out::r).length:=by rw[ak];omega
            rw[ae KH]at hB;rw[ae (aT hd0)]at Fe;subst Fe;exact bad _ 5 (i+1) 5 (by decide) (by decide) (aY _) hB
       ·have hc:q.kind=0\/q.alone≠decide (t.kind=3):=.inr ha;rw[ae hc]at Fe;rw[ae ha]at hB;subst Fe;exact bad _ 40 (i+1) 40 (by decide) (by decide) (aY _) hB
     ·rw[aa nE];have hT:cD (oL e name out::r) t=mF (oL e name out::r) t:=by
       unfold cD;rw[aa nE,aa fA]
      have hW:mF (oL e name out::r) t=if e.kind=4\/e.kind=7 then(oL e name out::r,if t.text.all cV then 0 else 42)else(oL e name (out++[dH t.text])::r,0):=by
       unfold mF;simp only[show(oL e name out).e.kind=e.kind from Elem.jU _ _,JV]
      by_cases hi:e.kind=4\/e.kind=7
      ·rw[ae hi]at hW|-;cases hb:t.text.all cV with
       |true=>
        rw[hb,ae rfl]at hW;simp only[if_true];have ih:=pI sub l d yO e name r hr hd n (i+1) out (by omega);have mJ:bO i (oL e name out::r) (l.drop i)=bO (i+1) (oL e name out::r) (l.drop (i+1)):=by
         rw[GB,bO,aa h4,hT,hW,aa (by simp)]
        unfold AX at ih|-;rw[mJ];exact⟨ih.1,ih.2.1,ih.2.2.1,au (aY _) ih.2.2.2⟩
       |false=>
        rw[hb,aa (by decide)]at hW;simp only[Bool.false_eq_true,if_false];refine⟨fun h=>(by cases h),fun h=>(by cases h),fun _=>?_,aY _⟩;rw[GB,bO,aa h4,hT,hW,ae (show(42:Int)≠0 by decide)];exact .inl (show(42:Int)≠0 by decide)
      ·rw[aa hi]at hW|-;have ih:=pI sub l d yO e name r hr hd n (i+1) (out++[dH t.text]) (by omega);have mJ:bO i (oL e name out::r) (l.drop i)=bO (i+1) (oL e name (out++[dH t.text])::r) (l.drop (i+1)):=by
        rw[GB,bO,aa h4,hT,hW,aa (by simp)]
       unfold AX at ih|-;rw[mJ];exact⟨ih.1,ih.2.1,ih.2.2.1,au (aY _) ih.2.2.2⟩
theorem BY(l:List bG):∀(d:Nat) (e:Elem) (name:Bt) (r:List Level) (i:Nat),(name=[]↔r=[])->r.length+d=16->AX l e name r i [] (mh l d e.kind name i)
 |0,e,name,r,i,hr,hd=>pI _ l 0 (fun _ _ _ _ _ _ _ h=>aX h (Nat.lt_irrefl 0)) e name r hr hd (l.length+1) i [] (by omega)
 |d+1,e,name,r,i,hr,hd=>by
  have:=pI (mh l d) l (d+1) (fun e' ao8 r' i' hn hr' hd' _ _=>BY l d e' ao8 r' i' ⟨fun h=>aX h hn,fun h=>aX h hr'⟩ (by omega)) e name r hr hd (l.length+1) i [] (by omega);rw[aS (Nat.succ_pos d)]at this;exact this
theorem Su(l:List bG):((qk l).2=0->qk l=iO l)/\((iO l).2=0->qk l=iO l):=by
 have h:=BY (ed l) 16 (fi 0) [] [] 0 ⟨fun _=>rfl,fun _=>rfl⟩ rfl;unfold qk iO;rw[show(fi 0).kind=0 from rfl]at h;unfold AX at h;rw[bm,show oL (fi 0) [] []=dN from rfl]at h;generalize mh (ed l) 16 0 [] 0=z at*;obtain⟨zl,ze,zi⟩:=z;simp only at h|-;by_cases hz:ze=0
 ·have h1:=h.2.1 hz trivial;rw[h1];simp only[hz,ne_eq,not_true_eq_false,if_false,oL,xd,Elem.fP];exact⟨fun _=>rfl,fun _=>rfl⟩
 ·have h1:=h.2.2.1 hz;simp only[ne_eq,hz,not_false_eq_true,if_true];refine⟨fun h=>h.elim,fun h2=>?_⟩;exfalso;generalize bO 0 [dN] (ed l)=y at*;obtain⟨yl,ye⟩:=y;simp only at h2;rcases h1 with h1|h1
  ·simp only at h1;rw[ae h1]at h2;exact h1 h2
  ·simp only at h1;split at h2
   ·rename_i h3;exact h3 h2
   ·match yl,h1,h2 with
    |[],_,h2=>cases h2
    |[p],h1,_=>exact h1 rfl
    |p::q::r,_,h2=>cases h2
theorem ES(s:Bt):((xc s).2=0->xc s=cM s)/\((cM s).2=0->xc s=cM s):=by
 unfold xc cM;split
 ·rename_i h;exact⟨fun _=>rfl,fun _=>rfl⟩
 ·exact Su _
def ac4:List Bt:=[[],[],dI,df,mr,dK,eD,eE,iN,cP,iM,eC,dJ]
def kn(k:Nat):Bt:=ac4[k]?.getD []
theorem Vs{k:Nat}(hk:k<13):k=0\/k=1\/k=2\/k=3\/k=4\/k=5\/k=6\/k=7\/k=8\/k=9\/k=10\/k=11\/k=12:=by omega
theorem Vt{s:Bt}{k:Nat}(hk:k<13)(h:kn k=s)(hn:s≠[]):dM s=k:=by
 subst h;rcases Vs hk with rfl|rfl|rfl|rfl|rfl|rfl|rfl|rfl|rfl|rfl|rfl|rfl|rfl
 all_goals first
  |exact aX rfl hn
  |rfl
theorem Sv{s:Bt}(h:∀j,j<13->kn j=s->kn j=[]):dM s=0:=by
 have key:∀(j:Nat) (n:Bt),j<13->kn j=n->n≠[]->¬s=n:=fun j n hj hk hn hs=>hn (hk▸h j hj (hk.trans hs.symm));unfold dM eW;rw[aa (key 2 dI (by omega) rfl (by decide)),aa (key 12 dJ (by omega) rfl (by decide)),aa (key 3 df (by omega) rfl (by decide)),aa (key 10 iM (by omega) rfl (by decide)),aa (key 11 eC (by omega) rfl (by decide)),
  aa (key 4 mr (by omega) rfl (by decide)),aa (key 5 dK (by omega) rfl (by decide)),aa (key 6 eD (by omega) rfl (by decide)),aa (key 7 eE (by omega) rfl (by decide)),aa (key 8 iN (by omega) rfl (by decide)),aa (key 9 cP (by omega) rfl (by decide))]
theorem ET(s:ByteArray)(w:World):Calls prog 80 #[.string s] w fun e w'=>e=.returned (.int .i64 (dM (L s)))/\Below w.heap.size w w':=by
 have hX:=bL.new w 9 #[.string (bs []),.string (bs []),.string (bs dI),.string (bs df),.string (bs mr),.string (bs dK),.string (bs eD),.string (bs eE),.string (bs iN),.string (bs cP),.string (bs iM),.string (bs eC),.string (bs dJ)];have ZR:Hy (∀k,k<13->(w.alloc (.cells #[.string (bs []),.string (bs []),.string (bs dI),.string (bs df),.string (bs mr),.string (bs dK),.string (bs eD),.string (bs eE),.string (bs iN),.string (bs cP),.string (bs iM),.string (bs eC),.string (bs dJ)] 9)).cell? ⟨w.heap.size,k,none⟩=some (.string (bs (kn k)))):=by
  intro k hk;rcases Vs hk with rfl|rfl|rfl|rfl|rfl|rfl|rfl|rfl|rfl|rfl|rfl|rfl|rfl
  all_goals exact hX.cell _
 have nz:Hy (Below w.heap.size w (w.alloc (.cells #[.string (bs []),.string (bs []),.string (bs dI),.string (bs df),.string (bs mr),.string (bs dK),.string (bs eD),.string (bs eE),.string (bs iN),.string (bs cP),.string (bs iM),.string (bs eC),.string (bs dJ)] 9))):=cU _ _;clear hX;go_enter func80,ntmps80;go_wp2_with fail;go_loopw [3,4,7] (fun _ _ iv wr=>∃k:Nat,k<=13/\iv=.int .i64 k/\Hy (∀j,j<k->kn j=L s->kn j=[])/\Hy (∀k,k<13->wr.cell? ⟨w.heap.size,k,none⟩=some (.string (bs (kn k))))/\Hy (Below w.heap.size w wr))
  (fun _ _ iv _=>13-(intOf iv).toNat)
 case atStart=>exact⟨0,ax _,rfl,fun j h=>aX h (Nat.not_lt_zero j),ZR.o,nz.o⟩
 case round=>
  clear ZR nz;obtain⟨k,hk,rfl,HM,HC,HB⟩:=hrel;by_cases bW:k<13
  ·have e0:=HC.o k bW;have nE:(0:Int)<=(k:Int):=by omega
   have fA:(k:Int)<13:=by omega
   have HH:=bD (fun h1 h2=>Vt (s:=L s) bW h1 h2);generalize hq:kn k=q at*;have HQ:=bD hq;have Fy:(bs q).toList=q:=bQ q;have mC:s.toList=L s:=cw s;clear hq;cases h1:(q==L s)with
   |true=>
    have H1:Hy (q=L s):=beq_iff_eq.1 h1;cases h2:q.isEmpty with
    |true=>
     have H2:Hy (q=[]):=List.isEmpty_iff.1 h2;go_wp2_with fail;go_roundw
     case rel=>exact⟨k+1,bW,by go_num,fun j hj h=>(by rcases Nat.lt_succ_iff_lt_or_eq.1 hj with h3|rfl;exact HM.o j h3 h;rw[HQ.o];exact H2.o),HC.o,HB.o⟩
     case measure=>simp[intOf];omega
    |false=>
     have H2:Hy (L s≠[]):=fun h=>by rw[<-H1.o]at h;rw[h]at h2;cases h2
     go_wp2_with fail;go_ret;exact⟨by rw[HH.o (H1.o) H2.o];rfl,HB.o⟩
   |false=>
    have H1:Hy (q≠L s):=fun h=>by rw[h]at h1;simp at h1
    go_wp2_with fail;go_roundw
    case rel=>exact⟨k+1,bW,by go_num,fun j hj h=>(by rcases Nat.lt_succ_iff_lt_or_eq.1 hj with h3|rfl;exact HM.o j h3 h;rw[HQ.o]at h;exact aX h H1.o),HC.o,HB.o⟩
    case measure=>simp[intOf];omega
  ·have ln:k=13:=by omega
   subst ln;go_wp2_with fail;go_ret;exact⟨by rw[Sv HM.o];rfl,HB.o⟩
theorem Sw{l:List bY}{j:Nat}(h:j<l.length)(n:Bt):iV (l.drop j) n=if l[j].name=n then some l[j].value else iV (l.drop (j+1)) n:=by
 rw[aE h];rfl
theorem ll(kd:Int)(tx n:ByteArray)(va:Value)(l:List bY)(F:Nat->Prop)(w:World)(hv:GR w F (.row 2 (l.map bY.gv)) [va]):
 Calls prog 115 #[.agg #[.int .i64 kd,.string tx,va],.string n] w fun e w'=>e=.returned (.tuple #[.string (bs (js l (L n))),.bool (jH l (L n))])/\Below w.heap.size w w':=by
 obtain⟨A,c,rfl,zQ,mz,dS⟩:=dV (GR.du _ _ hv);have ub:=bD dS;unfold maxLen at mz;have nz:=bD (cU w (.cells #[.int .i64 kd,.string tx,.slice A l.length c] 75));have Cq:Hy (iV l (L n)=iV (l.drop 0) (L n)):=by rw[Hy,bm]
 have HV:Hy (js l (L n)=(iV l (L n)).getD []):=rfl;have HH:Hy (jH l (L n)=(iV l (L n)).isSome):=rfl;generalize js l (L n)=V at*;generalize jH l (L n)=H at*;generalize iV l (L n)=R at*;clear dS hv;go_enter func115,ntmps115;go_wp2_with fail;go_loopw [7,11] (fun _ iv wr=>∃j:Nat,j<=l.length/\iv=.int .i64 j/\Hy (R=iV (l.drop j) (L n))/\Hy (Below w.heap.size w wr))
  (fun _ iv _=>l.length-(intOf iv).toNat)
 case atStart=>exact⟨0,ax _,rfl,Cq.o,nz.o⟩
 case round=>
  clear Cq nz;obtain⟨j,hj,rfl,HF,HB⟩:=hrel;by_cases bW:j<l.length
  ·obtain⟨b,off,rfl,⟨_,tT⟩,dS⟩:=ub.o (by rintro rfl;simp at bW);obtain⟨k0,k1⟩:=dS j bW;have c0:=(HB.o.cell (p:=⟨b,off+j*2,none⟩) tT).trans k0;have c1:=(HB.o.cell (p:=⟨b,off+j*2+1,none⟩) tT).trans k1;rw[Sw bW]at HF;clear dS k0 k1 tT;generalize l[j]=p at*;have hJ:=bD (HB.o.alloc HB.o.size (.cells #[.string (bs p.name),.string (bs p.value)] 156));have Fy:(bs p.name).toList=p.name:=bQ _;have mC:n.toList=L n:=cw n;cases h1:(p.name==L n)with
   |true=>
    have H1:Hy (R=some p.value):=by rw[Hy,HF.o,ae (beq_iff_eq.1 h1)]
    go_wp2_with fail;go_ret2;exact⟨by rw[HV.o,HH.o,H1.o];rfl,hJ.o⟩
   |false=>
    have H1:Hy (R=iV (l.drop (j+1)) (L n)):=by rw[Hy,HF.o,aa (fun h=>by rw[h]at h1;simp at h1)]
    go_wp2_with fail;go_roundw
    case rel=>exact⟨j+1,bW,by go_num,H1.o,hJ.o⟩
    case measure=>simp[intOf];omega
  ·have ZB:j=l.length:=by omega
   subst ZB;have H1:Hy (R=none):=by rw[Hy,HF.o,bu];rfl
   go_wp2_with fail;go_ret2;exact⟨by rw[HV.o,HH.o,H1.o];rfl,HB.o⟩
theorem Gj(s:ByteArray)(w:World)(hs:s.size<=100000000):Calls prog 44 #[.string s] w fun e w'=>e=.returned (.bool ((L s).all cV))/\w=w':=by
 go_enter func44,ntmps44;go_wp2_with fail;go_loopw [3] (fun iv wr=>∃k:Nat,k<=s.size/\iv=.int .i64 k/\Hy ((L s).all cV=((L s).drop k).all cV)/\wr=w)
  (fun iv _=>s.size-(intOf iv).toNat)
 case atStart=>exact⟨0,ax _,rfl,by rw[Hy,bm],rfl⟩
 case round=>
  obtain⟨k,hk,rfl,HA,rfl⟩:=hrel;by_cases bW:k<s.size
  ·have tH:k<(L s).length:=by rw[<-cm];exact bW
   have nE:(0:Int)<=(k:Int):=by omega
   have fA:(k:Int)<(s.size:Int):=by omega
   rw[aE tH,List.all_cons,<-dP s k bW]at HA;have qT:Hy (cV s[k]=((s[k].toNat:Int)==32||(s[k].toNat:Int)==9||(s[k].toNat:Int)==10||(s[k].toNat:Int)==13)):=by
    have e32:=sq s[k] 32;have e9:=sq s[k] 9;have e10:=sq s[k] 10;have e13:=sq s[k] 13;simp only[Hy,cV];rw[e32,e9,e10,e13];rfl
   have HT:Hy ((s[k].toNat:Int)=32\/(s[k].toNat:Int)=9\/(s[k].toNat:Int)=10\/(s[k].toNat:Int)=13->(L s).all cV=((L s).drop (k+1)).all cV):=by
    intro h;have h2:cV s[k]=true:=by rw[qT.o];simp only[bA,beq_iff_eq];omega
    exact HA.o.trans (by rw[show cV s[k]=true from h2];rfl)
   have HF:Hy ((s[k].toNat:Int)≠32->(s[k].toNat:Int)≠9->(s[k].toNat:Int)≠10->(s[k].toNat:Int)≠13->(L s).all cV=false):=by
    intro h1 h2 h3 h4;have h5:cV s[k]=false:=by rw[qT.o];simp only[Bool.or_eq_false_iff,ai];exact⟨⟨⟨h1,h2⟩,h3⟩,h4⟩
    exact HA.o.trans (by rw[show cV s[k]=false from h5];rfl)
   clear HA qT;go_wp2_with fail
   all_goals first
    |(go_roundw
      case rel=>exact⟨k+1,bW,by go_num,HT.o (by first|omega|(simp only[bne_eq_false_iff_eq]at*;omega)),trivial⟩
      case measure=>simp[intOf];omega)
    |(go_ret;refine⟨cH ((HF.o ?_ ?_ ?_ ?_).symm),rfl⟩;all_goals (simp_all;try omega))
  ·have ln:k=s.size:=by omega
   subst ln;go_wp2_with fail;go_ret;exact⟨by rw[HA.o,List.drop_of_length_le (by rw[<-cm];exact dv _)];rfl,rfl⟩
theorem Vu{l:List Elem}(h:0<l.length):(∀u,l.getLast?=some u->u.kind≠9)↔l[l.length-1].kind≠9:=by
 rw[List.getLast?_eq_getElem?,aB (by omega)];exact⟨fun h=>h _ rfl,fun h u hu=>by injection hu with hu;subst hu;exact h⟩
theorem AY(ej k:Int)(l:List Elem)(v:Value)(F:Nat->Prop)(w:World)(hv:GR w F (.row 7 (l.map Elem.gv)) [v]):
 Calls prog 82 #[.int .i64 ej,v,.int .i64 k] w fun e w'=>e=.returned (.bool (AW ej l k))/\w=w':=by
 obtain⟨A,c,rfl,zQ,mz,dS⟩:=dW (GR.du _ _ hv);obtain⟨N,hN⟩:∃N,N=l.length:=⟨_,rfl⟩;obtain⟨z,hz⟩:∃z:Int,z=if 0<N then(l[N-1]?.map Elem.kind).getD 0 else 0:=⟨_,rfl⟩
 have HM:Hy (AW ej l k=if ej=4 then((k==5&&(N:Int)==0)||(k==6&&(N:Int)==1))else if ej=7 then(z !=9&&(k==8||(k==9&&decide (0<(N:Int)))))else(k !=5&&k !=6&&k !=8&&k !=9)):=by
  rw[Hy,AW,hz,hN];split
  ·rw[bj];simp only[aH,bA,aG,beq_iff_eq];omega
  ·split
   ·rw[bj];by_cases hl:0<l.length
    ·have:=Vu hl;have h2:l[l.length-1]?=some l[l.length-1]:=aB (by omega);simp only[aH,this,ae hl,h2,Option.map_some,Option.getD_some,aG,bA,aQ,beq_iff_eq];simp[hl]
    ·have h0:l=[]:=List.length_eq_zero_iff.1 (by omega);subst h0;simp
   ·rw[bj];simp[and_assoc]
 generalize AW ej l k=R at*;unfold maxLen at mz;by_cases hl:0<l.length
 ·obtain⟨b,off,rfl,-,zu⟩:=dS (by rintro rfl;simp at hl);obtain⟨Ak,ck,hE⟩:=zu (l.length-1) (by omega);have e0:=hE.c0;have vF:z=l[l.length-1].kind:=by
   rw[hz];subst hN;rw[ae hl,aB (by omega)];rfl
  rw[<-vF]at e0;clear hE zu dS hv hz vF;rw[<-hN]at e0 hl zQ|-;obtain⟨n,rfl⟩:∃n,N=n+1:=⟨N-1,by omega⟩;rw[Nat.add_sub_cancel]at e0;clear hN;have tQ:((n+1:Nat):Int)-1=(n:Int):=by omega
  have Ix:(0:Int)<((n+1:Nat):Int):=by omega
  have PT:(0:Int)<=(n:Int):=by omega
  have VL:(n:Int)<((n+1:Nat):Int):=by omega
  go_enter func82,ntmps82;go_wp2_with fail
  all_goals (go_ret;refine⟨cH ?_,rfl⟩;rw[HM.o];clear HM;simp_all<;>(first|omega|(rename_i h9;rw[ai.2 h9,Bool.or_false])))
 ·have vF:z=0:=by rw[hz];subst hN;rw[aa hl]
  have h0:N=0:=by omega
  subst vF h0;rw[<-hN];clear dS hv hz hN zQ hl;go_enter func82,ntmps82;go_wp2_with fail
  all_goals (go_ret;refine⟨cH ?_,rfl⟩;rw[HM.o];clear HM;simp_all<;>omega)
def AZ(ns:List Bt)(l:List bY)(j:Nat):Bool:=lj ns (l.take j) (l.drop j)
theorem Sx{ns:List Bt}{l:List bY}{j:Nat}(h:j<l.length):
 AZ ns l j=((ns.any (fun n=>l[j].name==n)&&!(l.take j).any (fun x=>x.name==l[j].name))&&AZ ns l (j+1)):=by
 unfold AZ;rw[aE h,lj,aC h]
theorem MG{w:World}{F:Nat->Prop}{l:List Bt}{v:Value}(h:GR w F (.row 1 (l.map .str)) [v]):
 ∃A c,v=.slice A l.length c/\l.length<=c/\c<=maxLen/\(l≠[]->∃b o,A=some ⟨b,o,none⟩/\F b/\∀i (hi:i<l.length),w.cell? ⟨b,o+i,none⟩=some (.string (bs l[i]))):=by
 obtain⟨A,c,h1,h2,h3,h4⟩:=pK h (by omega);simp only[ah]at h1 h2 h4;refine⟨A,c,h1,h2,h3,fun db=>?_⟩;obtain⟨b,o,hA,hF,hc⟩:=h4 (by simpa using db);refine⟨b,o,hA,hF,fun i hi=>?_⟩;obtain⟨cs,g1,_,g3⟩:=hc i hi;rw[List.getElem_map,eQ]at g1;subst g1;have:=g3 0 _ rfl
 rwa [Nat.mul_one,Nat.add_zero]at this
theorem my(kd:Int)(tx:ByteArray)(va vn:Value)(l:List bY)(ns:List Bt)(F:Nat->Prop)(w:World)(hv:GR w F (.row 2 (l.map bY.gv)) [va])(hn:GR w F (.row 1 (ns.map .str)) [vn]):
 Calls prog 116 #[.agg #[.int .i64 kd,.string tx,va],vn] w fun e w'=>e=.returned (.bool (lj ns [] l))/\Below w.heap.size w w':=by
 obtain⟨A,c,rfl,zQ,mz,dS⟩:=dV (GR.du _ _ hv);obtain⟨An,cn,rfl,aE8,ay4,D2⟩:=MG (GR.du _ _ hn);have ub:=bD dS;have HON:=bD D2;unfold maxLen at mz ay4;have hX:=bL.new w 75 #[.int .i64 kd,.string tx,.slice A l.length c];have M9:Hy ((w.alloc (.cells #[.int .i64 kd,.string tx,.slice A l.length c] 75)).cell? ⟨w.heap.size,2,none⟩=some (.slice A l.length c)):=hX.cell 2;have nz:=bD (cU w (.cells #[.int .i64 kd,.string tx,.slice A l.length c] 75));have Cq:Hy (lj ns [] l=AZ ns l 0):=rfl;generalize lj ns [] l=R at*;clear dS D2 hv hn hX;go_enter func116,ntmps116;go_wp2_with fail;go_loopw [5,6,7,9,10,14] (fun _ _ _ _ _ iv wr=>∃j:Nat,j<=l.length/\iv=.int .i64 j/\Hy (R=AZ ns l j)/\Hy (Below w.heap.size w wr)/\Hy (wr.cell? ⟨w.heap.size,2,none⟩=some (.slice A l.length c))/\Hy (w.heap.size<wr.heap.size))
  (fun _ _ _ _ _ iv _=>l.length-(intOf iv).toNat)
 case atStart=>exact⟨0,ax _,rfl,Cq.o,nz.o,M9.o,by rw[Hy,size_alloc];exact Nat.lt_succ_self _⟩
 case round=>
  clear Cq nz M9;obtain⟨j,hj,rfl,HF,HB,HT,HS⟩:=hrel;by_cases bW:j<l.length
  ·obtain⟨b,off,rfl,⟨_,tT⟩,dS⟩:=ub.o (by rintro rfl;simp at bW);obtain⟨k0,k1⟩:=dS j bW;have c0:=(HB.o.cell (p:=⟨b,off+j*2,none⟩) tT).trans k0;have c1:=(HB.o.cell (p:=⟨b,off+j*2+1,none⟩) tT).trans k1;have HNM:Hy (∀q,q<j->∃h:q<l.length,∀W,Below w.heap.size w W->W.cell? ⟨b,off+q*2,none⟩=some (.string (bs l[q].name))):=fun q hq=>⟨by omega,fun W hb=>(hb.cell (p:=⟨b,off+q*2,none⟩) tT).trans (dS q (by omega)).1⟩;rw[Sx bW]at HF;clear dS k0 k1 tT;generalize hp:l[j]=p at*;obtain⟨W,hW⟩:∃W,W=wr.alloc (.cells #[.string (bs p.name),.string (bs p.value)] 156):=⟨_,rfl⟩;have hJ:Hy (Below w.heap.size w W):=by rw[hW];exact HB.o.alloc HB.o.size _
   obtain⟨g,hg⟩:∃g,g=wr.heap.size:=⟨_,rfl⟩;have E9:Hy (W.cell? ⟨g,0,none⟩=some (.string (bs p.name))):=by rw[hW,hg];exact(bL.new wr 156 #[.string (bs p.name),.string (bs p.value)]).cell 0
   have V1:Hy (W.cell? ⟨w.heap.size,2,none⟩=some (.slice (some ⟨b,off,none⟩) l.length c)):=by
    rw[hW];exact(cU wr _).cell (p:=⟨w.heap.size,2,none⟩) HS.o |>.trans HT.o
   have mM:Hy (w.heap.size<W.heap.size):=by rw[hW,Hy,size_alloc];have:=HS.o;omega
   go_upto_region 4 with(fail)
   rw[<-hW,<-hg];clear hW hg;go_wp2_with fail;go_loopw [7,9,21] (fun isv _ iv wx=>∃q:Nat,q<=ns.length/\iv=.int .i64 q/\isv=.bool ((ns.take q).any (fun n=>p.name==n))/\Hy (wx=W))
    (fun _ _ iv _=>ns.length-(intOf iv).toNat)
   case atStart=>exact⟨0,ax _,rfl,rfl,rfl⟩
   case round=>
    obtain⟨q,hq,rfl,rfl,HWX⟩:=hrel;obtain rfl:=HWX.o;clear HWX;by_cases hqn:q<ns.length
    ·obtain⟨bn,on_,rfl,⟨_,tK⟩,D2⟩:=HON.o (by rintro rfl;simp at hqn);have d0:=(hJ.o.cell (p:=⟨bn,on_+q,none⟩) tK).trans (D2 q hqn);have p0:=E9.o;have mq:Hy ((ns.take (q+1)).any (fun n=>p.name==n)=((ns.take q).any (fun n=>p.name==n)||p.name==ns[q])):=by
      rw[Hy,aC hqn,bf];simp only[List.any_cons,List.any_nil,Bool.or_false]
     have Fy:(bs p.name).toList=p.name:=bQ _;have YN:(bs ns[q]).toList=ns[q]:=bQ _;clear D2 tK;generalize ns[q]=nq at*;generalize(ns.take q).any (fun n=>p.name==n)=B at*;cases B with
     |true=>
      go_wp2_with fail;go_roundw
      case rel=>exact⟨q+1,hqn,by go_num,by rw[mq.o];rfl,(by first|exact trivial|exact rfl)⟩
      case measure=>simp[intOf];omega
     |false=>
      cases hpn:(p.name==nq)with
      |true=>
       have HPN:=bD hpn;go_wp2_with fail;go_roundw
       case rel=>exact⟨q+1,hqn,by go_num,by rw[mq.o,HPN.o];rfl,(by first|exact trivial|exact rfl)⟩
       case measure=>simp[intOf];omega
      |false=>
       have HPN:=bD hpn;go_wp2_with fail;go_roundw
       case rel=>exact⟨q+1,hqn,by go_num,by rw[mq.o,HPN.o];rfl,(by first|exact trivial|exact rfl)⟩
       case measure=>simp[intOf];omega
    ·have hqe:q=ns.length:=by omega
     subst hqe;rw[aM];generalize ns.any (fun n=>p.name==n)=B at*;clear hq hqn;go_wp2_with fail;go_loopw [7,10] (fun isv kv wx=>∃q:Nat,q<=j/\kv=.int .i64 q/\isv=.bool (B&&!(l.take q).any (fun x=>x.name==p.name))/\Hy (Below w.heap.size w wx)/\Hy (wx.cell? ⟨g,0,none⟩=some (.string (bs p.name)))/\
      Hy (wx.cell? ⟨w.heap.size,2,none⟩=some (.slice (some ⟨b,off,none⟩) l.length c))/\Hy (w.heap.size<wx.heap.size))
      (fun _ kv _=>j-(intOf kv).toNat)
     case atStart=>exact⟨0,ax _,rfl,by simp,hJ.o,E9.o,V1.o,mM.o⟩
     case round=>
      clear hJ E9 V1 mM;obtain⟨q,hq,rfl,rfl,hJ,E9,V1,mM⟩:=hrel;by_cases hqj:q<j
      ·obtain⟨hql,UK⟩:=HNM.o q hqj;have d0:=UK _ hJ.o;have p0:=E9.o;have t0:=V1.o;have hq1:(0:Int)<=(q:Int):=by omega
       have xo:(q:Int)<(l.length:Int):=by omega
       have mq:Hy ((l.take (q+1)).any (fun x=>x.name==p.name)=((l.take q).any (fun x=>x.name==p.name)||l[q].name==p.name)):=by
        rw[Hy,aC hql,bf];simp only[List.any_cons,List.any_nil,Bool.or_false]
       have Fy:(bs p.name).toList=p.name:=bQ _;have YN:(bs l[q].name).toList=l[q].name:=bQ _;clear UK;generalize l[q].name=nq at*;generalize(l.take q).any (fun x=>x.name==p.name)=C at*;generalize hBC:(B&&!C)=D at*;have HBC:=bD hBC;clear hBC;have Wo:Hy ((B&&!(l.take (q+1)).any (fun x=>x.name==p.name))=(D&&!(nq==p.name))):=by
        rw[Hy,mq.o,<-HBC.o];cases B<;>cases C<;>cases(nq==p.name)<;>rfl
       cases D with
       |false=>
        go_wp2_with (go_quiet (fail));go_roundw
        case rel=>exact⟨q+1,hqj,by go_num,by rw[Wo.o];rfl,(by first|exact hJ.o|exact below_drewN hJ.o _),E9.o,V1.o,mM.o⟩
        case measure=>simp[intOf];omega
       |true=>
        cases hpn:(nq==p.name)with
        |true=>
         have HPN:=bD hpn;go_wp2_with (go_quiet (fail));go_roundw
         case rel=>exact⟨q+1,hqj,by go_num,by rw[Wo.o,HPN.o];rfl,(by first|exact hJ.o|exact below_drewN hJ.o _),E9.o,V1.o,mM.o⟩
         case measure=>simp[intOf];omega
        |false=>
         have HPN:=bD hpn;go_wp2_with (go_quiet (fail));go_roundw
         case rel=>exact⟨q+1,hqj,by go_num,by rw[Wo.o,HPN.o];rfl,(by first|exact hJ.o|exact below_drewN hJ.o _),E9.o,V1.o,mM.o⟩
         case measure=>simp[intOf];omega
      ·have hqe:q=j:=by omega
       subst hqe;generalize(l.take q).any (fun x=>x.name==p.name)=C at*;generalize(B&&!C)=D at*;cases D with
       |true=>
        rw[Bool.true_and]at HF;go_wp2_with fail;go_roundw
        case rel=>exact⟨q+1,bW,by go_num,HF.o,hJ.o,V1.o,mM.o⟩
        case measure=>simp[intOf];omega
       |false=>
        go_wp2_with fail;go_ret;exact⟨cH (by rw[HF.o];rfl),hJ.o⟩
  ·have ZB:j=l.length:=by omega
   subst ZB;have HR:Hy (R=true):=by rw[Hy,HF.o,AZ,bu];rfl
   go_wp2_with fail;go_ret;exact⟨cH (by rw[HR.o]),HB.o⟩
end Go.Proofs.YtejafaaihodehaaGreatDoor
