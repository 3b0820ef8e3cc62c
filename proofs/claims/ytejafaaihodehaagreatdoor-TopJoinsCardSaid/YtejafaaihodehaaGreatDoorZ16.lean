/- Part 16. -/
import Derived.Test.YtejafaaihodehaaGreatDoorZ09
import Derived.Deep.RegionHeld
import Derived.Deep.CutRange
import Derived.Deep.QuietTactic
import Derived.IntWalk
set_option linter.all false
set_option maxRecDepth 100000
set_option maxHeartbeats 8000000
namespace Go.Proofs.YtejafaaihodehaaGreatDoor
open Go Go.RowKit Tryz
def Ext{α:Type}(o o':eN α)(b:Bt):Prop:=
 match o with
 |.ok a r k=>o'=.ok a (r++b) k
 |.bad e=>o'=.bad e
 |.short=>True
theorem Ext.bind{α β:Type}{o o':eN α}{b:Bt}{f f':α->Bt->Nat->eN β}(h:Ext o o' b)(hf:∀a r k,Ext (f a r k) (f' a (r++b) k) b):Ext (o.bind f) (o'.bind f') b:=by
 cases o with
 |ok a r k=>
  have h:o'=.ok a (r++b) k:=h;subst h;exact hf a r k
 |bad e=>
  have h:o'=.bad e:=h;subst h;exact rfl
 |short=>trivial
theorem Rg(r b:Bt)(k:Nat):Ext (dy r k) (dy (r++b) k) b:=by
 cases r with
 |nil=>exact trivial
 |cons c t=>
  simp only[dy,aU];split<;>rfl
theorem n6:∀(m r b:Bt) (k:Nat),Ext (cZ m r k) (cZ m (r++b) k) b
 |[],r,b,k=>rfl
 |c::m,r,b,k=>by
  rw[cZ,cZ];cases r with
  |nil=>exact trivial
  |cons x t=>
   simp only[dy,aU];by_cases h4:400<=k
   ·simp only[ae h4];rfl
   ·simp only[aa h4,eN.bind,List.tail_cons];by_cases hx:x=c
    ·simp only[ae hx];exact n6 m t b (k+1)
    ·simp only[aa hx];rfl
theorem uJ(p:UInt8->Bool):∀(r b:Bt) (k:Nat),Ext (fg p r k) (fg p (r++b) k) b
 |[],b,k=>trivial
 |c::t,b,k=>by
  simp only[aU,fg];by_cases h4:400<=k
  ·simp only[ae h4];rfl
  ·simp only[aa h4];by_cases hp:p c=true
   ·simp only[ae hp];exact(uJ p t b (k+1)).bind fun a r k=>rfl
   ·simp only[aa hp];rfl
theorem GQ(r b:Bt)(k:Nat):Ext (eO r k) (eO (r++b) k) b:=by
 rw[eO,eO];refine(uJ ji r b k).bind fun l r k=>?_;by_cases h:l=[]
 ·simp only[ae h];rfl
 ·simp only[aa h];rfl
theorem Bu:∀(n n':Nat) (nm:Bt) (at_:List bY) (r b:Bt) (k:Nat),n<=n'->Ext (dz n nm at_ r k) (dz n' nm at_ (r++b) k) b
 |0,_,_,_,_,_,_,_=>trivial
 |n+1,0,_,_,_,_,_,h=>aX h (by omega)
 |n+1,n'+1,nm,at_,r,b,k,h=>by
  rw[dz,dz];refine(uJ cV r b k).bind fun wF r k=>?_;have hp:=Rg r b k;cases hpk:dy r k with
  |short=>trivial
  |bad e=>
   rw[hpk]at hp;have hp:dy (r++b) k=.bad e:=hp;rw[hp];rfl
  |ok c r2 k2=>
   rw[hpk]at hp;have hp:dy (r++b) k=.ok c (r2++b) k2:=hp;obtain⟨rfl,rfl,_,t,rfl⟩:=kh hpk;rw[hp];simp only[eN.bind];unfold gO;by_cases h1:c=62
   ·simp only[ae h1];rfl
   ·simp only[aa h1];by_cases h2:c=47
    ·simp only[ae h2];exact(n6 [62] t b (k2+1)).bind fun _ r k=>rfl
    ·simp only[aa h2];by_cases h3:wF=[]
     ·simp only[ae h3];rfl
     ·simp only[aa h3];refine(GQ (c::t) b k2).bind fun a r k=>?_;refine(n6 [61] r b k).bind fun _ r k=>?_;unfold qx;split
      ·rfl
      ·unfold su;refine(n6 [34] r b k).bind fun _ r k=>?_;refine(uJ gY r b k).bind fun v r k=>?_;refine(n6 [34] r b k).bind fun _ r k=>?_;exact Bu n n' nm _ r b k (by omega)
theorem Ui(m r b:Bt)(k:Nat):Ext (ml m r k) (ml m (r++b) k) b:=by
 rw[ml,ml];refine(n6 m r b k).bind fun _ r k=>?_;refine(GQ r b k).bind fun nm r k=>?_;by_cases h:m=ew
 ·simp only[ae h];refine(uJ cV r b k).bind fun _ r k=>?_;exact(n6 [62] r b k).bind fun _ r k=>rfl
 ·simp only[aa h];exact Bu _ _ nm [] r b k (by rw[af];omega)
theorem Ls(s m b:Bt)(h:(fe s m).2.2≠0\/(fe s m).2.1≠0):fe (s++b) m=fe s m:=by
 have e:=Ui m s b 0;unfold fe at h|-;cases ht:ml m s 0 with
 |ok t r k=>
  rw[ht]at e;have e:ml m (s++b) 0=.ok t (r++b) k:=e;rw[e]
 |bad x=>
  rw[ht]at e;have e:ml m (s++b) 0=.bad x:=e;rw[e]
 |short=>
  rw[ht]at h;simp at h
theorem uK{l m:Bt}(b:Bt)(h:iH l m=false):iH (l++b) m=false:=by
 unfold iH at h|-;rw[ai]at h|-;intro e;apply h;have e2:=congrArg (List.take l.length) e;rw[List.take_take,List.take_take]at e2;rw[af,Nat.min_eq_left (show l.length<=l.length+b.length by omega)]at e2;rw[<-e2,List.take_append_of_le_length (by omega),Nat.min_comm,<-List.take_take,aM]
theorem xI{l m:Bt}(b:Bt)(h:iH l m=true)(hl:m.length<=l.length):iH (l++b) m=true:=by
 unfold iH at h|-;rw[beq_iff_eq]at h|-;rw[List.take_append_of_le_length hl,h,aO (by omega),aO (by simp;omega)]
def gh(b:Bool):Bt->Option Bt
 |[]=>none
 |c::l=>if c=60\/c=45 then jS b (c::l)else none
theorem fz(b:Bool)(c:UInt8)(l:Bt):bX b (c::l)=match gh b (c::l)with
 |some m=>(m,0)
 |none=>((bX b l).1,(bX b l).2+1):=rfl
theorem FK{b:Bool}{s:Bt}(c:Bt)(hs:s≠[])(h:gh b s=none):gh b (s++c)=none:=by
 cases s with
 |nil=>exact aX rfl hs
 |cons x l=>
  simp only[gh,aU]at h|-;split at h
  ·rename_i hx;rw[ae hx];unfold jS at h|-;split at h
   ·cases h
   ·rename_i h1;split at h
    ·cases h
    ·rename_i h2;split at h
     ·cases h
     ·rename_i h3;have e1:=uK c (by simpa using h1);have e2:=uK c (by simpa using h2);have e3:=uK c (by simpa using h3);rw[aU]at e1 e2 e3;simp[e1,e2,e3]
  ·rename_i hx;rw[aa hx]
theorem DB{b:Bool}{s m:Bt}(c:Bt)(h:gh b s=some m)(hl:m.length<=s.length):gh b (s++c)=some m:=by
 cases s with
 |nil=>cases h
 |cons x l=>
  simp only[gh,aU]at h|-;split at h
  ·rename_i hx;rw[ae hx];unfold jS at h|-;split at h
   ·rename_i h1;injection h with h;subst h
    have e1:=xI c h1 hl;rw[aU]at e1;simp[e1]
   ·rename_i h1;have e1:=uK c (by simpa using h1);rw[aU]at e1;split at h
    ·rename_i h2;injection h with h;subst h
     have e2:=xI c h2 hl;rw[aU]at e2;simp[e1,e2]
    ·rename_i h2;have e2:=uK c (by simpa using h2);rw[aU]at e2;split at h
     ·rename_i h3;injection h with h;subst h
      have e3:=xI c h3 hl;rw[aU]at e3;simp[e1,e2,e3]
     ·cases h
  ·cases h
theorem Bv{b:Bool}{s m:Bt}(h:gh b s=some m):m≠[]:=by
 cases s with
 |nil=>cases h
 |cons x l=>
  simp only[gh]at h;split at h
  ·unfold jS at h;split at h
   ·injection h with h;subst h;decide
   ·split at h
    ·injection h with h;subst h;decide
    ·split at h
     ·injection h with h;subst h;unfold eS;split<;>decide
     ·cases h
  ·cases h
theorem xJ(b:Bool):∀s:Bt,bX b (s.drop (bX b s).2)=((bX b s).1,0)
 |[]=>rfl
 |c::l=>by
  have ih:=xJ b l;cases h:gh b (c::l)with
  |some m=>
   have e:bX b (c::l)=(m,0):=by rw[fz,h]
   rw[e];exact e
  |none=>
   have e:bX b (c::l)=((bX b l).1,(bX b l).2+1):=by rw[fz,h]
   rw[e];exact ih
theorem yP(b:Bool)(c:Bt):∀s:Bt,bX b (s++c)=((bX b (s.drop (bX b s).2++c)).1,(bX b s).2+(bX b (s.drop (bX b s).2++c)).2)
 |[]=>by simp[bX]
 |x::l=>by
  have ih:=yP b c l;cases h:gh b (x::l)with
  |some m=>
   have e:bX b (x::l)=(m,0):=by rw[fz,h]
   rw[e];simp
  |none=>
   have e:bX b (x::l)=((bX b l).1,(bX b l).2+1):=by rw[fz,h]
   have h2:=FK c (by simp) h;have e2:bX b (x::l++c)=((bX b (l++c)).1,(bX b (l++c)).2+1):=by
    rw[aU]at h2|-;rw[fz,h2]
   rw[e2,e,ih];simp only[List.drop_succ_cons];rw[Nat.add_right_comm]
theorem Lt{b:Bool}{s m:Bt}(c:Bt)(h:bX b s=(m,0))(hm:m≠[])(hl:m.length<=s.length):bX b (s++c)=(m,0):=by
 cases s with
 |nil=>injection h with h1 _;exact aX h1.symm hm
 |cons x l=>
  cases hh:gh b (x::l)with
  |some m'=>
   rw[fz,hh]at h;injection h with h1 _
   subst h1;have h2:=DB c hh hl;rw[aU]at h2|-;rw[fz,h2]
  |none=>
   rw[fz,hh]at h;injection h with _ h2
   omega
def fk(go:Bool->Bt->List bG->gG × List bG × Int)(b:Bool)(s m:Bt)(out:List bG):gG × List bG × Int:=
 if s.length<m.length\/m=[]then(⟨s,b⟩,out,0)
 else if m=ox\/m=tB then go (decide (m=ox)) (s.drop m.length) out
 else if(fe s m).2.2≠0 then(⟨[],false⟩,[],(fe s m).2.2)
 else if(fe s m).2.1=0 then(⟨s,b⟩,out,0)
 else go b (s.drop (fe s m).2.1) (out++[(fe s m).1])
def ek(out:List bG)(s:Bt)(i:Nat):List bG:=if 0<i then out++[bS (s.take i)]else out
theorem fL(n:Nat)(b:Bool)(s:Bt)(out:List bG):
 cC (n+1) b s out=fk (cC n) b (s.drop (bX b s).2) (bX b s).1 (ek out s (bX b s).2):=rfl
theorem uL{go go':Bool->Bt->List bG->gG × List bG × Int}{b:Bool}{s m:Bt}{out:List bG}
 (h:∀b' s' o',s'.length<s.length->go b' s' o'=go' b' s' o'):fk go b s m out=fk go' b s m out:=by
 unfold fk;split
 ·rfl
 ·rename_i hc;have hm:m≠[]:=fun e=>hc (.inr e);have hp:=List.length_pos_iff.2 hm;have hl:m.length<=s.length:=Nat.le_of_not_lt fun e=>hc (.inl e);split
  ·exact h _ _ _ (by rw[aj];omega)
  ·split
   ·rfl
   ·split
    ·rfl
    ·rename_i hn;exact h _ _ _ (by rw[aj];omega)
theorem wP:∀(n n':Nat) (b:Bool) (s:Bt) (o:List bG),s.length<n->s.length<n'->cC n b s o=cC n' b s o
 |0,_,_,_,_,h,_=>aX h (by omega)
 |_+1,0,_,_,_,_,h=>aX h (by omega)
 |n+1,n'+1,b,s,o,h,h'=>by
  rw[fL,fL];refine uL fun b' s' o' hl=>?_;rw[aj]at hl;exact wP n n' b' s' o' (by omega) (by omega)
def il(b:Bool)(s:Bt)(o:List bG):gG × List bG × Int:=cC (s.length+1) b s o
theorem uM(b:Bool)(s:Bt)(o:List bG):il b s o=fk il b (s.drop (bX b s).2) (bX b s).1 (ek o s (bX b s).2):=by
 rw[il,fL];refine uL fun b' s' o' hl=>?_;rw[aj]at hl;exact wP _ _ _ _ _ (by omega) (by omega)
def iQ(a b:List bG):Prop:=∀o,a.foldl bV o=b.foldl bV o
theorem iQ.refl(a:List bG):iQ a a:=fun _=>rfl
theorem iQ.trans{a b c:List bG}(h:iQ a b)(k:iQ b c):iQ a c:=fun o=>(h o).trans (k o)
theorem iQ.symm{a b:List bG}(h:iQ a b):iQ b a:=fun o=>(h o).symm
theorem iQ.append{a b c d:List bG}(h:iQ a b)(k:iQ c d):iQ (a++c) (b++d):=fun o=>by
 rw[List.foldl_append,List.foldl_append,h o,k]
theorem pZ(o:List bG):bV o (bS [])=o:=by simp[bV,bS]
theorem oE(o:List bG)(s:Bt)(i:Nat):iQ (ek o s i) (o++[bS (s.take i)]):=by
 intro q;unfold ek;split
 ·rfl
 ·rename_i h;have:i=0:=by omega
  subst this;rw[List.foldl_append];simp only[List.take_zero,List.foldl_cons,List.foldl_nil,pZ]
theorem FL(q:List bG)(a b:Bt):bV (bV q (bS a)) (bS b)=bV q (bS (a++b)):=by
 cases a with
 |nil=>rw[pZ];rfl
 |cons x a=>
  cases b with
  |nil=>rw[pZ,List.append_nil]
  |cons y b=>
   rcases List.eq_nil_or_concat q with rfl|⟨lN,u,rfl⟩
   ·simp[bV,bS]
   ·by_cases hu:u.kind=0
    ·simp[bV,bS,hu]
    ·simp[bV,bS,hu]
theorem Lu(a b:Bt):iQ [bS a,bS b] [bS (a++b)]:=fun q=>by
 simp only[List.foldl_cons,List.foldl_nil,FL]
structure P6(z z':gG × List bG × Int):Prop where
 st:z.1=z'.1
 err:z.2.2=z'.2.2
 uw:iQ z.2.1 z'.2.1
theorem P6.refl(z:gG × List bG × Int):P6 z z:=⟨rfl,rfl,.refl _⟩
theorem P6.trans{a b c:gG × List bG × Int}(h:P6 a b)(k:P6 b c):P6 a c:=⟨h.st.trans k.st,h.err.trans k.err,h.uw.trans k.uw⟩
theorem P6.symm{a b:gG × List bG × Int}(h:P6 a b):P6 b a:=⟨h.st.symm,h.err.symm,h.uw.symm⟩
theorem yQ{go go':Bool->Bt->List bG->gG × List bG × Int}{b:Bool}{s m:Bt}{o o':List bG}(ho:iQ o o')
 (h:∀b' s' p p',iQ p p'->P6 (go b' s' p) (go' b' s' p')):P6 (fk go b s m o) (fk go' b s m o'):=by
 unfold fk;split
 ·exact⟨rfl,rfl,ho⟩
 ·split
  ·exact h _ _ _ _ ho
  ·split
   ·exact .refl _
   ·split
    ·exact⟨rfl,rfl,ho⟩
    ·exact h _ _ _ _ (ho.append (.refl _))
theorem yR:∀(n:Nat) (b:Bool) (s:Bt) (o o':List bG),iQ o o'->P6 (cC n b s o) (cC n b s o')
 |0,_,_,_,_,_=>.refl _
 |n+1,b,s,o,o',h=>by
  rw[fL,fL];refine yQ ?_ fun b' s' p p' hp=>yR n b' s' p p' hp;exact(oE _ _ _).trans ((h.append (.refl _)).trans (oE _ _ _).symm)
theorem AD{b:Bool}{s:Bt}{o o':List bG}(h:iQ o o'):P6 (il b s o) (il b s o'):=yR _ _ _ _ _ h
def ahead(p:List bG)(z:gG × List bG × Int):gG × List bG × Int:=if z.2.2=0 then(z.1,p++z.2.1,0)else z
theorem p8:∀(n:Nat) (b:Bool) (s:Bt) (p o:List bG),s.length<n->cC n b s (p++o)=ahead p (cC n b s o)
 |0,_,_,_,_,h=>aX h (by omega)
 |n+1,b,s,p,o,h=>by
  rw[fL,fL];have e:ek (p++o) s (bX b s).2=p++ek o s (bX b s).2:=by
   unfold ek;split
   ·rw[aN]
   ·rfl
  rw[e];generalize ek o s (bX b s).2=o1;have hl:(s.drop (bX b s).2).length<=s.length:=by rw[aj];omega
  generalize s.drop (bX b s).2=s1 at*;generalize(bX b s).1=m;unfold fk;split
  ·simp[ahead]
  ·rename_i hc;have hm:m≠[]:=fun e=>hc (.inr e);have hp:=List.length_pos_iff.2 hm;have hl:m.length<=s1.length:=Nat.le_of_not_lt fun e=>hc (.inl e);split
   ·exact p8 n _ _ p o1 (by rw[aj];omega)
   ·split
    ·rename_i he;simp only[ahead,aa he]
    ·split
     ·simp[ahead]
     ·rw[aN];exact p8 n _ _ p _ (by rw[aj];omega)
theorem Bw(b:Bool)(s:Bt)(p:List bG):il b s p=ahead p (il b s []):=by
 have:=p8 (s.length+1) b s p [] (by omega)
 rwa [List.append_nil]at this
theorem Oj(b:Bool)(s c:Bt)(o:List bG):
 P6 (il b (s++c) o) (il b (s.drop (bX b s).2++c) (ek o s (bX b s).2)):=by
 rw[uM b (s++c),uM b (s.drop (bX b s).2++c),yP];have hi:=(nW b s).2;generalize(bX b s).2=i at*;generalize hj:bX b (s.drop i++c)=mj;obtain⟨m,j⟩:=mj;have e1:(s++c).drop (i+j)=(s.drop i++c).drop j:=by
  rw[<-List.drop_drop,List.drop_append_of_le_length hi]
 have e2:(s++c).take (i+j)=s.take i++(s.drop i++c).take j:=by
  rw[List.take_add,List.take_append_of_le_length hi,List.drop_append_of_le_length hi]
 show P6 (fk il b ((s++c).drop (i+j)) m (ek o (s++c) (i+j))) (fk il b ((s.drop i++c).drop j) m (ek (ek o s i) (s.drop i++c) j))
 rw[e1];refine yQ ?_ fun b' s' p p' hp=>AD hp;refine(oE _ _ _).trans ?_;rw[e2];refine iQ.trans ?_ (oE _ _ _).symm;refine iQ.trans ?_ ((oE _ _ _).symm.append (.refl _));rw[aN];exact(iQ.refl o).append (Lu _ _).symm
theorem mY(c:Bt):∀(n:Nat) (b:Bool) (s:Bt) (o:List bG),s.length<n->
 ((il b s o).2.2≠0->(il b (s++c) o).2.2=(il b s o).2.2)/\
 ((il b s o).2.2=0->P6 (il b (s++c) o) (il (il b s o).1.inside ((il b s o).1.rest++c) (il b s o).2.1))
 |0,_,_,_,h=>aX h (by omega)
 |n+1,b,s,o,h=>by
  have ht:=Oj b s c o;rw[uM b s o];have hd:=xJ b s;have hl:(s.drop (bX b s).2).length<=s.length:=by rw[aj];omega
  generalize ek o s (bX b s).2=o1 at*;generalize s.drop (bX b s).2=s1 at*;generalize(bX b s).1=m at*;unfold fk;split
  ·exact⟨fun h=>aX rfl h,fun _=>ht⟩
  ·rename_i hc;have hm:m≠[]:=fun e=>hc (.inr e);have hp:=List.length_pos_iff.2 hm;have IK:m.length<=s1.length:=Nat.le_of_not_lt fun e=>hc (.inl e);have hw:=Lt c hd hm IK;have hu:il b (s1++c) o1=fk il b (s1++c) m o1:=by
    rw[uM,hw];rfl
   have nC:¬((s1++c).length<m.length\/m=[]):=by
    rintro (e|e)
    ·rw[af]at e;omega
    ·exact hm e
   unfold fk at hu;rw[aa nC]at hu;split
   ·rename_i hr;rw[ae hr,List.drop_append_of_le_length IK]at hu;have ih:=mY c n (decide (m=ox)) (s1.drop m.length) o1 (by rw[aj];omega);rw[hu]at ht;exact⟨fun he=>ht.err.trans (ih.1 he),fun he=>ht.trans (ih.2 he)⟩
   ·rename_i hr;rw[aa hr]at hu;split
    ·rename_i he;rw[Ls s1 m c (.inl he),ae he]at hu;rw[hu]at ht;exact⟨fun _=>ht.err,fun h=>aX h he⟩
    ·rename_i he;split
     ·exact⟨fun h=>aX rfl h,fun _=>ht⟩
     ·rename_i hn;have wv:=(sH (s:=s1) (m:=m)).1;rw[Ls s1 m c (.inr hn),aa he,aa hn,List.drop_append_of_le_length wv]at hu;have ih:=mY c n b (s1.drop (fe s1 m).2.1) (o1++[(fe s1 m).1]) (by rw[aj];omega);rw[hu]at ht;exact⟨fun he=>ht.err.trans (ih.1 he),fun he=>ht.trans (ih.2 he)⟩
theorem qD(b:Bool)(s:Bt):(bX b s).1=[]\/(bX b s).1=fM\/(bX b s).1=ew\/(bX b s).1=ox\/(bX b s).1=tB:=by
 induction s with
 |nil=>exact .inl rfl
 |cons x l ih=>
  cases h:gh b (x::l)with
  |none=>
   have e:bX b (x::l)=((bX b l).1,(bX b l).2+1):=by rw[fz,h]
   rw[e];exact ih
  |some m=>
   have e:bX b (x::l)=(m,0):=by rw[fz,h]
   rw[e];refine .inr ?_;simp only[gh]at h;split at h
   ·unfold jS at h;split at h
    ·injection h with h;exact .inl h.symm
    ·split at h
     ·injection h with h;exact .inr (.inl h.symm)
     ·split at h
      ·injection h with h
       refine .inr (.inr ?_);unfold eS at h;split at h
       ·exact .inr h.symm
       ·exact .inl h.symm
      ·cases h
   ·cases h
theorem uN:∀(n:Nat) (b:Bool) (s:Bt) (o:List bG),s.length<n->(il b s o).2.2=0->jo (il b s o).1=true
 |0,_,_,_,h=>aX h (by omega)
 |n+1,b,s,o,h=>by
  rw[uM b s o];have hd:=xJ b s;have QP:=qD b s;have hl:(s.drop (bX b s).2).length<=s.length:=by rw[aj];omega
  generalize ek o s (bX b s).2=o1 at*;generalize s.drop (bX b s).2=s1 at*;generalize(bX b s).1=m at*;unfold fk;split
  ·rename_i hc;intro _;have hq:s1=[]\/s1.length<m.length:=by
    rcases hc with hc|hc
    ·exact .inr hc
    ·subst hc;cases s1 with
     |nil=>exact .inl rfl
     |cons x l=>
      cases hh:gh b (x::l)with
      |some m'=>
       rw[fz,hh]at hd;injection hd with h1 _
       exact aX h1 (Bv hh)
      |none=>
       rw[fz,hh]at hd;injection hd with _ h2
       omega
   unfold jo;simp only[hd];rcases hq with hq|hq
   ·rw[ae (.inl hq)];rfl
   ·rw[ae (.inr (.inr hq))];rfl
  ·rename_i hc;have hm:m≠[]:=fun e=>hc (.inr e);have hp:=List.length_pos_iff.2 hm;have IK:m.length<=s1.length:=Nat.le_of_not_lt fun e=>hc (.inl e);split
   ·exact uN n _ _ o1 (by rw[aj];omega)
   ·rename_i hr;split
    ·rename_i he;exact fun h=>aX h he
    ·rename_i he;have he:(fe s1 m).2.2=0:=bg he;split
     ·rename_i hn;intro _;have ho:m=fM\/m=ew:=by
       rcases QP with h|h|h|h|h
       ·exact aX h hm
       ·exact .inl h
       ·exact .inr h
       ·exact aX (.inl h) hr
       ·exact aX (.inr h) hr
      have zX:s1≠[]:=by rintro rfl;rw[aD]at IK;omega
      unfold jo;simp only[hd];rw[aa (by rintro (h|h|h);exact zX h;exact h rfl;exact aX (show s1.length<m.length from h) (by omega))];simp[ho,hn,he]
     ·exact uN n _ _ _ (by rw[aj];omega)
structure Xf(p:Bt)(x:gG)(out:List bG):Prop where
 Xg:P6 (il false p []) (x,out,0)
 right:jo x=true
 len:out.length+x.rest.length<=p.length
 sum:bT out+x.rest.length<=p.length
theorem vN:Xf [] ⟨[],false⟩ []:=⟨⟨rfl,rfl,.refl _⟩,rfl,by simp,by simp[bT]⟩
theorem mZ{x:gG}(h:jo x=true)(q:Bt):dC x q=il x.inside (x.rest++q) []:=by
 unfold dC;rw[ae h];rfl
theorem Xf.step{p:Bt}{x:gG}{out:List bG}(h:Xf p x out)(q:Bt)(he:(dC x q).2.2=0):Xf (p++q) (dC x q).1 (out++(dC x q).2.1):=by
 have fH:=vL x q;have h1:=h.len;have h2:=h.sum;rw[mZ h.right]at he fH|-;have hr:=uN _ x.inside (x.rest++q) [] (Nat.lt_succ_self _) he;have hp:=(mY q _ false p [] (Nat.lt_succ_self _)).2 h.Xg.err;have Bl:(il false p []).1=x:=h.Xg.st;rw[Bl]at hp;have Io:=hp.trans (AD h.Xg.uw);rw[Bw x.inside (x.rest++q) out]at Io;simp only[ahead,ae he]at Io;refine⟨Io,hr,?_,?_⟩
 ·rw[af,af];omega
 ·rw[dt,af];omega
theorem Xf.bad{p:Bt}{x:gG}{out:List bG}(h:Xf p x out)(q c:Bt)(he:(dC x q).2.2≠0):gH (p++q++c)=([],(dC x q).2.2):=by
 rw[mZ h.right]at he|-;have hp:=(mY q _ false p [] (Nat.lt_succ_self _)).2 h.Xg.err;have Bl:(il false p []).1=x:=h.Xg.st;rw[Bl]at hp;have Io:=hp.trans (AD h.Xg.uw);rw[Bw x.inside (x.rest++q) out]at Io;simp only[ahead,aa he]at Io;have e1:=Io.err;have hq:=(mY c _ false (p++q) [] (Nat.lt_succ_self _)).1 (by rw[e1];exact he);rw[e1]at hq;have hf:dC ⟨[],false⟩ (p++q++c)=il false (p++q++c) []:=mZ rfl _;unfold gH;simp only[hf,hq];rw[ae he]
theorem Xf.Xh{s:Bt}{x:gG}{out:List bG}(h:Xf s x out):gH s=if(ig x).2≠0 then([],(ig x).2)else(eV (out++(ig x).1),0):=by
 have hf:dC ⟨[],false⟩ s=il false s []:=mZ rfl _;have h1:(il false s []).1=x:=h.Xg.st;have h2:(il false s []).2.2=0:=h.Xg.err;have h3:=h.Xg.uw;unfold gH;simp only[hf,h1,h2];rw[aa (by simp)];have e:eV ((il false s []).2.1++(ig x).1)=eV (out++(ig x).1):=(h3.append (.refl (ig x).1)) [];rw[e]
section
variable {P:Program} {w:World}
end
theorem qF{P:Program}{e:TypeId}{z:Value}{n b:Nat}(h:(P.info? e).map (fun i=>(i.zero,i.size,i.bytes))=some (some z,n,b)):∃i,P.info? e=some i/\i.zero=some z/\i.size=n/\i.bytes=b:=by
 cases hi:P.info? e with
 |none=>rw[hi]at h;cases h
 |some i=>
  rw[hi]at h;simp only[Option.map_some,Option.some.injEq,Prod.mk.injEq]at h;exact⟨i,rfl,h.1,h.2.1,h.2.2⟩
theorem Qa:kJ prog 36 62 7 104:=by
 obtain⟨i0,hi,zR,rq,vF⟩:=qF (show(prog.info? 62).map (fun i=>(i.zero,i.size,i.bytes))=some (some (.agg #[.int .i64 0,.string ⟨#[]⟩,.string ⟨#[]⟩,.string ⟨#[]⟩,.bool false,.string ⟨#[]⟩,.slice none 0 0]),7,104) by kernel_rfl);exact⟨i0,_,underlying36,hi,zR,rq,vF,rfl,by omega⟩
section
variable {W:World} {base:Nat} {G:Nat->Prop} {v:Value} {o:List Elem} {e:Elem} {kv:Value}
end
end Go.Proofs.YtejafaaihodehaaGreatDoor
