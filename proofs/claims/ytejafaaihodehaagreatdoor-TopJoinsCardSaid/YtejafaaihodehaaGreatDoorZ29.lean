/- Part 29. -/
import Derived.Test.YtejafaaihodehaaGreatDoorZ23
import Derived.Test.YtejafaaihodehaaGreatDoorZ24
set_option linter.all false
set_option maxRecDepth 100000
set_option maxHeartbeats 8000000
namespace Go.Proofs.YtejafaaihodehaaGreatDoor
open Go Go.RowKit Tryz
theorem XC{s:Bt}{b:Bool}{o:List bG}(h:Xf s ⟨[],b⟩ o):gH s=(eV o,0):=by
 rw[h.Xh];have e:ig ⟨[],b⟩=([],0):=by
  unfold ig;rw[ae h.right];rfl
 rw[e];simp
theorem O3(s:Bt):∀t∈(gH s).1,fJ t:=by
 unfold gH;simp only;split
 ·intro t ht;cases ht
 ·split
  ·intro t ht;cases ht
  ·refine vg fun x hx=>?_;rcases List.mem_append.1 hx with h|h
   ·exact oJ _ _ x h
   ·exact s9 _ x h
theorem Md(s:Bt):lO (gH s).1:=by
 unfold gH;simp only;split
 ·trivial
 ·split
  ·trivial
  ·refine zh fun x hx=>?_;rcases List.mem_append.1 hx with h|h
   ·exact oJ _ _ x h
   ·exact s9 _ x h
def U2(z:List Level × Int):List Elem × Int:=
 if z.2≠0 then([],z.2)else match z.1 with
  |[p]=>(p.e.bE,0)
  |_=>([],42)
theorem vm(p:Level):U2 ([p],0)=(p.e.bE,0):=rfl
theorem zj{z:List Level × Int}(h:(U2 z).2=0):∃p,z=([p],0):=by
 unfold U2 at h;split at h
 ·rename_i db;exact aX h db
 ·rename_i db;have h0:z.2=0:=bg db;obtain⟨z1,z2⟩:=z;simp only at h h0;subst h0;split at h
  ·exact⟨_,rfl⟩
  ·cases h
theorem vY{s:Bt}(h:(cM s).2=0):(gH s).2=0:=by
 unfold cM at h;split at h
 ·assumption
 ·rename_i db;exact bg db
theorem sa{s:Bt}(h:(gH s).2=0):cM s=U2 (bO 0 [dN] (gH s).1):=by
 unfold cM;rw[aa (by simp[h])]
 show U2 (bO 0 [dN] (ed (gH s).1))=_
 rw[O2 (O3 s) (Md s)]
theorem rl:∀(l:List bG) (i:Nat) (st:List Level),Cr st->Cr (bO i st l).1
 |[],_,_,h=>h
 |t::l,i,st,h=>by
  have h2:=(tc [] t st h).2;unfold bO;split
  ·exact h
  ·split
   ·exact h2
   ·exact rl l _ _ h2
theorem U3{s:Bt}(h:(gH s).2=0):(dC ⟨[],false⟩ s).2.2=0:=by
 refine bg fun db=>?_;have:=vN.bad s [] db;rw[List.nil_append,List.append_nil]at this;rw[this]at h;exact db h
theorem Gb(a b:Bt)(r:fo):(r.ia b).ia a=r.ia (a++b):=by
 unfold fo.ia;simp
theorem Me(D:lq)(tk:Tk)(sub:Bool)(n:Nat)(o:Bt):∀(l:List Elem) (out:Bt) (c:Nat),
 cT D tk sub n (o++out) l c=((cT D tk sub (n+o.length) out l c).1.ia o,(cT D tk sub (n+o.length) out l c).2)
 |[],out,c=>by
  rw[cT,cT];rfl
 |e::l,out,c=>by
  rw[jf,jf];have hn:n+(o++out).length=n+o.length+out.length:=by rw[af];omega
  rw[hn];generalize pR D tk sub (n+o.length+out.length) e c=r;split
  ·rfl
  ·split
   ·show(r.1.ia (o++out),r.2)=((r.1.ia out).ia o,r.2)
    rw[Gb]
   ·rw[aN];exact Me D tk sub n o l (out++r.1.out) r.2
theorem qK(D:lq)(tk:Tk)(sub:Bool)(n:Nat):∀(l m:List Elem) (out:Bt) (c:Nat),
 cT D tk sub n out (l++m) c=if(cT D tk sub n out l c).1.state≠0 then cT D tk sub n out l c else cT D tk sub n (cT D tk sub n out l c).1.out m (cT D tk sub n out l c).2
 |[],m,out,c=>by
  rw[List.nil_append,show cT D tk sub n out [] c=(dL out,c)from by rw[cT],aa (fun h=>h rfl)];rfl
 |e::l,m,out,c=>by
  rw[aU,jf,jf];generalize pR D tk sub (n+out.length) e c=r;by_cases h1:20000<n+out.length+r.1.out.length
  ·rw[ae h1,ae h1,ae (by show(2:Int)≠0;decide)]
  ·rw[aa h1,aa h1];by_cases h2:r.1.state≠0
   ·rw[ae h2,ae h2,ae (by exact h2)]
   ·rw[aa h2,aa h2];exact qK D tk sub n l m (out++r.1.out) r.2
mutual
def Em:Elem->Nat
 |.mk k _ _ a _ _ l=>(if k=2 then(if a=[]then 1 else 2)else 0)+cntF l
def cntF:List Elem->Nat
 |[]=>0
 |e::l=>Em e+cntF l
end
structure vp(tk:Tk):Prop where
 same:∀s c c',c<20->c'<20->(tk s c').1=(tk s c).1/\(tk s c').2+c=(tk s c).2+c'
 up:∀s c,c<=(tk s c).2/\(tk s c).2<=c+1
theorem xP(D:lq)(tk:Tk)(sub:Bool)(n:Nat):∀(l:List Elem) (out:Bt) (c:Nat),n+out.length<=20000->
 n+(cT D tk sub n out l c).1.out.length<=20000/\out.length<=(cT D tk sub n out l c).1.out.length
 |[],out,c,h=>by
  rw[cT];exact⟨h,dv _⟩
 |e::l,out,c,h=>by
  rw[jf];generalize pR D tk sub (n+out.length) e c=r;by_cases h1:20000<n+out.length+r.1.out.length
  ·rw[ae h1];exact⟨h,dv _⟩
  ·rw[aa h1];by_cases h2:r.1.state≠0
   ·rw[ae h2]
    show n+(out++r.1.out).length<=20000/\out.length<=(out++r.1.out).length
    rw[af];omega
   ·rw[aa h2];have:=xP D tk sub n l (out++r.1.out) r.2 (by rw[af];omega);rw[af]at this;omega
def lZ(n d c c' m:Nat)(r r':fo × Nat):Prop:=
 c<=r.2/\r.2<=c+m/\((r'.1=r.1/\r'.2+c=r.2+c')\/(n+r.1.out.length<=20000/\20000<n+d+r.1.out.length))
theorem lZ.same{n d c c' m:Nat}{x:fo}:lZ n d c c' m (x,c) (x,c'):=⟨dv _,by show c<=c+m;omega,.inl ⟨rfl,by show c'+c=c+c';omega⟩⟩
theorem Gc{tk:Tk}(ht:vp tk)(s a:Bt)(b:Bool)(n d c c' m:Nat)(hm:(if a=[]then 1 else 2)<=m)(hc:c+m<=20)(Qm:c'+m<=20):lZ n d c c' m (kP tk s a b c) (kP tk s a b c'):=by
 have M0:1<=m:=by split at hm<;>omega
 have h1:=ht.same s c c' (by omega) (by omega);have u1:=ht.up s c;have u1':=ht.up s c';unfold kP;generalize tk s c=r at*;generalize tk s c'=r' at*;obtain⟨x,k⟩:=r;obtain⟨x',k'⟩:=r';simp only at h1 u1 u1';obtain⟨rfl,h1⟩:=h1;simp only;by_cases h2:x'.state=2/\a≠[]
 ·rw[ae h2,ae h2];rw[aa h2.2]at hm;have h3:=ht.same a k k' (by omega) (by omega);have u2:=ht.up a k;generalize tk a k=r at*;generalize tk a k'=r' at*;obtain⟨y,j⟩:=r;obtain⟨y',j'⟩:=r';simp only at h3 u2;obtain⟨rfl,h3⟩:=h3;simp only;split
  ·exact⟨by show c<=j;omega,by show j<=c+m;omega,.inl ⟨rfl,by show j'+c=j+c';omega⟩⟩
  ·exact⟨by show c<=j;omega,by show j<=c+m;omega,.inl ⟨rfl,by show j'+c=j+c';omega⟩⟩
 ·rw[aa h2,aa h2];simp only;split
  ·exact⟨by show c<=k;omega,by show k<=c+m;omega,.inl ⟨rfl,by show k'+c=k+c';omega⟩⟩
  ·exact⟨by show c<=k;omega,by show k<=c+m;omega,.inl ⟨rfl,by show k'+c=k+c';omega⟩⟩
theorem lZ.mono{n d c c' m m':Nat}{r r':fo × Nat}(h:lZ n d c c' m r r')(hm:m<=m'):lZ n d c c' m' r r':=⟨h.1,by have:=h.2.1;omega,h.2.2⟩
theorem lZ.none{c c' m:Nat}{r r':fo × Nat}(h:lZ 0 0 c c' m r r'):r'.1=r.1/\r'.2+c=r.2+c':=by
 rcases h.2.2 with h1|h1
 ·exact h1
 ·omega
mutual
theorem O4(D:lq){tk:Tk}(ht:vp tk):∀(e:Elem) (sub:Bool) (n d c c':Nat),n<=20000->c+Em e<=20->c'+Em e<=20->lZ n d c c' (Em e) (pR D tk sub n e c) (pR D tk sub (n+d) e c')
 |.mk k t s a b u l,sub,n,d,c,c',hn,hc,Qm=>by
  rw[Em]at hc Qm|-;rw[pR,pR];by_cases h1:k=1
  ·rw[ae h1,ae h1];exact lZ.same
  ·rw[aa h1,aa h1];by_cases h2:k=10
   ·rw[ae h2,ae h2];exact(lg D ht l true [] n d c c' (by simpa using hn) (by omega) (by omega)).mono (by omega)
   ·rw[aa h2,aa h2];by_cases h3:k=7
    ·rw[ae h3,ae h3];exact(wV D ht l sub n d c c' hn (by omega) (by omega)).mono (by omega)
    ·rw[aa h3,aa h3];by_cases h4:k=4
     ·rw[ae h4,ae h4];exact(O5 D ht l sub n d c c' (by omega) (by omega)).mono (by omega)
     ·rw[aa h4,aa h4];by_cases h5:k=2
      ·rw[ae h5,ae h5];rw[ae h5]at hc Qm|-;exact Gc ht s a b n d c c' _ (by omega) (by omega) (by omega)
      ·simp only[aa h5];exact lZ.same
theorem lg(D:lq){tk:Tk}(ht:vp tk):∀(l:List Elem) (sub:Bool) (out:Bt) (n d c c':Nat),n+out.length<=20000->c+cntF l<=20->c'+cntF l<=20->lZ n d c c' (cntF l) (cT D tk sub n out l c) (cT D tk sub (n+d) out l c')
 |[],sub,out,n,d,c,c',hn,hc,Qm=>by
  rw[cT,cT];exact lZ.same
 |e::l,sub,out,n,d,c,c',hn,hc,Qm=>by
  rw[cntF]at hc Qm|-;have h1:=O4 D ht e sub (n+out.length) d c c' hn (by omega) (by omega);have ih:=fun(r:fo × Nat) (c1:Nat) (hb:¬20000<n+out.length+r.1.out.length) (h2:r.2+cntF l<=20) (h3:c1+cntF l<=20)=>lg D ht l sub (out++r.1.out) n d r.2 c1 (by rw[af];omega) h2 h3;have J2:=fun(r:fo × Nat) (hb:¬20000<n+out.length+r.1.out.length)=>xP D tk sub n l (out++r.1.out) r.2 (by rw[af];omega);rw[jf,jf,show n+d+out.length=n+out.length+d by omega];generalize pR D tk sub (n+out.length) e c=r at*;generalize pR D tk sub (n+out.length+d) e c'=r' at*;obtain⟨k1,k2,k3⟩:=h1;by_cases b1:20000<n+out.length+r.1.out.length
  ·rcases k3 with⟨k3,k4⟩|k3
   ·rw[ae b1,ae (by rw[k3];omega)];exact⟨k1,by show r.2<=_;omega,.inl ⟨rfl,k4⟩⟩
   ·omega
  ·rw[aa b1];have hR:c<=(if r.1.state≠0 then(r.1.ia out,r.2)else cT D tk sub n (out++r.1.out) l r.2).2/\(if r.1.state≠0 then(r.1.ia out,r.2)else cT D tk sub n (out++r.1.out) l r.2).2<=c+(Em e+cntF l)/\
    n+(if r.1.state≠0 then(r.1.ia out,r.2)else cT D tk sub n (out++r.1.out) l r.2).1.out.length<=20000/\out.length+r.1.out.length<=(if r.1.state≠0 then(r.1.ia out,r.2)else cT D tk sub n (out++r.1.out) l r.2).1.out.length:=by
    split
    ·refine⟨k1,by show r.2<=_;omega,?_,?_⟩
     ·show n+(out++r.1.out).length<=20000
      rw[af];omega
     ·show out.length+r.1.out.length<=(out++r.1.out).length
      rw[af];omega
    ·have i1:=ih r r.2 b1 (by omega) (by omega);have i2:=J2 r b1;rw[af]at i2;exact⟨by have:=i1.1;omega,by have:=i1.2.1;omega,i2.1,i2.2⟩
   by_cases b2:20000<n+out.length+d+r.1.out.length
   ·exact⟨hR.1,hR.2.1,.inr ⟨hR.2.2.1,by have:=hR.2.2.2;omega⟩⟩
   ·rcases k3 with⟨k3,k4⟩|k3
    ·rw[k3,aa b2];by_cases b3:r.1.state≠0
     ·rw[ae b3]at hR|-;rw[ae b3];exact⟨hR.1,hR.2.1,.inl ⟨rfl,k4⟩⟩
     ·rw[aa b3]at hR|-;rw[aa b3];have i1:=ih r r'.2 b1 (by omega) (by omega);refine⟨hR.1,hR.2.1,?_⟩;rcases i1.2.2 with⟨j1,j2⟩|j
      ·exact .inl ⟨j1,by omega⟩
      ·exact .inr j
    ·omega
theorem wV(D:lq){tk:Tk}(ht:vp tk):∀(l:List Elem) (sub:Bool) (n d c c':Nat),n<=20000->c+cntF l<=20->c'+cntF l<=20->lZ n d c c' (cntF l) (fQ D tk sub n l c) (fQ D tk sub (n+d) l c')
 |[],sub,n,d,c,c',hn,hc,Qm=>by
  rw[fQ,fQ];exact lZ.same
 |.mk k t s a b u l::r,sub,n,d,c,c',hn,hc,Qm=>by
  rw[cntF,Em]at hc Qm|-;rw[fQ,fQ];by_cases h1:k=9
  ·rw[ae h1,ae h1];exact(lg D ht l sub [] n d c c' (by simpa using hn) (by omega) (by omega)).mono (by omega)
  ·rw[aa h1,aa h1];by_cases h2:(D.test u).2≠0
   ·rw[ae h2,ae h2];exact lZ.same
   ·rw[aa h2,aa h2];by_cases h3:(D.test u).1=true
    ·rw[ae h3,ae h3];exact(lg D ht l sub [] n d c c' (by simpa using hn) (by omega) (by omega)).mono (by omega)
    ·rw[aa h3,aa h3];exact(wV D ht r sub n d c c' hn (by omega) (by omega)).mono (by omega)
theorem O5(D:lq){tk:Tk}(ht:vp tk):∀(l:List Elem) (sub:Bool) (n d c c':Nat),c+cntF l<=20->c'+cntF l<=20->lZ n d c c' (cntF l) (um D tk sub l c) (um D tk sub l c')
 |[],sub,n,d,c,c',hc,Qm=>by
  rw[um,um];exact lZ.same
 |[.mk k t s a b u l],sub,n,d,c,c',hc,Qm=>by
  rw[um,um];exact lZ.same
 |.mk k t s a b u l1:: .mk k2 t2 s2 a2 b2 u2 l2::r,sub,n,d,c,c',hc,Qm=>by
  rw[cntF,Em,cntF,Em]at hc Qm|-;have h1:lZ 0 0 c c' (cntF l1) (cT D tk sub 0 [] l1 c) (cT D tk sub 0 [] l1 c'):=lg D ht l1 sub [] 0 0 c c' (by simp) (by omega) (by omega);have h2:∀(p q:Nat) (hp:p+cntF l2<=20) (hq:q+cntF l2<=20),lZ 0 0 p q (cntF l2) (cT D tk sub 0 [] l2 p) (cT D tk sub 0 [] l2 q):=fun p q hp hq=>lg D ht l2 sub [] 0 0 p q (by simp) hp hq;have e1:=h1.none;rw[um,um];generalize cT D tk sub 0 [] l1 c=x at*;generalize cT D tk sub 0 [] l1 c'=x' at*;have k1:=h1.1;have k2:=h1.2.1;by_cases hs:x.1.state=2
  ·have h3:=h2 x.2 x'.2 (by omega) (by omega);have e2:=h3.none;have k3:=h3.1;have k4:=h3.2.1;simp only[hs,e1.1,if_true];exact⟨by show c<=(cT D tk sub 0 [] l2 x.2).2;omega,by show(cT D tk sub 0 [] l2 x.2).2<=_;omega,.inl ⟨by show eF _=eF _;rw[e2.1],by show(cT D tk sub 0 [] l2 x'.2).2+c=(cT D tk sub 0 [] l2 x.2).2+c';omega⟩⟩
  ·simp only[e1.1,aa hs];exact⟨k1,by show x.2<=_;omega,.inl ⟨rfl,by show x'.2+c=x.2+c';omega⟩⟩
end
def Hq(D:lq)(base s:Bt):fo:=
 match mG D.cN (dA base (D.sub s)).1 with
 |none=>yC (dA base (D.sub s)).1
 |some r=>if fj r≠0 then cF [] (fj r)else dL r.body
theorem iU(D:lq)(deep:Bool)(ej:Bt->List Elem->List Elem->Nat->fo × Nat)(base:Bt)(el:List Elem)(hi:∀nm,ei nm el=none)(he:∀r∈D.cN,r.eU=false)(s:Bt)(c:Nat):
 iP D deep ej base el s c=if(dA base (D.sub s)).2≠0 then(cF [] (dA base (D.sub s)).2,c)else if 20<=c then(cF [] 4,c)else(Hq D base s,c+1):=by
 unfold iP Hq;simp only[hi];by_cases h1:(dA base (D.sub s)).2≠0
 ·rw[ae h1,ae h1]
 ·rw[aa h1,aa h1];by_cases h2:20<=c
  ·rw[ae h2,ae h2]
  ·rw[aa h2,aa h2];cases hg:mG D.cN (dA base (D.sub s)).1 with
   |none=>rfl
   |some r=>
    have hm:r.eU=false:=he r (List.mem_of_find?_eq_some hg);simp only;by_cases h3:fj r≠0
    ·rw[ae h3,ae h3]
    ·rw[aa h3,aa h3,ae hm]
theorem Cs(D:lq)(deep:Bool)(ej:Bt->List Elem->List Elem->Nat->fo × Nat)(base:Bt)(el:List Elem)(hi:∀nm,ei nm el=none)(he:∀r∈D.cN,r.eU=false):vp (iP D deep ej base el):=by
 constructor
 ·intro s c c' hc Qm;rw[iU D deep ej base el hi he,iU D deep ej base el hi he];by_cases h1:(dA base (D.sub s)).2≠0
  ·rw[ae h1,ae h1];exact⟨rfl,by show c'+c=c+c';omega⟩
  ·rw[aa h1,aa h1,aa (by omega),aa (by omega)];exact⟨rfl,by show c'+1+c=c+1+c';omega⟩
 ·intro s c;rw[iU D deep ej base el hi he];split
  ·exact⟨dv _,aY _⟩
  ·split
   ·exact⟨dv _,aY _⟩
   ·exact⟨aY _,dv _⟩
theorem En(D:lq)(d:Nat)(base:Bt)(el el':List Elem)(hi:∀nm,ei nm el=none)(hi':∀nm,ei nm el'=none)(he:∀r∈D.cN,r.eU=false):gJ D d base el=gJ D d base el':=by
 funext s c;cases d with
 |zero=>
  show iP D true _ base el s c=iP D true _ base el' s c
  rw[iU D _ _ base el hi he,iU D _ _ base el' hi' he]
 |succ d=>
  show iP D false _ base el s c=iP D false _ base el' s c
  rw[iU D _ _ base el hi he,iU D _ _ base el' hi' he]
mutual
def Mf:Elem->Prop
 |.mk k _ _ _ _ _ l=>k≠3/\Eo l
def Eo:List Elem->Prop
 |[]=>True
 |e::l=>Mf e/\Eo l
end
mutual
theorem O6(nm:Bt):∀e:Elem,Mf e->mV nm e=none
 |.mk k t s a b u l,h=>by
  rw[Mf]at h;rw[mV,aa (fun hk=>h.1 hk.1)];exact qh nm l h.2
theorem qh(nm:Bt):∀l:List Elem,Eo l->ei nm l=none
 |[],h=>by rw[ei]
 |e::l,h=>by
  rw[Eo]at h;rw[ei,O6 nm e h.1];exact qh nm l h.2
end
theorem Hr(D:lq){tk:Tk}(ht:vp tk)(l m:List Elem)(hc:cntF l+cntF m<=20)(ha:(cT D tk false 0 [] l 0).1.state=0)
 (hl:(cT D tk false 0 [] l 0).1.out.length+(cT D tk false 0 [] m 0).1.out.length<=10000):
 (cT D tk false 0 [] (l++m) 0).1=(cT D tk false 0 [] m 0).1.ia (cT D tk false 0 [] l 0).1.out:=by
 rw[qK,aa (by rw[ha];simp)];have h1:=lg D ht l false [] 0 0 0 0 (by simp) (by omega) (by omega);generalize cT D tk false 0 [] l 0=A at*;have hk:A.2<=cntF l:=by have:=h1.2.1;omega
 have h2:=lg D ht m false [] 0 A.1.out.length 0 A.2 (by simp) (by omega) (by omega);have h3:=Me D tk false 0 A.1.out m [] A.2;rw[List.append_nil]at h3;rw[h3];generalize cT D tk false 0 [] m 0=Bm at*;rcases h2.2.2 with⟨e,-⟩|e
 ·show(cT D tk false (0+A.1.out.length) [] m A.2).1.ia A.1.out=_
  rw[e]
 ·omega
theorem xQ{α:Type}:∀l:List α,l=[]\/∃p u,l=p++[u]
 |[]=>.inl rfl
 |x::l=>.inr (by
  rcases xQ l with rfl|⟨p,u,rfl⟩
  ·exact⟨[],x,rfl⟩
  ·exact⟨x::p,u,rfl⟩)
def JI(a:Bt):List bG->List bG
 |[]=>[bS a]
 |t::l=>if t.kind=0 then bS (a++t.text)::l else bS a::t::l
theorem vZ(a:Bt)(x:bG)(l:List bG)(u:bG):JI a ((x::l)++[u])=JI a (x::l)++[u]:=by
 show(if x.kind=0 then bS (a++x.text)::(l++[u])else bS a::x::(l++[u]))=(if x.kind=0 then bS (a++x.text)::l else bS a::x::l)++[u]
 split<;>rfl
theorem wW{o:List bG}{t:bG}(h:t.kind=0)(he:t.text=[]):bV o t=o:=by
 unfold bV;rw[aa (by simp[h]),ae he]
theorem Ep{t:bG}:bV [] t=if t.kind=0/\t.text=[]then[]else[t]:=by
 unfold bV;by_cases h:t.kind=0
 ·rw[aa (by simp[h])];by_cases he:t.text=[]
  ·rw[ae he,ae ⟨h,he⟩]
  ·rw[aa he,aa (fun k=>he k.2)];rfl
 ·rw[ae h,aa (fun k=>h k.1)];rfl
theorem ot{p:List bG}{u t:bG}(hu:u.kind=0)(h:t.kind=0)(he:t.text≠[]):bV (p++[u]) t=p++[{u with text:=u.text++t.text}]:=by
 unfold bV;rw[aa (by simp[h]),aa he,List.getLast?_append];simp[hu]
theorem o8{p:List bG}{u t:bG}(hu:u.kind≠0)(h:t.kind=0)(he:t.text≠[]):bV (p++[u]) t=p++[u]++[t]:=by
 unfold bV;rw[aa (by simp[h]),aa he,List.getLast?_append];simp[hu]
theorem Sd(a:Bt)(l:List bG)(t:bG)(ht:fJ t):bV (JI a l) t=JI a (bV l t):=by
 by_cases h0:t.kind=0
 ·have qy:t.bK=[]:=by
   rcases ht with h|h|h|h
   ·exact h.2
   ·omega
   ·omega
   ·omega
  by_cases he:t.text=[]
  ·rw[wW h0 he,wW h0 he]
  ·have ett:t=bS t.text:=by
    obtain⟨k,x,at_⟩:=t;simp only at h0 qy;rw[h0,qy];rfl
   rcases xQ l with rfl|⟨p,u,rfl⟩
   ·rw[Ep,aa (fun k=>he k.2)]
    show bV ([]++[bS a]) t=(if t.kind=0 then[bS (a++t.text)]else _)
    rw[ot rfl h0 he,ae h0];rfl
   ·by_cases hu:u.kind=0
    ·rw[ot hu h0 he];cases p with
     |nil=>
      show bV (if u.kind=0 then[bS (a++u.text)]else _) t=(if u.kind=0 then[bS (a++(u.text++t.text))]else _)
      rw[ae hu,ae hu];have:=ot (p:=[]) (u:=bS (a++u.text)) rfl h0 he;rw[List.nil_append]at this;rw[this]
      show[bS (a++u.text++t.text)]=_
      rw[aN]
     |cons x p=>
      rw[vZ,vZ,ot hu h0 he]
    ·rw[o8 hu h0 he];cases p with
     |nil=>
      show bV (if u.kind=0 then _ else[bS a,u]) t=(if u.kind=0 then _ else[bS a,u,t])
      rw[aa hu,aa hu];exact o8 (p:=[bS a]) hu h0 he
     |cons x p=>
      rw[aN,vZ,o8 hu h0 he,aN]
      show(if x.kind=0 then bS (a++x.text)::p else bS a::x::p)++([u]++[t])=(if x.kind=0 then bS (a++x.text)::(p++([u]++[t]))else bS a::x::(p++([u]++[t])))
      split<;>rfl
 ·rw[ta h0,ta h0];cases l with
  |nil=>
   show[bS a]++[t]=(if t.kind=0 then _ else _)
   rw[aa h0];rfl
  |cons x l=>exact(vZ a x l t).symm
theorem Hs(a:Bt):∀(q l:List bG),(∀t∈q,fJ t)->q.foldl bV (JI a l)=JI a (q.foldl bV l)
 |[],_,_=>rfl
 |t::q,l,h=>by
  rw[List.foldl_cons,List.foldl_cons,Sd a l t (h t (by simp))];exact Hs a q _ fun x hx=>h x (by simp[hx])
theorem Er{t:bG}(h:fJ t)(h0:t.kind=0):t=bS t.text:=by
 rcases h with h|h|h|h
 ·obtain⟨k,x,at_⟩:=t;obtain⟨h1,h2⟩:=h;simp only at h1 h2;rw[h1,h2];rfl
 ·omega
 ·omega
 ·omega
theorem Se(o q:List bG)(ho:∀t∈o,fJ t)(hq:∀t∈q,fJ t):
 eV (o++q)=eV o++eV q\/∃A a b B,eV o=A++[bS a]/\eV q=bS b::B/\eV (o++q)=A++bS (a++b)::B:=by
 have hf:eV (o++q)=q.foldl bV (eV o):=List.foldl_append;rcases xQ (eV o)with hn|⟨p,u,hp⟩
 ·left;rw[hf,hn];rfl
 ·by_cases hu:u.kind=0
  ·have hut:=Er (vg ho u (by rw[hp];simp)) hu;have hj:=zh ho;rw[hp]at hj;have he:vW p:=(xN hj hu).2;rw[hut]at hp;rw[hf,hp,vh he];have hg:q.foldl bV [bS u.text]=JI u.text (eV q):=Hs u.text q [] hq;rw[hg];cases hQ:eV q with
   |nil=>left;simp[JI]
   |cons t B=>
    unfold JI;by_cases h0:t.kind=0
    ·right;have:=Er (vg hq t (by rw[hQ];simp)) h0;refine⟨p,u.text,t.text,B,rfl,by rw[<-this],?_⟩;simp only[ae h0]
    ·left;simp only[aa h0];rw[aN];rfl
  ·left;refine Mc ?_;rw[hp];exact JH hu
theorem np(x:List Elem):∀(l:List bG) (i:Nat) (st:List Level),Cr st->bO i (ie (cX x) st) l=(ie (cX x) (bO i st l).1,(bO i st l).2)
 |[],i,st,h=>rfl
 |t::l,i,st,h=>by
  unfold bO;obtain⟨e1,e2⟩:=tc x t st h;by_cases h4:400<=i
  ·rw[ae h4,ae h4]
  ·rw[aa h4,aa h4,e1];by_cases hn:(cD st t).2≠0
   ·rw[ae hn,ae hn]
   ·rw[aa hn,aa hn];exact np x l (i+1) _ e2
theorem rm:∀(l:List bG) (i j:Nat) (st:List Level),(bO i st l).2=0->(bO j st l).2=0->bO i st l=bO j st l
 |[],_,_,_,_,_=>rfl
 |t::l,i,j,st,h,h'=>by
  unfold bO at h h'|-;by_cases h4:400<=i
  ·rw[ae h4]at h;cases h
  ·by_cases h5:400<=j
   ·rw[ae h5]at h';cases h'
   ·rw[aa h4]at h|-;rw[aa h5]at h'|-;by_cases hn:(cD st t).2≠0
    ·rw[ae hn,ae hn]
    ·rw[aa hn]at h h'|-;rw[aa hn];exact rm l _ _ _ h h'
theorem Mg{p:Level}(h:nM p):[p]=ie (cX p.e.bE) [dN]:=by
 rw[h.eq]
 show _=[cX _ dN]
 unfold cX dN;simp only[Elem.fP];congr 1
 show Level.mk _ _=Level.mk _ _
 congr 1
 show(fi 0).dD p.e.bE=(fi 0).dD (p.e.bE++[])
 rw[List.append_nil]
theorem U4(x:List Elem)(e:Elem):kO (ie (cX x) [dN]) e=ie (cX (x++[e])) [dN]:=by
 show[⟨oT ((fi 0).dD (x++[])) e,[]⟩]=[cX (x++[e]) dN]
 unfold cX dN;congr 1
 show Level.mk _ _=Level.mk _ _
 congr 1;unfold oT;rw[aa (by rw[Elem.jU];decide),o7,Elem.fP]
 show(fi 0).dD (x++[]++[e])=(fi 0).dD (x++[e]++[])
 simp
theorem Sf{st:List Level}{a:Bt}{p:Level}(hb:Cr st)(db:st≠[])(h:(cD st (bS a)).2=0)(hp:(cD st (bS a)).1=[p]):
 ∃u,st=[u]/\nM u/\p.e.bE=u.e.bE++[dH a]:=by
 have Du:=(tc [] (bS a) st hb).2;rw[hp]at Du;have Du:nM p:=Du;have hw:cD st (bS a)=mF st (bS a):=by
  unfold cD;rw[aa (by show ¬((0:Int)=1\/(0:Int)=3);decide),aa (by show ¬((0:Int)=2);decide)]
 rw[hw]at hp;cases st with
 |nil=>exact aX rfl db
 |cons u r=>
  unfold mF at hp;simp only at hp;split at hp
  ·rename_i hk;have hp:u::r=[p]:=hp;injection hp with h1 h2
   rw[h1,Du.kind]at hk;omega
  ·have hp:(⟨oT u.e (dH a),u.name⟩:Level)::r=[p]:=hp;injection hp with h1 h2
   subst h2;have hu:nM u:=hb;refine⟨u,rfl,hu,?_⟩;rw[<-h1]
   show(oT u.e (dH a)).bE=_
   unfold oT;rw[aa (by rw[hu.kind];decide),Elem.fP]
theorem Ht(x:List Elem)(a:Bt):cD (ie (cX x) [dN]) (bS a)=(ie (cX (x++[dH a])) [dN],0):=by
 unfold cD;rw[aa (by show ¬((0:Int)=1\/(0:Int)=3);decide),aa (by show ¬((0:Int)=2);decide)]
 show mF [cX x dN] (bS a)=_
 unfold mF;simp only;rw[aa (by show ¬(((fi 0).dD _).kind=4\/((fi 0).dD _).kind=7);rw[Elem.jU];decide)];exact Prod.ext (U4 x (dH a)) rfl
def an2(l m n:List Elem):Prop:=n=l++m\/∃lA a b mB,l=lA++[dH a]/\m=dH b::mB/\n=lA++dH (a++b)::mB
theorem rn(x:List Elem)(p:Level):(cX x p).e.bE=x++p.e.bE:=by
 unfold cX;exact Elem.fP _ _
theorem Sg{s t:Bt}{o:List bG}(h:dC ⟨[],false⟩ s=(⟨[],false⟩,o,0))(h1:(cM s).2=0)(h2:(cM t).2=0)(h3:(cM (s++t)).2=0):
 an2 (cM s).1 (cM t).1 (cM (s++t)).1:=by
 have g2:=vY h2;have pq:=U3 g2;have fs:=vN.step s (by rw[h]);rw[h]at fs;have fst:=fs.step t pq;have ft:=vN.step t pq;have hpo:∀x∈o,fJ x:=by have:=oJ ⟨[],false⟩ s;rw[h]at this;exact this
 have hpq:=oJ ⟨[],false⟩ t;generalize dC ⟨[],false⟩ t=z at*;simp only[List.nil_append]at fs fst ft;have es:=XC fs;have et:=ft.Xh;have est:=fst.Xh;have UY:(ig z.1).2=0:=by
  refine bg fun db=>?_;rw[ae db]at et;rw[et]at g2;exact db g2
 rw[aa (by simp[UY])]at et est;rw[aN]at est;have hpe:=s9 z.1;generalize hq:z.2.1++(ig z.1).1=q at*;have ax1:∀x∈q,fJ x:=fun x hx=>by
  rw[<-hq]at hx;rcases List.mem_append.1 hx with h|h
  ·exact hpq x h
  ·exact hpe x h
 have r1:=sa (s:=s) (by rw[es]);have r2:=sa (s:=t) (by rw[et]);have r3:=sa (s:=s++t) (by rw[est]);rw[es]at r1;rw[et]at r2;rw[est]at r3;simp only at r1 r2 r3;rw[r1]at h1;rw[r2]at h2;rw[r3]at h3;obtain⟨p,e1⟩:=zj h1;obtain⟨pm,e2⟩:=zj h2;obtain⟨pn,e3⟩:=zj h3;have Du:nM p:=by have:=rl (eV o) 0 [dN] Ek;rw[e1]at this;exact this
 rw[r1,r2,r3,e1,e2,e3,vm,vm,vm];clear r1 r2 r3 h1 h2 h3 es et est fs fst ft h;rcases Se o q hpo ax1 with hj|⟨A,a,b,B,hA,hB,hj⟩
 ·left;rw[hj,lE,e1]at e3;simp only[ne_eq,not_true_eq_false,if_false]at e3;rw[Mg Du,np p.e.bE (eV q) _ [dN] Ek]at e3;have h5:(bO (0+(eV o).length) [dN] (eV q)).2=0:=congrArg Prod.snd e3;rw[rm (eV q) _ 0 [dN] h5 (by rw[e2]),e2]at e3;have h6:[cX p.e.bE pm]=[pn]:=congrArg Prod.fst e3;injection h6 with h6
  show pn.e.bE=p.e.bE++pm.e.bE
  rw[<-h6,rn]
 ·right;rw[hA,lE]at e1;have hA0:(bO 0 [dN] A).2=0:=by
   refine bg fun db=>?_;rw[ae db]at e1;exact db (by rw[e1])
  rw[aa (by simp[hA0])]at e1;have XD:=rl A 0 [dN] Ek;rw[hj,lE,aa (by simp[hA0])]at e3;rw[hB]at e2;generalize(bO 0 [dN] A).1=st at*;unfold bO at e1 e3 e2;split at e1
  ·cases congrArg Prod.snd e1
  ·rename_i h4;rw[aa h4]at e3;rw[aa (by omega)]at e2;split at e1
   ·rename_i db;exact aX (congrArg Prod.snd e1) db
   ·rename_i hn0;have hn0:(cD st (bS a)).2=0:=bg hn0;have e1':(cD st (bS a)).1=[p]:=congrArg Prod.fst e1;have ax2:st≠[]:=by rintro rfl;exact aX XD (by simp[Cr])
    obtain⟨u,rfl,hu,hk⟩:=Sf XD ax2 hn0 e1';rw[Mg hu,Ht]at e3;have ep0:[dN]=ie (cX []) [dN]:=rfl;rw[ep0,Ht]at e2;simp only[ne_eq,not_true_eq_false,if_false,List.nil_append]at e2 e3;rw[np [dH b] B _ [dN] Ek]at e2;rw[np (u.e.bE++[dH (a++b)]) B _ [dN] Ek]at e3;have h5:(bO (0+1) [dN] B).2=0:=congrArg Prod.snd e2;have h6:(bO (0+A.length+1) [dN] B).2=0:=congrArg Prod.snd e3;rw[rm B _ (0+1) [dN] h6 h5]at e3;have e2':ie (cX [dH b]) (bO (0+1) [dN] B).1=[pm]:=congrArg Prod.fst e2;have e3':ie (cX (u.e.bE++[dH (a++b)])) (bO (0+1) [dN] B).1=[pn]:=congrArg Prod.fst e3;have hl:=xO (cX [dH b]) (bO (0+1) [dN] B).1;rw[e2']at hl;obtain⟨pB,hpB⟩:∃pB,(bO (0+1) [dN] B).1=[pB]:=by
     generalize(bO (0+1) [dN] B).1=s' at*;cases s' with
     |nil=>simp at hl
     |cons x r=>
      cases r with
      |nil=>exact⟨x,rfl⟩
      |cons y r=>simp at hl
    rw[hpB]at e2' e3';have e2':[cX [dH b] pB]=[pm]:=e2';have e3':[cX (u.e.bE++[dH (a++b)]) pB]=[pn]:=e3';injection e2' with e2'
    injection e3' with e3'
    refine⟨u.e.bE,a,b,pB.e.bE,hk,?_,?_⟩
    ·show pm.e.bE=_
     rw[<-e2',rn];rfl
    ·show pn.e.bE=_
     rw[<-e3',rn,aN];rfl
mutual
theorem O7:∀e:Elem,Em e=(C1 e).length
 |.mk k t s a b u l=>by
  rw[Em,C1,af,td l];congr 1;unfold ij
  show _=List.length (if k=2 then(if a=[]then[s]else[s,a])else[])
  split
  ·split<;>rfl
  ·rfl
theorem td:∀l:List Elem,cntF l=(dZ l).length
 |[]=>by rw[cntF,dZ];rfl
 |e::l=>by rw[cntF,dZ,af,O7 e,td l]
end
theorem O8(D:lq)(tk:Tk)(n c:Nat)(a b:Bt)(m:List Elem)(lA:List Elem)(out:Bt)
 (h0:(cT D tk false n out (lA++[dH a]) c).1.state=0) (hl:n+(cT D tk false n out (lA++[dH a]) c).1.out.length+b.length<=20000):
 cT D tk false n out (lA++dH (a++b)::m) c=cT D tk false n out (lA++dH a::dH b::m) c:=by
 have tM:∀(x:Bt) (k d:Nat),pR D tk false k (dH x) d=(dL x,d):=fun x k d=>by
  rw[IA,ae (show(dH x).kind=1 from rfl)];rfl
 rw[qK]at h0 hl|-;rw[qK D tk false n lA];by_cases hs:(cT D tk false n out lA c).1.state≠0
 ·rw[ae hs,ae hs]
 ·rw[aa hs]at h0 hl|-;rw[aa hs];generalize(cT D tk false n out lA c).1.out=o at*;generalize(cT D tk false n out lA c).2=d at*;rw[jf,tM]at h0 hl|-;rw[jf D tk false n o (dH a),tM];have hda:(dL a).out=a:=rfl;have hdb:(dL (a++b)).out=a++b:=rfl;have hz:∀x,(dL x).state=0:=fun _=>rfl;simp only[hda,hdb,hz,ne_eq,not_true_eq_false,if_false,af]at h0 hl|-;by_cases ha:20000<n+o.length+a.length
  ·rw[ae ha]at h0;cases h0
  ·rw[aa ha]at h0 hl|-;rw[cT]at hl;have hl:n+(o++a).length+b.length<=20000:=hl;rw[af]at hl;rw[aa (by omega),jf,tM];simp only[show(dL b).out=b from rfl,hz,ne_eq,not_true_eq_false,if_false,af];rw[aa (by omega),aN]
structure l9(S:Bt)(t:bG):Prop where
 txt:t.kind≠0->t.text<:+:S
 att:∀p∈t.bK,p.value.length<=S.length
theorem l9.mono{s S:Bt}{t:bG}(h:l9 s t)(hs:s<:+:S):l9 S t:=⟨fun h0=>(h.txt h0).trans hs,fun p hp=>au (h.att p hp) hs.length_le⟩
theorem l9.text(S a:Bt):l9 S (bS a):=⟨fun h=>aX rfl h,fun p hp=>by cases hp⟩
theorem Es{p:UInt8->Bool}:∀{r:Bt} {k:Nat} {l r':Bt} {k':Nat},fg p r k=.ok l r' k'->r=l++r'
 |[],_,_,_,_,h=>by simp[fg]at h
 |c::r,k,l,r',k',h=>by
  unfold fg at h;split at h
  ·cases h
  ·split at h
   ·obtain⟨a,r1,k1,h1,h2⟩:=eN.cG h;injection h2 with e1 e2 e3
    subst e1 e2;rw[aU,<-Es h1]
   ·injection h with e1 e2 e3
    subst e1 e2;rfl
theorem Hu:∀{m r:Bt} {k:Nat} {u:Unit} {r':Bt} {k':Nat},cZ m r k=.ok u r' k'->r'<:+r
 |[],r,k,u,r',k',h=>by
  unfold cZ at h;injection h with e1 e2 e3
  subst e2;exact List.suffix_refl _
 |c::m,r,k,u,r',k',h=>by
  unfold cZ at h;obtain⟨x,r1,k1,h1,h2⟩:=eN.cG h;obtain⟨rfl,rfl,-,t,rfl⟩:=kh h1;split at h2
  ·exact(Hu h2).trans (List.suffix_cons _ _)
  ·cases h2
theorem Mh{r:Bt}{k:Nat}{l r':Bt}{k':Nat}(h:eO r k=.ok l r' k'):r=l++r':=by
 unfold eO at h;obtain⟨a,r1,k1,h1,h2⟩:=eN.cG h;split at h2
 ·cases h2
 ·injection h2 with e1 e2 e3
  subst e1 e2;exact Es h1
theorem BP:∀{n:Nat} {nm:Bt} {at_:List bY} {r:Bt} {k:Nat} {t:bG} {r':Bt} {k':Nat},dz n nm at_ r k=.ok t r' k'->
 ∀p∈t.bK,p∈at_\/p.value.length<=r.length
 |0,_,_,_,_,_,_,_,h=>by simp[dz]at h
 |n+1,nm,at_,r,k,t,r',k',h=>by
  rw[dz]at h;obtain⟨wF,r1,k1,h1,h2⟩:=eN.cG h;obtain⟨a1,a2⟩:=kQ h1;obtain⟨c,r2,k2,h3,h4⟩:=eN.cG h2;obtain⟨rfl,rfl,_,t2,rfl⟩:=kh h3;unfold gO at h4;split at h4
  ·injection h4 with b1 b2 b3
   subst b1;exact fun p hp=>.inl hp
  ·split at h4
   ·obtain⟨_,r5,k5,h5,h6⟩:=eN.cG h4;injection h6 with b1 b2 b3
    subst b1;exact fun p hp=>.inl hp
   ·split at h4
    ·cases h4
    ·obtain⟨a,r7,k7,h7,h8⟩:=eN.cG h4;obtain⟨_,r9,k9,h9,KJ⟩:=eN.cG h8;obtain⟨c1,c2,c3⟩:=qB h7;obtain⟨d1,d2⟩:=gK h9;unfold qx at KJ;split at KJ
     ·cases KJ
     ·unfold su at KJ;obtain⟨_,r11,k11,Bk,II⟩:=eN.cG KJ;obtain⟨e1,e2⟩:=gK Bk;obtain⟨v,r13,k13,h13,h14⟩:=eN.cG II;obtain⟨f1,f2⟩:=kQ h13;obtain⟨_,r15,k15,h15,h16⟩:=eN.cG h14;obtain⟨g1,g2⟩:=gK h15;intro p hp;rcases BP h16 p hp with h|h
      ·rcases List.mem_append.1 h with h|h
       ·exact .inl h
       ·rw[aV]at h;subst h;right
        show v.length<=_
        omega
      ·right;omega
theorem XE{m s:Bt}{t:bG}{r:Bt}{k:Nat}(h:ml m s 0=.ok t r k):l9 s t:=by
 rw[ml]at h;obtain⟨_,r1,k1,h1,h2⟩:=eN.cG h;obtain⟨a1,a2⟩:=gK h1;obtain⟨nm,r3,k3,h3,h4⟩:=eN.cG h2;obtain⟨b1,b2,b3⟩:=qB h3;have Y6:nm<:+:s:=by
  have hs:=Hu h1;rw[Mh h3]at hs;exact(List.prefix_append nm r3).isInfix.trans hs.isInfix
 split at h4
 ·obtain⟨_,r5,k5,h5,h6⟩:=eN.cG h4;obtain⟨_,r7,k7,h7,h8⟩:=eN.cG h6;injection h8 with e1 e2 e3
  subst e1;exact⟨fun _=>Y6,fun p hp=>by cases hp⟩
 ·obtain⟨c1,c2,c3,c4⟩:=om h4;refine⟨fun _=>by rw[c3];exact Y6,fun p hp=>?_⟩;rcases BP h4 p hp with h|h
  ·cases h
  ·omega
theorem XF{s m:Bt}(h:(fe s m).2.1≠0):l9 s (fe s m).1:=by
 unfold fe at h|-;cases ht:ml m s 0 with
 |ok t r k=>exact XE ht
 |short=>rw[ht]at h;exact aX rfl h
 |bad e=>rw[ht]at h;exact aX rfl h
theorem vq(S:Bt):∀(n:Nat) (b:Bool) (s:Bt) (o:List bG),s<:+:S->(∀t∈o,l9 S t)->∀t∈(cC n b s o).2.1,l9 S t
 |0,_,_,_,_,_=>by intro t ht;simp[cC]at ht
 |n+1,b,s,o,hs,ho=>by
  rw[fL];have h1:∀t∈ek o s (bX b s).2,l9 S t:=by
   unfold ek;split
   ·intro t ht;rcases List.mem_append.1 ht with h|h
    ·exact ho t h
    ·rw[aV]at h;subst h;exact .text _ _
   ·exact ho
  have zX:s.drop (bX b s).2<:+:S:=(List.drop_suffix _ _).isInfix.trans hs;generalize ek o s (bX b s).2=o1 at*;generalize s.drop (bX b s).2=s1 at*;generalize(bX b s).1=m at*;unfold fk;split
  ·exact h1
  ·split
   ·exact vq S n _ _ _ ((List.drop_suffix _ _).isInfix.trans zX) h1
   ·split
    ·intro t ht;cases ht
    ·split
     ·exact h1
     ·rename_i hn;refine vq S n _ _ _ ((List.drop_suffix _ _).isInfix.trans zX) ?_;intro t ht;rcases List.mem_append.1 ht with h|h
      ·exact h1 t h
      ·rw[aV]at h;subst h;exact(XF hn).mono zX
theorem XG(S:Bt)(x:gG):∀t∈(ig x).1,l9 S t:=by
 unfold ig;split
 ·split
  ·intro t ht;cases ht
  ·split
   ·intro t ht;cases ht
   ·intro t ht;rw[aV]at ht;subst ht;exact .text _ _
 ·intro t ht;cases ht
theorem Mi{S:Bt}{o:List bG}{t:bG}(ho:∀x∈o,l9 S x)(ht:l9 S t):∀x∈bV o t,l9 S x:=by
 have hs:∀x∈o++[t],l9 S x:=by
  intro x hx;rcases List.mem_append.1 hx with h|h
  ·exact ho x h
  ·rw[aV]at h;subst h;exact ht
 unfold bV;split
 ·exact hs
 ·split
  ·exact ho
  ·rcases List.eq_nil_or_concat o with rfl|⟨l,u,rfl⟩
   ·exact hs
   ·rw[List.concat_eq_append]at ho hs|-;simp only[List.getLast?_append,List.getLast?_singleton,Option.some_or];split
    ·rename_i hu;rw[List.dropLast_concat];intro x hx;rcases List.mem_append.1 hx with h|h
     ·exact ho x (by simp[h])
     ·rw[aV]at h;subst h;exact⟨fun h=>aX hu h,(ho u (by simp)).att⟩
    ·exact hs
theorem Mj{S:Bt}:∀(l o:List bG),(∀x∈o,l9 S x)->(∀x∈l,l9 S x)->∀x∈l.foldl bV o,l9 S x
 |[],_,h,_=>h
 |t::l,o,h,hk=>Mj l _ (Mi h (hk t (by simp))) (fun x hx=>hk x (by simp[hx]))
theorem XH(s:Bt):∀t∈(gH s).1,l9 s t:=by
 unfold gH;simp only;split
 ·intro t ht;cases ht
 ·split
  ·intro t ht;cases ht
  ·refine Mj _ [] (by simp) fun x hx=>?_;rcases List.mem_append.1 hx with h|h
   ·unfold dC at h;split at h
    ·exact vq s _ _ _ _ (by show[]++s<:+:s;rw[List.nil_append];exact List.infix_refl _) (by simp) x h
    ·cases h
   ·exact XG s _ x h
theorem U5(x:gG):bT (ig x).1<=x.rest.length:=by
 unfold ig;split
 ·split
  ·simp[bT]
  ·split
   ·simp[bT]
   ·simp[bT,bS]
 ·simp[bT]
theorem Gd{s:Bt}(h:(gH s).2=0):bT (gH s).1<=s.length:=by
 have f1:=vN.step s (U3 h);rw[List.nil_append,List.nil_append]at f1;rw[f1.Xh];split
 ·simp[bT]
 ·have h1:=rD ((dC ⟨[],false⟩ s).2.1++(ig (dC ⟨[],false⟩ s).1).1);rw[dt]at h1;have h2:=U5 (dC ⟨[],false⟩ s).1;have h3:=f1.sum
  show bT (eV _)<=_
  omega
theorem BQ:∀{l:List bG} {t:bG},t∈l->t.text.length<=bT l
 |[],_,h=>by cases h
 |x::l,t,h=>by
  have e:bT (x::l)=x.text.length+bT l:=by simp[bT]
  rcases List.mem_cons.1 h with rfl|h
  ·omega
  ·have:=BQ h;omega
mutual
def eZ(N:Nat)(S:Bt):Elem->Prop
 |.mk k t s a b u l=>t.length<=N/\s.length<=N/\a.length<=N/\u.length<=N/\(k=3->df<:+:S)/\eM N S l
def eM(N:Nat)(S:Bt):List Elem->Prop
 |[]=>True
 |e::l=>eZ N S e/\eM N S l
end
theorem od{N:Nat}{S:Bt}(e:Elem):eZ N S e↔e.text.length<=N/\e.src.length<=N/\e.jZ.length<=N/\e.test.length<=N/\(e.kind=3->df<:+:S)/\eM N S e.bE:=by
 cases e;rw[eZ];rfl
theorem vr{N:Nat}{S:Bt}:∀{l m:List Elem},eM N S (l++m)↔eM N S l/\eM N S m
 |[],m=>by simp[eM]
 |e::l,m=>by rw[aU,eM,eM,vr,and_assoc]
theorem Mk{N:Nat}{S:Bt}{e:Elem}:eM N S [e]↔eZ N S e:=by rw[eM,eM];simp
theorem JJ{N:Nat}{S:Bt}{e:Elem}{l:List Elem}(h:eZ N S e)(hl:eM N S l):eZ N S (e.dD l):=by
 cases e;simp only[Elem.dD];rw[eZ]at h|-;exact⟨h.1,h.2.1,h.2.2.1,h.2.2.2.1,h.2.2.2.2.1,hl⟩
theorem zk{N:Nat}{S:Bt}{e:Elem}{b:Bool}(h:eZ N S e):eZ N S (e.fF b):=by
 cases e;simp only[Elem.fF];rw[eZ]at h|-;exact h
theorem U6{N:Nat}{S:Bt}{kd:Int}{e e':Elem}{n v:Bt}(he:eZ N S e)(hv:v.length<=N)(h:kC kd e n v=some e'):eZ N S e':=by
 obtain⟨k,t,s,a,b,u,l⟩:=e;rw[eZ]at he;obtain⟨h1,h2,h3,h4,h5,h6⟩:=he;unfold kC at h
 repeat' split at h
 all_goals first
  |(cases h;done)
  |(injection h with h;subst h;(try simp only[Elem.pQ,Elem.xv,Elem.fF,Elem.sB,Elem.sC]);rw[eZ];exact⟨by assumption,by assumption,by assumption,by assumption,h5,h6⟩)
theorem Hv{N:Nat}{S:Bt}{kd:Int}:∀{l seen:List bY} {e e':Elem},eZ N S e->(∀p∈l,p.value.length<=N)->fv kd e seen l=some e'->eZ N S e'
 |[],seen,e,e',he,_,h=>by
  injection h with h
  subst h;exact he
 |p::l,seen,e,e',he,hl,h=>by
  unfold fv at h;split at h
  ·cases h
  ·split at h
   ·cases h
   ·rename_i e2 h2;exact Hv (U6 he (hl p (by simp)) h2) (fun q hq=>hl q (by simp[hq])) h
theorem JK{s:Bt}{q:Ca}(h:eW s=some q)(hk:q.kind=3):s=df:=by
 refine bg fun db=>?_;unfold eW at h;simp only[aa db]at h
 repeat (split at h;(·injection h with h;rw[<-h]at hk;simp at hk))
 cases h
def v8(N:Nat)(S:Bt)(st:List Level):Prop:=∀p∈st,eZ N S p.e
theorem vs{N:Nat}{S:Bt}{st:List Level}{e:Elem}(h:v8 N S st)(he:eZ N S e):v8 N S (kO st e):=by
 cases st with
 |nil=>intro p hp;cases hp
 |cons t r=>
  intro p hp;rcases List.mem_cons.1 hp with rfl|hp
  ·have ht:=h t (by simp)
   show eZ N S (oT t.e e)
   unfold oT;split
   ·exact ht
   ·exact JJ ht (vr.2 ⟨((od _).1 ht).2.2.2.2.2,Mk.2 he⟩)
  ·exact h p (by simp[hp])
theorem Ml{N:Nat}{S a:Bt}(h:a.length<=N):eZ N S (dH a):=by
 unfold dH;rw[eZ,eM];exact⟨h,by simp,by simp,by simp,(fun h=>by cases h),trivial⟩
theorem zm{N:Nat}{S:Bt}{k:Int}(h:k=3->df<:+:S):eZ N S (fi k):=by
 unfold fi;rw[eZ,eM];exact⟨by simp,by simp,by simp,by simp,h,trivial⟩
theorem O9{N:Nat}{S:Bt}{st:List Level}{t:bG}(h:v8 N S st)(ht:l9 S t)(hN:t.text.length<=N)(hS:S.length<=N):v8 N S (cD st t).1:=by
 unfold cD;split
 ·rename_i hk;unfold fw;split
  ·intro p hp;cases hp
  ·exact h
  ·rename_i u r q hq;split
   ·exact h
   ·split
    ·exact h
    ·rename_i e he;have Iq:eZ N S e:=Hv (zm fun h3=>by rw[<-JK hq h3];exact ht.txt (by omega)) (fun p hp=>au (ht.att p hp) hS) he;split
     ·exact h
     ·split
      ·exact h
      ·split
       ·exact vs h (zk Iq)
       ·split
        ·exact h
        ·intro p hp;rcases List.mem_cons.1 hp with rfl|hp
         ·exact zk Iq
         ·exact h p hp
 ·split
  ·unfold jA;split
   ·intro p hp;cases hp
   ·exact h
   ·rename_i u r q hq;split
    ·exact h
    ·split
     ·exact h
     ·exact vs (fun p hp=>h p (by simp[hp])) (h u (by simp))
  ·unfold mF;split
   ·intro p hp;cases hp
   ·split
    ·exact h
    ·exact vs h (Ml hN)
theorem zn{N:Nat}{S:Bt}(hS:S.length<=N):∀(l:List bG) (i:Nat) (st:List Level),v8 N S st->(∀t∈l,l9 S t/\t.text.length<=N)->v8 N S (bO i st l).1
 |[],_,_,h,_=>h
 |t::l,i,st,h,hl=>by
  have h2:=O9 h (hl t (by simp)).1 (hl t (by simp)).2 hS;unfold bO;split
  ·exact h
  ·split
   ·exact h2
   ·exact zn hS l _ _ h2 fun x hx=>hl x (by simp[hx])
theorem vt{s:Bt}(h:(cM s).2=0):eM s.length s (cM s).1:=by
 have h0:=h;have h1:=sa (vY h);rw[h1]at h|-;obtain⟨p,e⟩:=zj h;have hb:=zn (N:=s.length) (S:=s) (dv _) (gH s).1 0 [dN] (fun q hq=>by rw[aV]at hq;subst hq;exact zm (fun h=>by cases h))
  fun t ht=>⟨XH s t ht,au (BQ ht) (Gd (vY h0))⟩
 rw[e]at hb|-;rw[vm];exact((od _).1 (hb p (by simp))).2.2.2.2.2
mutual
theorem JL{N:Nat}{S:Bt}(hS:¬df<:+:S):∀e:Elem,eZ N S e->Mf e
 |.mk k t s a b u l,h=>by
  rw[eZ]at h;rw[Mf];exact⟨fun hk=>hS (h.2.2.2.2.1 hk),nr hS l h.2.2.2.2.2⟩
theorem nr{N:Nat}{S:Bt}(hS:¬df<:+:S):∀l:List Elem,eM N S l->Eo l
 |[],_=>by rw[Eo];trivial
 |e::l,h=>by
  rw[eM]at h;rw[Eo];exact⟨JL hS e h.1,nr hS l h.2⟩
end
theorem pF(D:lq)(base:Bt){s:Bt}(h:(cM s).2=0):ku D base s=(cT D (gJ D 4 base (cM s).1) false 0 [] (cM s).1 0).1:=by
 unfold ku;rw[aa (by simp[h])]
theorem Mm(D:lq)(base s t:Bt){o:List bG}(hf:dC ⟨[],false⟩ s=(⟨[],false⟩,o,0))(h1:(cM s).2=0)(h2:(cM t).2=0)(h3:(cM (s++t)).2=0)
 (hi:¬df<:+:s++t) (he:∀r∈D.cN,r.eU=false) (hc:(dZ (cM s).1).length+(dZ (cM t).1).length<=20) (ht:t.length<=1000)
 (ha:(ku D base s).state=0) (hl:(ku D base s).out.length+(ku D base t).out.length<=10000):
 ku D base (s++t)=(ku D base t).ia (ku D base s).out:=by
 have is_:¬df<:+:s:=fun h=>hi (h.trans (List.prefix_append s t).isInfix);have it_:¬df<:+:t:=fun h=>hi (h.trans (List.suffix_append s t).isInfix);have ns:=fun nm=>qh nm _ (nr is_ _ (vt h1));have nt:=fun nm=>qh nm _ (nr it_ _ (vt h2));have nst:=fun nm=>qh nm _ (nr hi _ (vt h3));have Ma:=vt h2;have hj:=Sg hf h1 h2 h3;rw[pF D base h1]at ha;rw[pF D base h1,pF D base h2]at hl;rw[pF D base h1,pF D base h2,pF D base h3];rw[En D 4 base (cM s).1 (cM (s++t)).1 ns nst he]at ha hl|-;rw[En D 4 base (cM t).1 (cM (s++t)).1 nt nst he]at hl|-;have Bl:vp (gJ D 4 base (cM (s++t)).1):=Cs D _ _ _ _ nst he;rw[<-td,<-td]at hc;generalize gJ D 4 base (cM (s++t)).1=tk at*;generalize(cM (s++t)).1=n at*;generalize(cM s).1=l at*;generalize(cM t).1=m at*;rcases hj with rfl|⟨lA,a,b,mB,rfl,rfl,rfl⟩
 ·exact Hr D Bl l m hc ha hl
 ·have hb:b.length<=2000:=by
   rw[eM]at Ma;have:=((od _).1 Ma.1).1;have e:(dH b).text=b:=rfl;rw[e]at this;omega
  rw[O8 D tk 0 0 a b mB lA [] ha (by omega)];have:=Hr D Bl (lA++[dH a]) (dH b::mB) hc ha hl;rw[aN]at this;exact this
def xR:List Level->Nat
 |[]=>0
 |p::st=>1+fC p.e.bE+xR st
theorem Ez{st:List Level}{e:Elem}:xR (kO st e)<=xR st+Bh e:=by
 cases st with
 |nil=>exact ax _
 |cons t r=>
  show 1+fC (oT t.e e).bE+xR r<=1+fC t.e.bE+xR r+Bh e
  unfold oT;split
  ·omega
  ·rw[Elem.fP,yE];have:fC [e]=Bh e:=by simp[fC]
   omega
theorem ED{e:Elem}(h:e.bE=[]):Bh e=1:=by rw[j8,h];rfl
theorem Pd{st:List Level}{t:bG}:xR (cD st t).1<=xR st+1:=by
 unfold cD;split
 ·unfold fw;split
  ·exact ax _
  ·exact aY _
  ·rename_i u r q hq;split
   ·exact aY _
   ·split
    ·exact aY _
    ·rename_i e he;have hk:(gq q.kind e).bE=[]:=by
      unfold gq;rw[Elem.yz,(qC he).2];rfl
     split
     ·exact aY _
     ·split
      ·exact aY _
      ·split
       ·have:=Ez (st:=u::r) (e:=gq q.kind e);rw[ED hk]at this;exact this
       ·split
        ·exact aY _
        ·show 1+fC (gq q.kind e).bE+xR (u::r)<=_
         rw[hk]
         show 1+0+_<=_
         omega
 ·split
  ·unfold jA;split
   ·exact ax _
   ·exact aY _
   ·rename_i u r q hq;split
    ·exact aY _
    ·split
     ·exact aY _
     ·have:=Ez (st:=r) (e:=u.e);rw[j8]at this
      show xR (kO r u.e)<=1+fC u.e.bE+xR r+1
      omega
  ·unfold mF;split
   ·exact ax _
   ·rename_i u r;split
    ·exact aY _
    ·have:=Ez (st:=u::r) (e:=dH t.text);rw[ED rfl]at this;exact this
theorem zp:∀(l:List bG) (i:Nat) (st:List Level),xR (bO i st l).1<=xR st+l.length
 |[],_,_=>dv _
 |t::l,i,st=>by
  have h:=Pd (st:=st) (t:=t);unfold bO;rw[ak];split
  ·show xR st<=_;omega
  ·split
   ·omega
   ·have:=zp l (i+1) (cD st t).1;omega
theorem EE{s:Bt}(h:(cM s).2=0):fC (cM s).1<=400:=by
 have h1:=sa (vY h);rw[h1]at h|-;obtain⟨p,e⟩:=zj h;have h2:=zp (gH s).1 0 [dN];have h3:(gH s).1≠[]->0+(gH s).1.length<=400:=wU _ 0 [dN] (by rw[e]);have h4:(gH s).1.length<=400:=by
  by_cases hn:(gH s).1=[]
  ·rw[hn];simp
  ·have:=h3 hn;omega
 rw[e]at h2|-;rw[vm];have h5:xR [p]=1+fC p.e.bE+0:=rfl;have h6:xR [dN]=1:=rfl;rw[h6]at h2;simp only at h2|-;rw[h5]at h2;omega
theorem JO{s t:Bt}(h:Lib.contains s t=false):¬t<:+:s:=by
 rintro ⟨a,b,rfl⟩;unfold Lib.contains at h;have h:=of_decide_eq_false h;rcases Lib.index_spec (a++t++b) t with⟨-,h2⟩|⟨i,h2,-⟩
 ·have:=h2 a.length (by simp only[af];omega);unfold Lib.occAt at this;rw[aN,List.drop_left]at this;have e:t.isPrefixOf (t++b)=true:=by rw[List.isPrefixOf_iff_prefix];exact List.prefix_append _ _
  rw[e]at this;cases this
 ·rw[h2]at h;omega
end Go.Proofs.YtejafaaihodehaaGreatDoor
