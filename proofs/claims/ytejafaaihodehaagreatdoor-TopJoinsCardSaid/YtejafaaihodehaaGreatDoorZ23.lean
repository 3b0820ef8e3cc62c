/- Part 23. -/
import Derived.Test.YtejafaaihodehaaGreatDoorZ07
import Derived.Test.YtejafaaihodehaaGreatDoorZ22
import Derived.Laws.RangeAny
import Derived.Laws.Runes
import Derived.Lib.OthersKept
import Derived.Lib.QuietBelow
import Derived.WalkMore
set_option linter.all false
set_option maxRecDepth 100000
set_option maxHeartbeats 8000000
namespace Go.Proofs.YtejafaaihodehaaGreatDoor
open Go Go.RowKit Tryz
structure gw where
 jK:Bt
 code:Int
 eU:Bool
 body:Bt
 bad:Int
def gw.gv(r:gw):GV:=.agg [.str r.jK,.int r.code,.bool r.eU,.str r.body,.int r.bad]
structure fo where
 out:Bt
 state:Int
 bad:Int
 qR:Bt
def fo.val(r:fo):Value:=.agg #[.string (bs r.out),.int .i64 r.state,.int .i64 r.bad,.string (bs r.qR)]
def dL(s:Bt):fo:=⟨s,0,0,[]⟩
def cF(s:Bt)(e:Int):fo:=⟨s,2,e,[]⟩
def yC(u:Bt):fo:=⟨[],1,0,u⟩
def eF(r:fo):fo:=if r.state≠0 then{r with out:=[]} else r
def fo.ia(s:Bt)(r:fo):fo:={r with out:=s++r.out}
structure lq where
 sub:Bt->Bt
 test:Bt->Bool × Int
 cN:List gw
 full:Bool
abbrev Tk:=Bt->Nat->fo × Nat
def kP(tk:Tk)(s a:Bt)(b:Bool)(c:Nat):fo × Nat:=
 let r:=tk s c
 let r:=if r.1.state=2/\a≠[]then tk a r.2 else r
 if r.1.state=2/\b=true then(dL [],r.2)else(eF r.1,r.2)
mutual
def pR(D:lq)(tk:Tk)(sub:Bool)(n:Nat):Elem->Nat->fo × Nat
 |.mk k t s a b _ l,c=>
  if k=1 then(dL (if sub then D.sub t else t),c)
  else if k=10 then cT D tk true n [] l c
  else if k=7 then fQ D tk sub n l c
  else if k=4 then um D tk sub l c
  else if k=2 then kP tk s a b c
  else(dL [],c)
def cT(D:lq)(tk:Tk)(sub:Bool)(n:Nat)(out:Bt):List Elem->Nat->fo × Nat
 |[],c=>(dL out,c)
 |e::l,c=>
  let r:=pR D tk sub (n+out.length) e c
  if 20000<n+out.length+r.1.out.length then(cF out 2,r.2)
  else if r.1.state≠0 then(r.1.ia out,r.2)
  else cT D tk sub n (out++r.1.out) l r.2
def fQ(D:lq)(tk:Tk)(sub:Bool)(n:Nat):List Elem->Nat->fo × Nat
 |[],c=>(dL [],c)
 |.mk k _ _ _ _ u l::r,c=>
  if k=9 then cT D tk sub n [] l c
  else if(D.test u).2≠0 then(cF [] (D.test u).2,c)
  else if(D.test u).1 then cT D tk sub n [] l c
  else fQ D tk sub n r c
def um(D:lq)(tk:Tk)(sub:Bool):List Elem->Nat->fo × Nat
 |.mk _ _ _ _ _ _ l1:: .mk _ _ _ _ _ _ l2::_,c=>
  let r:=cT D tk sub 0 [] l1 c
  if r.1.state=2 then
   let q:=cT D tk sub 0 [] l2 r.2
   (eF q.1,q.2)
  else(eF r.1,r.2)
 |[],c=>(dL [],c)
 |[_],c=>(dL [],c)
end
mutual
def mV(nm:Bt):Elem->Option (List Elem)
 |.mk k _ s _ _ _ l=>if k=3/\s=nm then some l else ei nm l
def ei(nm:Bt):List Elem->Option (List Elem)
 |[]=>none
 |e::l=>match mV nm e with
  |some x=>some x
  |none=>ei nm l
end
def fj(r:gw):Int:=if r.bad≠0 then r.bad else if r.code≠200\/20000<r.body.length then 60 else 0
def mG(l:List gw)(u:Bt):Option gw:=l.find? (fun r=>r.jK==u)
def iP(D:lq)(deep:Bool)(ej:Bt->List Elem->List Elem->Nat->fo × Nat)(base:Bt)(el:List Elem)(s:Bt)(c:Nat):fo × Nat:=
 match ei (D.sub s) el with
 |some bE=>
  if 20<=c then(cF [] 4,c)
  else if deep then(cF [] 5,c+1)
  else(eF (ej base el bE (c+1)).1,(ej base el bE (c+1)).2)
 |none=>
  if(dA base (D.sub s)).2≠0 then(cF [] (dA base (D.sub s)).2,c)
  else if 20<=c then(cF [] 4,c)
  else match mG D.cN (dA base (D.sub s)).1 with
   |none=>(yC (dA base (D.sub s)).1,c+1)
   |some r=>
    if fj r≠0 then(cF [] (fj r),c+1)
    else if r.eU=false then(dL r.body,c+1)
    else if deep then(cF [] 5,c+1)
    else if(cM r.body).2≠0 then(cF [] (cM r.body).2,c+1)
    else(eF (ej (dA base (D.sub s)).1 (cM r.body).1 (cM r.body).1 (c+1)).1,(ej (dA base (D.sub s)).1 (cM r.body).1 (cM r.body).1 (c+1)).2)
def gJ(D:lq):Nat->Bt->List Elem->Bt->Nat->fo × Nat
 |0=>iP D true fun _ _ _ c=>(dL [],c)
 |d+1=>iP D false fun base el l c=>cT D (gJ D d base el) false 0 [] l c
def ku(D:lq)(base body:Bt):fo:=
 if(cM body).2≠0 then cF [] (cM body).2 else(cT D (gJ D 4 base (cM body).1) false 0 [] (cM body).1 0).1
theorem IA(D:lq)(tk:Tk)(sub:Bool)(n:Nat)(e:Elem)(c:Nat):pR D tk sub n e c=
 if e.kind=1 then(dL (if sub then D.sub e.text else e.text),c)
 else if e.kind=10 then cT D tk true n [] e.bE c
 else if e.kind=7 then fQ D tk sub n e.bE c
 else if e.kind=4 then um D tk sub e.bE c
 else if e.kind=2 then kP tk e.src e.jZ e.fp c
 else(dL [],c):=by
 cases e;rw[pR];rfl
theorem Ns(nm:Bt)(e:Elem):mV nm e=if e.kind=3/\e.src=nm then some e.bE else ei nm e.bE:=by
 cases e;rw[mV];rfl
theorem IB(D:lq)(tk:Tk)(sub:Bool)(n:Nat)(e:Elem)(r:List Elem)(c:Nat):fQ D tk sub n (e::r) c=
 if e.kind=9 then cT D tk sub n [] e.bE c
 else if(D.test e.test).2≠0 then(cF [] (D.test e.test).2,c)
 else if(D.test e.test).1 then cT D tk sub n [] e.bE c
 else fQ D tk sub n r c:=by
 cases e;rw[fQ];rfl
theorem Tv(D:lq)(tk:Tk)(sub:Bool)(a b:Elem)(l:List Elem)(c:Nat):um D tk sub (a::b::l) c=
 if(cT D tk sub 0 [] a.bE c).1.state=2 then(eF (cT D tk sub 0 [] b.bE (cT D tk sub 0 [] a.bE c).2).1,(cT D tk sub 0 [] b.bE (cT D tk sub 0 [] a.bE c).2).2)
 else(eF (cT D tk sub 0 [] a.bE c).1,(cT D tk sub 0 [] a.bE c).2):=by
 cases a;cases b;rw[um];rfl
theorem jf(D:lq)(tk:Tk)(sub:Bool)(n:Nat)(out:Bt)(e:Elem)(l:List Elem)(c:Nat):cT D tk sub n out (e::l) c=
 if 20000<n+out.length+(pR D tk sub (n+out.length) e c).1.out.length then(cF out 2,(pR D tk sub (n+out.length) e c).2)
 else if(pR D tk sub (n+out.length) e c).1.state≠0 then((pR D tk sub (n+out.length) e c).1.ia out,(pR D tk sub (n+out.length) e c).2)
 else cT D tk sub n (out++(pR D tk sub (n+out.length) e c).1.out) l (pR D tk sub (n+out.length) e c).2:=by
 rw[cT]
structure cK where
 e0:Bt
 e1:Bt
 e2:Bt
 e3:Bt
 e4:Bt
 e5:Bt
def cK.val(v:cK):Value:=.agg #[.string (bs v.e0),.string (bs v.e1),.string (bs v.e2),.string (bs v.e3),.string (bs v.e4),.string (bs v.e5)]
def nT(v:cK)(rv:Value)(c:Nat):Array Value:=#[.string (bs v.e0),.string (bs v.e1),.string (bs v.e2),.string (bs v.e3),.string (bs v.e4),.string (bs v.e5),rv,.int .i64 (c:Int)]
structure MK(v:cK)(rv:Value)(cR:List gw)(M:Nat)(W:World)(c:Nat):Prop where
 iz:bL W M 50 (nT v rv c)
 cR:GR W (fun k=>k<M) (.row 5 (cR.map gw.gv)) [rv]
 pP:eK W
 hM:0<M/\∀g,prog.globalNamed "internal/strconv.uint64pow10" =some g->g<M
 hc:c<=20
theorem GR.grown{w w':World}{F:Nat->Prop}{x:GV}{cs:List Value}{M:Nat}(h:GR w F x cs)(hg:w.grownBy w' (some M))(hF:∀k,F k->k≠M):GR w' F x cs:=
 GR.mono (fun _ h=>h) (fun k hk bW=>hg.block k bW (fun e=>hF k hk (ar e))) x cs h
theorem eK.grown{w w':World}{M:Nat}(h:eK w)(hg:w.grownBy w' (some M))(h0:M≠0)(ht:∀g,prog.globalNamed "internal/strconv.uint64pow10" =some g->g≠M):eK w':=by
 obtain⟨⟨m,h1⟩,h2⟩:=h;refine⟨⟨m,?_⟩,zV h2 fun g bW Nu=>hg.block g bW (fun e=>ht g Nu (ar e))⟩;have bW:0<w.heap.size:=aq w _ h1;rw[aW (w:=w) (a:=⟨0,0,none⟩) (hg.block 0 bW (fun e=>h0 (ar e).symm))];exact h1
section
variable {v:cK} {rv:Value} {cR:List gw} {M c:Nat} {W W':World}
theorem MK.below(h:MK v rv cR M W c)(hb:Below W.heap.size W W'):MK v rv cR M W' c:=
 ⟨h.iz.below hb h.iz.lt,h.cR.below hb,h.pP.below hb,h.hM,h.hc⟩
theorem MK.jx{R:Nat}(h:MK v rv cR M W c)(hg:W.grownBy W' (some R))(hR:M<R):MK v rv cR M W' c:=
 ⟨h.iz.grown hg (by simp;omega),h.cR.grown hg (fun k hk=>by have hk:k<M:=hk;omega),h.pP.grown hg (by omega) (fun g Nu=>by have:=h.hM.2 g Nu;omega),h.hM,h.hc⟩
theorem MK.count(h:MK v rv cR M W c)(hc:c<20):MK v rv cR M (W.setCell ⟨M,7,none⟩ (.int .i64 ((c+1:Nat):Int))) (c+1):=by
 have hg:W.grownBy (W.setCell ⟨M,7,none⟩ (.int .i64 ((c+1:Nat):Int))) (some M):=bF (bR _ _) (.inl rfl) _;exact⟨h.iz.cL 7 (.int .i64 ((c+1:Nat):Int)),h.cR.grown hg (fun k h=>Nat.ne_of_lt h),h.pP.grown hg (Nat.ne_of_gt h.hM.1) (fun g Nu=>Nat.ne_of_lt (h.hM.2 g Nu)),h.hM,hc⟩
end
def bI(r:fo):Array Value:=#[.string (bs r.out),.int .i64 r.state,.int .i64 r.bad,.string (bs r.qR)]
def fy:fo:=⟨[],0,0,[]⟩
def dO(W:World)(R:Nat)(r:fo):World:=
 (((W.setCell ⟨R,0,none⟩ (.string (bs r.out))).setCell ⟨R,1,none⟩ (.int .i64 r.state)).setCell ⟨R,2,none⟩ (.int .i64 r.bad)).setCell ⟨R,3,none⟩ (.string (bs r.qR))
section
variable {W a w:World} {R B g M:Nat} {t:TypeId}
theorem jB{a0 a1 a2 a3:Value}(h:bL W R t #[a0,a1,a2,a3])(r:fo):bL (dO W R r) R t (bI r):=
 (((h.cL 0 (.string (bs r.out))).cL 1 (.int .i64 r.state)).cL 2 (.int .i64 r.bad)).cL 3 (.string (bs r.qR))
theorem qA(h:Below B a w)(hR:B<=R)(r:fo):Below B a (dO w R r):=
 (((h.setCell (p:=⟨R,0,none⟩) hR _).setCell (p:=⟨R,1,none⟩) hR _).setCell (p:=⟨R,2,none⟩) hR _).setCell (p:=⟨R,3,none⟩) hR _
theorem Kx{row:Option Nat}(h:a.grownBy w row)(hR:a.heap.size<=R)(r:fo):a.grownBy (dO w R r) row:=
 bF (bF (bF (bF h (p:=⟨R,0,none⟩) (.inr hR) _) (p:=⟨R,1,none⟩) (.inr hR) _) (p:=⟨R,2,none⟩) (.inr hR) _) (p:=⟨R,3,none⟩) (.inr hR) _
theorem xw(W:World)(R:Nat)(r:fo):W.grownBy (dO W R r) (some R):=
 bF (bF (bF (bF (bR W (some R)) (p:=⟨R,0,none⟩) (.inl rfl) _) (p:=⟨R,1,none⟩) (.inl rfl) _) (p:=⟨R,2,none⟩) (.inl rfl) _) (p:=⟨R,3,none⟩) (.inl rfl) _
end
theorem ID{w:World}{X:Nat}{tmps:Array Value}{r:fo}(h4:tmps[4]?.getD undef=.pointer (some ⟨X,0,none⟩))(B0:bL w X 31 (bI r)):
 (results f21 tmps).run prog w=.ok r.val w:=by
 obtain⟨a0,a1,a2,a3⟩:=lG B0;simp[bI]at a0 a1 a2 a3;simp[results,results21,go_sem,h4,a0,a1,a2,a3,fo.val]
theorem yD{w:World}{X:Nat}{tmps:Array Value}{r:fo}(h4:tmps[2]?.getD undef=.pointer (some ⟨X,0,none⟩))(B0:bL w X 31 (bI r)):
 (results f107 tmps).run prog w=.ok r.val w:=by
 obtain⟨a0,a1,a2,a3⟩:=lG B0;simp[bI]at a0 a1 a2 a3;simp[results,results107,go_sem,h4,a0,a1,a2,a3,fo.val]
theorem iA(s:Bt)(n:Int)(w:World):Calls prog 21 #[.string (bs s),.int .i64 n] w fun e w'=>e=.returned (cF s n).val/\Below w.heap.size w w':=by
 have HB:=bD (cU w (.cells (bI (cF s n)) 31));have HR:=bD (bL.new w 31 (bI (cF s n)));go_enter func21,ntmps21;go_wp2_with fail;change bodyPost _ _ _ _ _ (w.alloc (.cells (bI (cF s n)) 31));exact ag (ID rfl HR.o) rfl ⟨rfl,HB.o⟩
theorem jV(r:fo)(w:World):Calls prog 107 #[r.val] w fun e w'=>e=.returned (eF r).val/\Below w.heap.size w w':=by
 have HL:Hy (eF r=if r.state≠0 then{r with out:=[]} else r):=rfl;generalize eF r=LR at*;obtain⟨out,st,bad,qR⟩:=r;simp only[fo.val]at*;by_cases h:st=0
 ·have hb:(st !=0)=false:=by rw[h];rfl
  have Gw:Hy (LR=⟨out,st,bad,qR⟩):=by rw[Hy,HL.o,aa (by simpa using h)]
  have hB:=(cU w (.cells (bI ⟨out,st,bad,qR⟩) 31));have HB:=bD (hB.alloc hB.size (.cells (bI ⟨out,st,bad,qR⟩) 31));have HR:=bD (bL.new (w.alloc (.cells (bI ⟨out,st,bad,qR⟩) 31)) 31 (bI ⟨out,st,bad,qR⟩));clear h HL hB;go_enter func107,ntmps107;go_wp2_with fail;change bodyPost _ _ _ _ _ ((w.alloc (.cells (bI ⟨out,st,bad,qR⟩) 31)).alloc (.cells (bI ⟨out,st,bad,qR⟩) 31));refine ag (yD (by simp[size_alloc]) HR.o) rfl ⟨?_,HB.o⟩;rw[Gw.o];rfl
 ·have hb:(st !=0)=true:=by rw[aQ];exact h
  have Gw:Hy (LR=⟨[],st,bad,qR⟩):=by rw[Hy,HL.o,ae h]
  clear h HL;go_enter func107,ntmps107;go_wp2_with fail;have hB:=(cU w (.cells (bI ⟨[],st,bad,qR⟩) 31));have HB:=bD (hB.alloc hB.size (.cells (bI ⟨[],st,bad,qR⟩) 31));have HR:=bD (bL.new (w.alloc (.cells (bI ⟨[],st,bad,qR⟩) 31)) 31 (bI ⟨[],st,bad,qR⟩));change bodyPost _ _ _ _ _ ((w.alloc (.cells (bI ⟨[],st,bad,qR⟩) 31)).alloc (.cells (bI ⟨[],st,bad,qR⟩) 31));refine ag (yD (by simp[size_alloc]) HR.o) rfl ⟨?_,HB.o⟩;rw[Gw.o];rfl
def jW(v:cK)(rv:Value)(cR:List gw)(M:Nat)(w:World)(z:fo × Nat)(e:Ending)(w':World):Prop:=
 e=.returned z.1.val/\w.grownBy w' (some M)/\MK v rv cR M w' z.2/\z.1.out.length<=100000000
theorem jW.fin{v:cK}{rv:Value}{cR:List gw}{M R:Nat}{w W:World}{z:fo × Nat}{r:fo}{c:Nat}(hg:w.grownBy W (some M))(hm:MK v rv cR M W c)(Gx:M<w.heap.size)(hR:w.heap.size<=R)(hz:z=(r,c))(hl:r.out.length<=100000000):
 jW v rv cR M w z (.returned r.val) (dO W R r):=by
 subst hz;exact⟨rfl,Kx hg hR r,hm.jx (xw W R r) (by omega),hl⟩
theorem L9(s:ByteArray)(pos:Nat)(h:pos<s.size)(ha:128<=(s[pos]'h).toNat):pos+(Utf8.decode s pos).2<=s.size/\∀j,pos<=j->j<pos+(Utf8.decode s pos).2->∀b,s.data.toList[j]?=some b->128<=b.toNat:=by
 have hn:¬(s[pos]'h).toNat<128:=by omega
 have key:∀k,(decide (pos+k<s.size)&&(s.get! (pos+k)).toNat/64==2)=true->pos+k<s.size/\∀b,s.data.toList[pos+k]?=some b->128<=b.toNat:=by
  intro k hk;rw[aG,aH,beq_iff_eq]at hk;refine⟨hk.1,fun b hb=>?_⟩;have e1:=get_at s (pos+k) hk.1;rw[Nat.add_zero]at e1;rw[e1]at hk;have e2:=Lib.data_getElem? s (pos+k) hk.1;rw[e2]at hb;injection hb with hb
  rw[<-hb];omega
 have at0:∀b,s.data.toList[pos]?=some b->128<=b.toNat:=by
  intro b hb;have e2:=Lib.data_getElem? s pos h;rw[e2]at hb;injection hb with hb
  rw[<-hb];exact ha
 have one:pos+1<=s.size/\∀j,pos<=j->j<pos+1->∀b,s.data.toList[j]?=some b->128<=b.toNat:=by
  refine⟨h,fun j h1 h2 b hb=>?_⟩;obtain rfl:j=pos:=by omega
  exact at0 b hb
 unfold Utf8.decode;simp only[get_at s pos h,hn,if_false];split
 ·rename_i hc;rw[aG]at hc;obtain⟨k1,k2⟩:=key 1 hc.2;split
  ·refine⟨by show pos+2<=_;omega,fun j h1 h2 b hb=>?_⟩;have h2:j<pos+2:=h2;rcases(by omega:j=pos\/j=pos+1)with rfl|rfl
   ·exact at0 b hb
   ·exact k2 b hb
  ·exact one
 ·split
  ·rename_i hc;rw[aG,aG]at hc;obtain⟨k1,k2⟩:=key 1 hc.1.2;obtain⟨k3,k4⟩:=key 2 hc.2;split
   ·refine⟨by show pos+3<=_;omega,fun j h1 h2 b hb=>?_⟩;have h2:j<pos+3:=h2;rcases(by omega:j=pos\/j=pos+1\/j=pos+2)with rfl|rfl|rfl
    ·exact at0 b hb
    ·exact k2 b hb
    ·exact k4 b hb
   ·exact one
  ·split
   ·rename_i hc;rw[aG,aG,aG]at hc;obtain⟨k1,k2⟩:=key 1 hc.1.1.2;obtain⟨k3,k4⟩:=key 2 hc.1.2;obtain⟨k5,k6⟩:=key 3 hc.2;split
    ·refine⟨by show pos+4<=_;omega,fun j h1 h2 b hb=>?_⟩;have h2:j<pos+4:=h2;rcases(by omega:j=pos\/j=pos+1\/j=pos+2\/j=pos+3)with rfl|rfl|rfl|rfl
     ·exact at0 b hb
     ·exact k2 b hb
     ·exact k4 b hb
     ·exact k6 b hb
    ·exact one
   ·exact one
def gm:ByteArray:=⟨#[47,63]⟩
theorem BM:gm.size=2:=rfl
theorem F9(w:World):
 Calls prog 50 #[.string gm,.int .i32 65533] w fun e w'=>e=.returned (.int .i64 (-1))/\Below w.heap.size w w':=by
 have hz:=BM;have q0:(gm[0]'(by rw[hz];omega)).toNat=47:=rfl;have q1:(gm[1]'(by rw[hz];omega)).toNat=63:=rfl;have a0:=fun ty=>run_next_ascii (P:=prog) w gm 0 ty (by rw[hz];omega) (by rw[q0];omega);have a1:=fun ty=>run_next_ascii (P:=prog) w gm 1 ty (by rw[hz];omega) (by rw[q1];omega);have a2:=run_next_end (P:=prog) w gm 2;rw[q0]at a0;rw[q1]at a1;have A0:=bD a0;have A1:=bD a1;have A2:=bD a2;clear a0 a1 a2 q0 q1;generalize gm=S at*;go_enter func50,ntmps50;go_wp2_with fail;go_loopg [5,6] 2 (fun g _ _ wx=>∃i:Nat,i+g=2/\wx=w.iter S i)
 case atStart=>exact⟨0,rfl,rfl⟩
 case round=>
  obtain⟨i,hig,rfl⟩:=hrel;cases gk with
  |zero=>
   obtain rfl:i=2:=by omega
   have hnx:=A2.o;go_wp2_with fail;go_ret;exact⟨rfl,cU _ _⟩
  |succ g=>
   rcases(by omega:i=0\/i=1)with rfl|rfl
   ·have hnx:=A0.o;go_wp2_with fail;go_roundg g
    case measure=>omega
    case rel=>exact⟨1,by omega,rfl⟩
   ·have hnx:=A1.o;go_wp2_with fail;go_roundg g
    case measure=>omega
    case rel=>exact⟨2,by omega,rfl⟩
theorem Ga(r:Int)(h1:128<=r)(hr:r≠65533)(hv:Lib.validRune r=false)(w:World):
 Calls prog 50 #[.string gm,.int .i32 r] w fun e w'=>e=.returned (.int .i64 (-1))/\Below w.heap.size w w':=by
 generalize gm=S at*;have dG:(r==65533)=false:=by rw[ai];exact hr
 have cu:¬r<128:=by omega
 have fm:(0:Int)<=r:=by omega
 go_enter func50,ntmps50;go_wp2_with (refine(utf8_ValidRune r _).mono ?_;rintro e w' ⟨rfl,hw⟩;rw[hw,hv]);go_ret;exact⟨rfl,aF _ _⟩
theorem Ef(r:Int)(h1:128<=r)(hr:r≠65533)(hv:Lib.validRune r=true)(w:World):
 Calls prog 50 #[.string gm,.int .i32 r] w fun e w'=>e=.returned (.int .i64 (-1))/\Below w.heap.size w w':=by
 obtain⟨z1,z2,z3⟩:=encode_facts r (by rw[validRune_eq];exact hv) h1;have HZ:=bD z3;clear z3;have dG:(r==65533)=false:=by rw[ai];exact hr
 have cu:¬r<128:=by omega
 have fm:(0:Int)<=r:=by omega
 have hz:=BM;go_enter func50,ntmps50;have SH:∀W,(convert 21 9 (.int .i32 r)).run prog W=.ok (.string (Utf8.encode r)) W:=fun W=>run_convert_int_string W 21 9 .i32 r (by kernel_rfl) (by kernel_rfl);generalize Utf8.encode r=E at*;obtain⟨c,hc⟩:∃c:UInt8,E[E.size-1]'(by omega)=c:=⟨_,rfl⟩;have nC:=HZ.o (by omega);rw[hc]at nC;have q1:(gm[1]'(by rw[hz];omega))=63:=rfl;have an0:gm.extract 2 2=⟨#[]⟩:=rfl;have HXT:=bD an0;have J1:=bD nC;have db:(c.toNat:Int)≠63:=by omega
 have T2:((c.toNat:Int)).toNat.toUInt8=c:=by simp
 have HIB:=bD (fun W=>strings_IndexByte (⟨#[]⟩:ByteArray) (c.toNat:Int) W);clear an0 HZ nC;generalize gm=S at*;go_wp2_with (refine(utf8_ValidRune r _).mono ?_;rintro e w' ⟨rfl,hw⟩;rw[hw,hv];clear hw);go_step3;go_wp2_with fail;go_loopw [9,10,11,12] (fun i _ _ _ wr=>i=.int .i64 (E.size-1:Int)/\wr=w) (fun _ _ _ _ _=>0)
 case atStart=>exact⟨by first|rfl|(congr 1;omega),by rfl⟩
 case round=>
  obtain⟨rfl,rfl⟩:=hrel;by_cases MW:E.size=2
  ·have uv:E[1]'(by omega)=c:=by rw[<-hc];congr 1;omega
   have X9:((E.size:Int)-1)=1:=by omega
   have hi2:(1:Int)<(E.size:Int):=by omega
   have hi3:1<E.size:=by omega
   have hi4:1<S.size:=by omega
   have tK:((63:Int)==(c.toNat:Int))=false:=by rw[ai];omega
   have hwr:IntKind.i64.wrap 2=2:=by decide
   have hxt:S.extract 2 2=⟨#[]⟩:=HXT.o;rw[X9];clear X9 hc db;go_wp2_with fail;go_step3;go_upto_region 6 with(fail)
   go_quiet (fail);have J6:Hy (Below wr.heap.size wr (wr.drewN nq)):=⟨rfl,rfl,rfl,dv _,fun _ _=>rfl⟩;have HWS:Hy ((wr.drewN nq).heap.size=wr.heap.size):=rfl;generalize wr.drewN nq=w1 at*;go_upto_region 7 with(fail)
   have HQ:Hy (∀d os,Calls prog 85 #[.string ⟨#[]⟩,.int .u8 (c.toNat:Int)] (Go.Sort.grow (redrawn w1 d) os) fun e w'=>e=.returned (.int .i64 (-1))/\∃p:Regrown,w'=Go.Sort.grow (redrawn w1 p.d) p.os):=
    fun d os=>(HIB.o _).mono (fun e w' h=>⟨h.1,⟨d,os⟩,h.2⟩)
   refine wp_region_quiet_below (by kernel_rfl) (by kernel_rfl) ?_;quiet_step (exact HQ.o _ _);quiet_step (exact HQ.o _ _);quiet_step (exact HQ.o _ _);quiet_step (exact HQ.o _ _);quiet_step (exact HQ.o _ _);quiet_step (exact HQ.o _ _);quiet_step (exact HQ.o _ _);quiet_step (exact HQ.o _ _);quiet_step (exact HQ.o _ _);refine wpQuiet_nil ?_;intro _ hw';obtain⟨⟨dq,osq⟩,Uo⟩:=hw';subst Uo;have G0:=below_regrown w1 dq osq;simp only at G0|-;generalize Go.Sort.grow (redrawn w1 dq) osq=w9 at*;go_wp2_with fail;simp +zetaDelta only[Exit.noGoto,Exit.inBlock,Exit.then];go_ret;exact⟨rfl,J6.o.trans (by have h:=HWS.o;rw[h]at G0;exact G0)⟩
  ·have bW:¬((E.size:Int)-1<2):=by omega
   go_wp2_with fail;go_ret;exact⟨rfl,aF _ _⟩
theorem Eg(r:Int)(h1:128<=r)(w:World):
 Calls prog 50 #[.string gm,.int .i32 r] w fun e w'=>e=.returned (.int .i64 (-1))/\Below w.heap.size w w':=by
 by_cases hr:r=65533
 ·subst hr;exact F9 w
 ·cases hv:Lib.validRune r with
  |false=>exact Ga r h1 hr hv w
  |true=>exact Ef r h1 hr hv w
theorem OZ{l lR:Bt}{i n:Nat}(h:Lib.NoAny l lR i)(hs:∀j,i<=j->j<i+n->∀b,l[j]?=some b->lR.contains b=false):Lib.NoAny l lR (i+n):=fun j b hj hb=>by
 rcases Nat.lt_or_ge j i with h1|h1
 ·exact h j b h1 hb
 ·exact hs j h1 hj b hb
theorem Eh(s:ByteArray)(w:World)(h8:s.size<=8):
 Calls prog 32 #[.string s,.string gm] w fun e w'=>e=.returned (.int .i64 (Lib.indexAny s.data.toList gm.data.toList))/\Below w.heap.size w w':=by
 have HHI:=bD Eg;have WW:=bD (fun r W h0 h1=>strings_IndexRune_ascii gm r W h0 h1);have HSU:=bD (fun W=>strings_shouldUseASCIISet (s.size:Int) W);have aE7:gm.toList.isEmpty=false:=by rw[Lib.toList_data];rfl
 have tQ:gm.size=2:=rfl;have h8z:decide ((8:Int)<(s.size:Int))=false:=aT (by omega);have HNC:Hy (∀b:UInt8,128<=b.toNat->gm.data.toList.contains b=false):=fun b hb=>by
  have e:gm.data.toList=[47,63]:=rfl;rw[e];have h1:b≠47:=by rintro rfl;exact aX hb (by decide)
  have h2:b≠63:=by rintro rfl;exact aX hb (by decide)
  simp[h1,h2]
 have Y3:=bD (fun x=>Lib.contains_iff_indexByte gm.data.toList x);generalize gm=S at*;go_enter func32,ntmps32;go_wp2_with (refine(HSU.o _).mono ?_;rintro e w' ⟨rfl,hw⟩;rw[hw,h8z];clear hw);go_loopg [9,10] s.size (fun g _ _ wx=>∃i:Nat,i+g=s.size/\wx.heap[w.heap.size]?=some (.stringIter s i)/\Hy (Below w.heap.size w wx)/\Hy (Lib.NoAny s.data.toList S.data.toList i))
 case atStart=>exact⟨0,by omega,World.iter_heap w s 0,cU _ _,Lib.NoAny.zero _ _⟩
 case round=>
  obtain⟨i,hig,hit,HB,HN⟩:=hrel;obtain⟨w1,rfl⟩:∃w1:World,w1=wr:=⟨_,rfl⟩;have lQ:w.heap.size<w1.heap.size:=(Array.getElem?_eq_some_iff.1 hit).1;by_cases hi:i<s.size
  ·obtain⟨x,hx⟩:∃x:UInt8,s[i]'hi=x:=⟨_,rfl⟩;have NG:s.data.toList[i]?=some x:=by rw[<-hx];exact Lib.data_getElem? s i hi
   have Hx:=bD NG;clear NG;by_cases Y7:x.toNat<128
   ·have hnx:=fun ty=>Lib.run_next_ascii_at (P:=prog) w1 w.heap.size s i ty hit hi (by rw[hx];exact Y7);rw[hx]at hnx;have O0:=Lib.iterAt_heap w1 w.heap.size s i (i+1) hit;have dm:=bD (Lib.below_iterAt HB.o (dv w.heap.size) s (i+1));generalize w1.iterAt w.heap.size s (i+1)=w2 at*;have ab8:=bD O0;have an1:((x.toNat:Int)).toNat.toUInt8=x:=by simp
    have HC:=bD (WW.o (x.toNat:Int) w2 (by omega) (by omega));have Sb:=Y3.o x;rw[an1]at HC;clear hit O0 hx HB;cases Ma:S.data.toList.contains x with
    |false=>
     rw[Ma]at Sb;have bW:¬((0:Int)<=Lib.indexByte S.data.toList x):=of_decide_eq_false Sb.symm;have HIN:=bD Ma;clear Sb Ma;go_wp2_with (refine HC.o.mono ?_;rintro e w' ⟨rfl,hw⟩;rw[hw];clear hw);go_roundg (gk-1)
     case measure=>omega
     case rel=>exact⟨i+1,by omega,ab8.o,dm.o,HN.o.succ Hx.o HIN.o⟩
    |true=>
     rw[Ma]at Sb;have Nc:(0:Int)<=Lib.indexByte S.data.toList x:=of_decide_eq_true Sb.symm;have HIN:=bD Ma;clear Sb Ma;go_wp2_with (refine HC.o.mono ?_;rintro e w' ⟨rfl,hw⟩;rw[hw];clear hw);go_ret;exact⟨by rw[Lib.indexAny_hit HN.o Hx.o HIN.o];rfl,dm.o⟩
   ·have Nc:128<=(s[i]'hi).toNat:=by rw[hx];omega
    have hd:=decode_high s i hi Nc;obtain⟨nE,fA⟩:=L9 s i hi Nc;have hnx:=fun ty=>Lib.run_next_any_at (P:=prog) w1 w.heap.size s i ty hit hi;have O0:=Lib.iterAt_heap w1 w.heap.size s i (i+(Utf8.decode s i).2) hit;have dm:=bD (Lib.below_iterAt HB.o (dv w.heap.size) s (i+(Utf8.decode s i).2));have yc:=bD (OZ HN.o (fun j h1 h2 b hb=>HNC.o b (fA j h1 h2 b hb)));have HC:=bD (HHI.o ((Utf8.decode s i).1:Int) (by omega));generalize w1.iterAt w.heap.size s (i+(Utf8.decode s i).2)=w2 at*;generalize Utf8.decode s i=dd at*;obtain⟨dr,dn⟩:=dd;simp only at hd nE fA hnx O0 dm yc HC;have ab8:=bD O0;have wm:w.heap.size<w2.heap.size:=(Array.getElem?_eq_some_iff.1 O0).1;have uj:=bD wm;clear hit O0 hx HB Nc Y7 fA wm;go_wp2_with (refine(HC.o w2).mono ?_;rintro e w3 ⟨rfl,fm⟩);have ax0:w3.heap[w.heap.size]?=some (.stringIter s (i+dn)):=by rw[fm.block _ uj.o];exact ab8.o
    have gI:=bD (dm.o.trans (fm.mono dm.o.size));clear fm;go_roundg (gk-dn)
    case measure=>omega
    case rel=>exact⟨i+dn,by omega,ax0,gI.o,yc.o⟩
  ·have hie:i=s.size:=by omega
   have hnx:=fun ty=>Lib.run_next_end_at (P:=prog) w1 w.heap.size s i ty hit hi;subst hie;go_wp2_with fail;go_ret;exact⟨by rw[Lib.indexAny_none (by rw[<-Lib.size_eq];exact HN.o)];rfl,HB.o⟩
theorem JF(s:ByteArray)(w:World)(hs:s.size<4294967281):
 Calls prog 32 #[.string s,.string gm] w fun e w'=>e=.returned (.int .i64 (Lib.indexAny s.data.toList gm.data.toList))/\Below w.heap.size w w':=by
 by_cases h8:s.size<=8
 ·exact Eh s w h8
 ·refine(strings_IndexAny_long (zero_of_info (n:=256) (by kernel_rfl)).1 s gm w (by show 2<=2;omega) (by omega) hs (by show 2<4294967281;omega) (fun j b hj=>?_)).mono fun e w' ⟨h1,h2⟩=>⟨h1,?_⟩
  ·have hm:b∈[47,63]:=List.mem_of_getElem? (show([47,63]:Bt)[j]?=some b from hj);simp at hm;rcases hm with rfl|rfl<;>decide
  ·rw[h2];exact(cU _ _).alloc (by simp) _
theorem qJ(s:Bt)(hl:s.length<=1000000000):ju s:=by
 intro W hg;have Nc:=Lib.indexAny_ge [47,63] (s.drop 7);have bW:=uk [47,63] (s.drop 7);rw[aj]at bW;have h:=yr (bs s) (Lib.indexAny (s.drop 7) [47,63]) W hg Nc (by rw[bJ];omega) (fun W'=>by
  have hx:(bs s).extract 7 (bs s).size=bs (s.drop 7):=vH s 7;rw[hx];have:=JF (bs (s.drop 7)) W' (by rw[bJ,aj];omega);rw[ga]at this;exact this)
 rw[eB]at h;exact h
end Go.Proofs.YtejafaaihodehaaGreatDoor
