/- Part 40. -/
import Derived.Test.YtejafaaihodehaaGreatDoorZ39
set_option linter.all false
set_option maxRecDepth 100000
set_option maxHeartbeats 8000000
namespace Go.Proofs.YtejafaaihodehaaGreatDoor
open Go Go.RowKit Tryz
def rU:Bt:=[72,84,84,80,95,72,79,83,84]
def rV:Bt:=[72,84,84,80,95,82,69,70,69,82,69,82]
def rW:Bt:=[72,84,84,80,95,85,83,69,82,95,65,71,69,78,84]
def rX:Bt:=[72,84,84,80,95,67,79,79,75,73,69]
def rY:Bt:=[81,85,69,82,89,95,83,84,82,73,78,71]
def rZ:Bt:=[72,84,84,80,95,65,67,67,69,80,84,95,76,65,78,71,85,65,71,69]
def wT(s:Bt)(x:Value)(W:World):Prop:=∃g,x=.func (.func 215) #[] #[.pointer (some ⟨g,0,none⟩)]/\W.cell? ⟨g,0,none⟩=some (.string (bs s))
def Ql(k E:Nat)(s:Bt)(x:Value)(W:World):Prop:=∃g,x=.func (.func 216) #[] #[.pointer (some ⟨g,0,none⟩),.pointer (some ⟨g+1,0,none⟩)]/\W.cell? ⟨g,0,none⟩=some (.string (bs s))/\
 W.cell? ⟨g+1,0,none⟩=some (.func (.func k) #[] #[.pointer (some ⟨E,0,none⟩)])
section
variable {W W':World} {s:Bt} {x:Value} {k E:Nat}
theorem wT.below(h:wT s x W)(hb:Below W.heap.size W W'):wT s x W':=by
 obtain⟨g,h1,h2⟩:=h;exact⟨g,h1,(hb.cell (aq _ _ h2)).trans h2⟩
theorem Ql.below(h:Ql k E s x W)(hb:Below W.heap.size W W'):Ql k E s x W':=by
 obtain⟨g,h1,h2,h3⟩:=h;exact⟨g,h1,(hb.cell (aq _ _ h2)).trans h2,(hb.cell (aq _ _ h3)).trans h3⟩
theorem fK.U0{b n:Nat}{f:KV}(h:fK W b n f){a:Addr}{y:Value}(hc:W.cell? a=some y):a.block≠b:=by
 intro e;obtain⟨D,hD,⟨es,ck,h1,h2⟩,h3⟩:=h;subst e;unfold World.cell? at hc;rw[h1]at hc;simp at hc
theorem fK.cell{b n:Nat}{f:KV}(h:fK W b n f)(hg:W.grownBy W' (some b)){a:Addr}{y:Value}(hc:W.cell? a=some y):W'.cell? a=some y:=by
 have db:=h.U0 hc;have bW:=aq _ _ hc;rw[aW (w:=W) (a:=a) (hg.block a.block bW (fun e=>db (ar e)))];exact hc
theorem wT.map{b n:Nat}{f:KV}(h:wT s x W)(hm:fK W b n f)(hg:W.grownBy W' (some b)):wT s x W':=by
 obtain⟨g,h1,h2⟩:=h;exact⟨g,h1,hm.cell hg h2⟩
theorem Ql.map{b n:Nat}{f:KV}(h:Ql k E s x W)(hm:fK W b n f)(hg:W.grownBy W' (some b)):Ql k E s x W':=by
 obtain⟨g,h1,h2,h3⟩:=h;exact⟨g,h1,hm.cell hg h2,hm.cell hg h3⟩
theorem fK.iz{b n g:Nat}{f:KV}{t:TypeId}{cs:Array Value}(h:fK W b n f)(hg:W.grownBy W' (some b))(hb:bL W g t cs):bL W' g t cs:=by
 refine hb.grown hg fun e=>?_;have e:=ar e;obtain⟨D,hD,⟨es,ck,h1,h2⟩,h3⟩:=h;subst e;unfold bL at hb;rw[h1]at hb;cases hb
end
def fl(l4 l8 ir iu iw iy:Bool)(x8 gA gB gC gD gE:Value):KV:=fun s=>if s=rU then(if l4 then some x8 else none)else if s=rV then(if l8 then some gA else none)else if s=rW then(if ir then some gB else none)else if s=rX then(if iu then some gC else none)else if s=rY then(if iw then some gD else none)else if s=rZ then(if iy then some gE else none)else none
theorem R0(x8 gA gB gC gD gE:Value)(s:Bt):fl false false false false false false x8 gA gB gC gD gE s=none:=by
 unfold fl
 repeat' split
 all_goals first|rfl|(rename_i h;cases h)
theorem R4(l8 ir iu iw iy:Bool)(x8 gA gB gC gD gE:Value)(f:KV)(h:∀s,f s=fl false l8 ir iu iw iy x8 gA gB gC gD gE s)(s:Bt):(f.D9 rU x8) s=fl true l8 ir iu iw iy x8 gA gB gC gD gE s:=by
 unfold KV.D9;rw[h];by_cases h0:s=rU
 ·rw[ae h0,h0];simp[fl,rU,rV,rW,rX,rY,rZ]
 ·rw[aa h0];simp only[fl,aa h0]
theorem OT(l8 ir iu iw iy:Bool)(x8 gA gB gC gD gE y:Value)(s:Bt):fl false l8 ir iu iw iy y gA gB gC gD gE s=fl false l8 ir iu iw iy x8 gA gB gC gD gE s:=by
 simp[fl]
theorem R5(l4 ir iu iw iy:Bool)(x8 gA gB gC gD gE:Value)(f:KV)(h:∀s,f s=fl l4 false ir iu iw iy x8 gA gB gC gD gE s)(s:Bt):(f.D9 rV gA) s=fl l4 true ir iu iw iy x8 gA gB gC gD gE s:=by
 unfold KV.D9;rw[h];by_cases h0:s=rV
 ·rw[ae h0,h0];simp[fl,rU,rV,rW,rX,rY,rZ]
 ·rw[aa h0];simp only[fl,aa h0]
theorem OU(l4 ir iu iw iy:Bool)(x8 gA gB gC gD gE y:Value)(s:Bt):fl l4 false ir iu iw iy x8 y gB gC gD gE s=fl l4 false ir iu iw iy x8 gA gB gC gD gE s:=by
 simp[fl]
theorem R6(l4 l8 iu iw iy:Bool)(x8 gA gB gC gD gE:Value)(f:KV)(h:∀s,f s=fl l4 l8 false iu iw iy x8 gA gB gC gD gE s)(s:Bt):(f.D9 rW gB) s=fl l4 l8 true iu iw iy x8 gA gB gC gD gE s:=by
 unfold KV.D9;rw[h];by_cases h0:s=rW
 ·rw[ae h0,h0];simp[fl,rU,rV,rW,rX,rY,rZ]
 ·rw[aa h0];simp only[fl,aa h0]
theorem OV(l4 l8 iu iw iy:Bool)(x8 gA gB gC gD gE y:Value)(s:Bt):fl l4 l8 false iu iw iy x8 gA y gC gD gE s=fl l4 l8 false iu iw iy x8 gA gB gC gD gE s:=by
 simp[fl]
theorem R7(l4 l8 ir iw iy:Bool)(x8 gA gB gC gD gE:Value)(f:KV)(h:∀s,f s=fl l4 l8 ir false iw iy x8 gA gB gC gD gE s)(s:Bt):(f.D9 rX gC) s=fl l4 l8 ir true iw iy x8 gA gB gC gD gE s:=by
 unfold KV.D9;rw[h];by_cases h0:s=rX
 ·rw[ae h0,h0];simp[fl,rU,rV,rW,rX,rY,rZ]
 ·rw[aa h0];simp only[fl,aa h0]
theorem OW(l4 l8 ir iw iy:Bool)(x8 gA gB gC gD gE y:Value)(s:Bt):fl l4 l8 ir false iw iy x8 gA gB y gD gE s=fl l4 l8 ir false iw iy x8 gA gB gC gD gE s:=by
 simp[fl]
theorem R8(l4 l8 ir iu iy:Bool)(x8 gA gB gC gD gE:Value)(f:KV)(h:∀s,f s=fl l4 l8 ir iu false iy x8 gA gB gC gD gE s)(s:Bt):(f.D9 rY gD) s=fl l4 l8 ir iu true iy x8 gA gB gC gD gE s:=by
 unfold KV.D9;rw[h];by_cases h0:s=rY
 ·rw[ae h0,h0];simp[fl,rU,rV,rW,rX,rY,rZ]
 ·rw[aa h0];simp only[fl,aa h0]
theorem OX(l4 l8 ir iu iy:Bool)(x8 gA gB gC gD gE y:Value)(s:Bt):fl l4 l8 ir iu false iy x8 gA gB gC y gE s=fl l4 l8 ir iu false iy x8 gA gB gC gD gE s:=by
 simp[fl]
theorem R9(l4 l8 ir iu iw:Bool)(x8 gA gB gC gD gE:Value)(f:KV)(h:∀s,f s=fl l4 l8 ir iu iw false x8 gA gB gC gD gE s)(s:Bt):(f.D9 rZ gE) s=fl l4 l8 ir iu iw true x8 gA gB gC gD gE s:=by
 unfold KV.D9;rw[h];by_cases h0:s=rZ
 ·rw[ae h0,h0];simp[fl,rU,rV,rW,rX,rY,rZ]
 ·rw[aa h0];simp only[fl,aa h0]
theorem OY(l4 l8 ir iu iw:Bool)(x8 gA gB gC gD gE y:Value)(s:Bt):fl l4 l8 ir iu iw false x8 gA gB gC gD y s=fl l4 l8 ir iu iw false x8 gA gB gC gD gE s:=by
 simp[fl]
structure KF(v:cK)(E:Nat)(w0:World)(l0 l3 l7 oO oP oQ oR l4 l8 ir iu iw iy:Bool)(x5 x8 gA gB gC gD gE:Value)(w:World):Prop where
 below:Below w0.heap.size w0 w
 box:bL w E 23 (s8 v)
 c0:l3=true->wT v.e0 x8 w
 c1:l7=true->wT v.e1 gA w
 c2:oO=true->Ql 185 E v.e2 gB w
 c3:oP=true->Ql 190 E v.e3 gC w
 c4:oQ=true->Ql 193 E v.e5 gD w
 c5:oR=true->Ql 195 E v.e4 gE w
 d0:l4=true->l3=true
 d1:l8=true->l7=true
 d2:ir=true->oO=true
 d3:iu=true->oP=true
 d4:iw=true->oQ=true
 d5:iy=true->oR=true
 map:l0=true->∃b n f,x5=.map (some b)/\fK w b n f/\n<=l4.toNat+l8.toNat+ir.toNat+iu.toNat+iw.toNat+iy.toNat/\w0.heap.size<=b/\∀s,f s=fl l4 l8 ir iu iw iy x8 gA gB gC gD gE s
 no:l0=false->l4=false/\l8=false/\ir=false/\iu=false/\iw=false/\iy=false
section
variable {v:cK} {E:Nat} {w0 w w':World} {l0 l3 l7 oO oP oQ oR l4 l8 ir iu iw iy:Bool} {x5 x8 gA gB gC gD gE:Value}
theorem KF.made(h:KF v E w0 false l3 l7 oO oP oQ oR l4 l8 ir iu iw iy x5 x8 gA gB gC gD gE w):KF v E w0 true l3 l7 oO oP oQ oR l4 l8 ir iu iw iy (.map (some w.heap.size)) x8 gA gB gC gD gE (w.alloc (.map #[] 0)):=by
 have hb:Below w.heap.size w (w.alloc (.map #[] 0)):=cU _ _;obtain⟨n0,n1,n2,n3,n4,n5⟩:=h.no rfl;subst n0 n1 n2 n3 n4 n5;refine⟨h.below.alloc h.below.size _,h.box.alloc _,fun e=>(h.c0 e).below hb,fun e=>(h.c1 e).below hb,fun e=>(h.c2 e).below hb,fun e=>(h.c3 e).below hb,fun e=>(h.c4 e).below hb,fun e=>(h.c5 e).below hb,h.d0,h.d1,h.d2,h.d3,h.d4,h.d5,fun _=>⟨_,0,_,rfl,fK.made w,ax _,h.below.size,fun s=>(R0 _ _ _ _ _ _ s).symm⟩,fun e=>by cases e⟩
theorem KF.am8(h:KF v E w0 l0 false l7 oO oP oQ oR l4 l8 ir iu iw iy x5 x8 gA gB gC gD gE w){y:Value}(hb:Below w.heap.size w w')(hy:wT v.e0 y w'):KF v E w0 l0 true l7 oO oP oQ oR l4 l8 ir iu iw iy x5 y gA gB gC gD gE w':=by
 obtain rfl:l4=false:=by
  cases h0:l4 with
  |false=>rfl
  |true=>exact aX (h.d0 h0) (by simp)
 refine⟨h.below.trans (hb.mono h.below.size),h.box.below hb h.box.lt,fun _=>hy,fun e=>(h.c1 e).below hb,fun e=>(h.c2 e).below hb,fun e=>(h.c3 e).below hb,fun e=>(h.c4 e).below hb,fun e=>(h.c5 e).below hb,fun _=>rfl,h.d1,h.d2,h.d3,h.d4,h.d5,fun e=>?_,h.no⟩;obtain⟨b,n,f,h1,h2,h3,h4,h5⟩:=h.map e;exact⟨b,n,f,h1,h2.below hb,h3,h4,fun s=>(h5 s).trans (OT _ _ _ _ _ _ _ _ _ _ _ _ s).symm⟩
theorem KF.am9(h:KF v E w0 l0 l3 false oO oP oQ oR l4 l8 ir iu iw iy x5 x8 gA gB gC gD gE w){y:Value}(hb:Below w.heap.size w w')(hy:wT v.e1 y w'):KF v E w0 l0 l3 true oO oP oQ oR l4 l8 ir iu iw iy x5 x8 y gB gC gD gE w':=by
 obtain rfl:l8=false:=by
  cases h0:l8 with
  |false=>rfl
  |true=>exact aX (h.d1 h0) (by simp)
 refine⟨h.below.trans (hb.mono h.below.size),h.box.below hb h.box.lt,fun e=>(h.c0 e).below hb,fun _=>hy,fun e=>(h.c2 e).below hb,fun e=>(h.c3 e).below hb,fun e=>(h.c4 e).below hb,fun e=>(h.c5 e).below hb,h.d0,fun _=>rfl,h.d2,h.d3,h.d4,h.d5,fun e=>?_,h.no⟩;obtain⟨b,n,f,h1,h2,h3,h4,h5⟩:=h.map e;exact⟨b,n,f,h1,h2.below hb,h3,h4,fun s=>(h5 s).trans (OU _ _ _ _ _ _ _ _ _ _ _ _ s).symm⟩
theorem KF.call2(h:KF v E w0 l0 l3 l7 false oP oQ oR l4 l8 ir iu iw iy x5 x8 gA gB gC gD gE w){y:Value}(hb:Below w.heap.size w w')(hy:Ql 185 E v.e2 y w'):KF v E w0 l0 l3 l7 true oP oQ oR l4 l8 ir iu iw iy x5 x8 gA y gC gD gE w':=by
 obtain rfl:ir=false:=by
  cases h0:ir with
  |false=>rfl
  |true=>exact aX (h.d2 h0) (by simp)
 refine⟨h.below.trans (hb.mono h.below.size),h.box.below hb h.box.lt,fun e=>(h.c0 e).below hb,fun e=>(h.c1 e).below hb,fun _=>hy,fun e=>(h.c3 e).below hb,fun e=>(h.c4 e).below hb,fun e=>(h.c5 e).below hb,h.d0,h.d1,fun _=>rfl,h.d3,h.d4,h.d5,fun e=>?_,h.no⟩;obtain⟨b,n,f,h1,h2,h3,h4,h5⟩:=h.map e;exact⟨b,n,f,h1,h2.below hb,h3,h4,fun s=>(h5 s).trans (OV _ _ _ _ _ _ _ _ _ _ _ _ s).symm⟩
theorem KF.call3(h:KF v E w0 l0 l3 l7 oO false oQ oR l4 l8 ir iu iw iy x5 x8 gA gB gC gD gE w){y:Value}(hb:Below w.heap.size w w')(hy:Ql 190 E v.e3 y w'):KF v E w0 l0 l3 l7 oO true oQ oR l4 l8 ir iu iw iy x5 x8 gA gB y gD gE w':=by
 obtain rfl:iu=false:=by
  cases h0:iu with
  |false=>rfl
  |true=>exact aX (h.d3 h0) (by simp)
 refine⟨h.below.trans (hb.mono h.below.size),h.box.below hb h.box.lt,fun e=>(h.c0 e).below hb,fun e=>(h.c1 e).below hb,fun e=>(h.c2 e).below hb,fun _=>hy,fun e=>(h.c4 e).below hb,fun e=>(h.c5 e).below hb,h.d0,h.d1,h.d2,fun _=>rfl,h.d4,h.d5,fun e=>?_,h.no⟩;obtain⟨b,n,f,h1,h2,h3,h4,h5⟩:=h.map e;exact⟨b,n,f,h1,h2.below hb,h3,h4,fun s=>(h5 s).trans (OW _ _ _ _ _ _ _ _ _ _ _ _ s).symm⟩
theorem KF.call4(h:KF v E w0 l0 l3 l7 oO oP false oR l4 l8 ir iu iw iy x5 x8 gA gB gC gD gE w){y:Value}(hb:Below w.heap.size w w')(hy:Ql 193 E v.e5 y w'):KF v E w0 l0 l3 l7 oO oP true oR l4 l8 ir iu iw iy x5 x8 gA gB gC y gE w':=by
 obtain rfl:iw=false:=by
  cases h0:iw with
  |false=>rfl
  |true=>exact aX (h.d4 h0) (by simp)
 refine⟨h.below.trans (hb.mono h.below.size),h.box.below hb h.box.lt,fun e=>(h.c0 e).below hb,fun e=>(h.c1 e).below hb,fun e=>(h.c2 e).below hb,fun e=>(h.c3 e).below hb,fun _=>hy,fun e=>(h.c5 e).below hb,h.d0,h.d1,h.d2,h.d3,fun _=>rfl,h.d5,fun e=>?_,h.no⟩;obtain⟨b,n,f,h1,h2,h3,h4,h5⟩:=h.map e;exact⟨b,n,f,h1,h2.below hb,h3,h4,fun s=>(h5 s).trans (OX _ _ _ _ _ _ _ _ _ _ _ _ s).symm⟩
theorem KF.call5(h:KF v E w0 l0 l3 l7 oO oP oQ false l4 l8 ir iu iw iy x5 x8 gA gB gC gD gE w){y:Value}(hb:Below w.heap.size w w')(hy:Ql 195 E v.e4 y w'):KF v E w0 l0 l3 l7 oO oP oQ true l4 l8 ir iu iw iy x5 x8 gA gB gC gD y w':=by
 obtain rfl:iy=false:=by
  cases h0:iy with
  |false=>rfl
  |true=>exact aX (h.d5 h0) (by simp)
 refine⟨h.below.trans (hb.mono h.below.size),h.box.below hb h.box.lt,fun e=>(h.c0 e).below hb,fun e=>(h.c1 e).below hb,fun e=>(h.c2 e).below hb,fun e=>(h.c3 e).below hb,fun e=>(h.c4 e).below hb,fun _=>hy,h.d0,h.d1,h.d2,h.d3,h.d4,fun _=>rfl,fun e=>?_,h.no⟩;obtain⟨b,n,f,h1,h2,h3,h4,h5⟩:=h.map e;exact⟨b,n,f,h1,h2.below hb,h3,h4,fun s=>(h5 s).trans (OY _ _ _ _ _ _ _ _ _ _ _ _ s).symm⟩
theorem KF.aw3(h:KF v E w0 true l3 l7 oO oP oQ oR false l8 ir iu iw iy x5 x8 gA gB gC gD gE w)(hc:l3=true){b n:Nat}{f:KV}(h1:x5=.map (some b))(h2:fK w b n f)(h3:n<=false.toNat+l8.toNat+ir.toNat+iu.toNat+iw.toNat+iy.toNat)(h4:w0.heap.size<=b)(h5:∀s,f s=fl false l8 ir iu iw iy x8 gA gB gC gD gE s)
 (hm:fK w' b (n+1) (f.D9 rU x8)) (hg:w.grownBy w' (some b)):KF v E w0 true l3 l7 oO oP oQ oR true l8 ir iu iw iy x5 x8 gA gB gC gD gE w':=by
 refine⟨h.below.trans (bN hg h.below.size (fun k hk=>by have:=ar hk;omega)),h2.iz hg h.box,fun e=>(h.c0 e).map h2 hg,fun e=>(h.c1 e).map h2 hg,fun e=>(h.c2 e).map h2 hg,fun e=>(h.c3 e).map h2 hg,fun e=>(h.c4 e).map h2 hg,fun e=>(h.c5 e).map h2 hg,fun _=>hc,h.d1,h.d2,h.d3,h.d4,h.d5,fun _=>⟨b,n+1,_,h1,hm,?_,h4,R4 _ _ _ _ _ _ _ _ _ _ _ f h5⟩,fun e=>by cases e⟩;simp only[Bool.toNat_false,Bool.toNat_true]at h3|-;omega
theorem KF.aw4(h:KF v E w0 true l3 l7 oO oP oQ oR l4 false ir iu iw iy x5 x8 gA gB gC gD gE w)(hc:l7=true){b n:Nat}{f:KV}(h1:x5=.map (some b))(h2:fK w b n f)(h3:n<=l4.toNat+false.toNat+ir.toNat+iu.toNat+iw.toNat+iy.toNat)(h4:w0.heap.size<=b)(h5:∀s,f s=fl l4 false ir iu iw iy x8 gA gB gC gD gE s)
 (hm:fK w' b (n+1) (f.D9 rV gA)) (hg:w.grownBy w' (some b)):KF v E w0 true l3 l7 oO oP oQ oR l4 true ir iu iw iy x5 x8 gA gB gC gD gE w':=by
 refine⟨h.below.trans (bN hg h.below.size (fun k hk=>by have:=ar hk;omega)),h2.iz hg h.box,fun e=>(h.c0 e).map h2 hg,fun e=>(h.c1 e).map h2 hg,fun e=>(h.c2 e).map h2 hg,fun e=>(h.c3 e).map h2 hg,fun e=>(h.c4 e).map h2 hg,fun e=>(h.c5 e).map h2 hg,h.d0,fun _=>hc,h.d2,h.d3,h.d4,h.d5,fun _=>⟨b,n+1,_,h1,hm,?_,h4,R5 _ _ _ _ _ _ _ _ _ _ _ f h5⟩,fun e=>by cases e⟩;simp only[Bool.toNat_false,Bool.toNat_true]at h3|-;omega
theorem KF.aw5(h:KF v E w0 true l3 l7 oO oP oQ oR l4 l8 false iu iw iy x5 x8 gA gB gC gD gE w)(hc:oO=true){b n:Nat}{f:KV}(h1:x5=.map (some b))(h2:fK w b n f)(h3:n<=l4.toNat+l8.toNat+false.toNat+iu.toNat+iw.toNat+iy.toNat)(h4:w0.heap.size<=b)(h5:∀s,f s=fl l4 l8 false iu iw iy x8 gA gB gC gD gE s)
 (hm:fK w' b (n+1) (f.D9 rW gB)) (hg:w.grownBy w' (some b)):KF v E w0 true l3 l7 oO oP oQ oR l4 l8 true iu iw iy x5 x8 gA gB gC gD gE w':=by
 refine⟨h.below.trans (bN hg h.below.size (fun k hk=>by have:=ar hk;omega)),h2.iz hg h.box,fun e=>(h.c0 e).map h2 hg,fun e=>(h.c1 e).map h2 hg,fun e=>(h.c2 e).map h2 hg,fun e=>(h.c3 e).map h2 hg,fun e=>(h.c4 e).map h2 hg,fun e=>(h.c5 e).map h2 hg,h.d0,h.d1,fun _=>hc,h.d3,h.d4,h.d5,fun _=>⟨b,n+1,_,h1,hm,?_,h4,R6 _ _ _ _ _ _ _ _ _ _ _ f h5⟩,fun e=>by cases e⟩;simp only[Bool.toNat_false,Bool.toNat_true]at h3|-;omega
theorem KF.aw6(h:KF v E w0 true l3 l7 oO oP oQ oR l4 l8 ir false iw iy x5 x8 gA gB gC gD gE w)(hc:oP=true){b n:Nat}{f:KV}(h1:x5=.map (some b))(h2:fK w b n f)(h3:n<=l4.toNat+l8.toNat+ir.toNat+false.toNat+iw.toNat+iy.toNat)(h4:w0.heap.size<=b)(h5:∀s,f s=fl l4 l8 ir false iw iy x8 gA gB gC gD gE s)
 (hm:fK w' b (n+1) (f.D9 rX gC)) (hg:w.grownBy w' (some b)):KF v E w0 true l3 l7 oO oP oQ oR l4 l8 ir true iw iy x5 x8 gA gB gC gD gE w':=by
 refine⟨h.below.trans (bN hg h.below.size (fun k hk=>by have:=ar hk;omega)),h2.iz hg h.box,fun e=>(h.c0 e).map h2 hg,fun e=>(h.c1 e).map h2 hg,fun e=>(h.c2 e).map h2 hg,fun e=>(h.c3 e).map h2 hg,fun e=>(h.c4 e).map h2 hg,fun e=>(h.c5 e).map h2 hg,h.d0,h.d1,h.d2,fun _=>hc,h.d4,h.d5,fun _=>⟨b,n+1,_,h1,hm,?_,h4,R7 _ _ _ _ _ _ _ _ _ _ _ f h5⟩,fun e=>by cases e⟩;simp only[Bool.toNat_false,Bool.toNat_true]at h3|-;omega
theorem KF.aw7(h:KF v E w0 true l3 l7 oO oP oQ oR l4 l8 ir iu false iy x5 x8 gA gB gC gD gE w)(hc:oQ=true){b n:Nat}{f:KV}(h1:x5=.map (some b))(h2:fK w b n f)(h3:n<=l4.toNat+l8.toNat+ir.toNat+iu.toNat+false.toNat+iy.toNat)(h4:w0.heap.size<=b)(h5:∀s,f s=fl l4 l8 ir iu false iy x8 gA gB gC gD gE s)
 (hm:fK w' b (n+1) (f.D9 rY gD)) (hg:w.grownBy w' (some b)):KF v E w0 true l3 l7 oO oP oQ oR l4 l8 ir iu true iy x5 x8 gA gB gC gD gE w':=by
 refine⟨h.below.trans (bN hg h.below.size (fun k hk=>by have:=ar hk;omega)),h2.iz hg h.box,fun e=>(h.c0 e).map h2 hg,fun e=>(h.c1 e).map h2 hg,fun e=>(h.c2 e).map h2 hg,fun e=>(h.c3 e).map h2 hg,fun e=>(h.c4 e).map h2 hg,fun e=>(h.c5 e).map h2 hg,h.d0,h.d1,h.d2,h.d3,fun _=>hc,h.d5,fun _=>⟨b,n+1,_,h1,hm,?_,h4,R8 _ _ _ _ _ _ _ _ _ _ _ f h5⟩,fun e=>by cases e⟩;simp only[Bool.toNat_false,Bool.toNat_true]at h3|-;omega
theorem KF.aw8(h:KF v E w0 true l3 l7 oO oP oQ oR l4 l8 ir iu iw false x5 x8 gA gB gC gD gE w)(hc:oR=true){b n:Nat}{f:KV}(h1:x5=.map (some b))(h2:fK w b n f)(h3:n<=l4.toNat+l8.toNat+ir.toNat+iu.toNat+iw.toNat+false.toNat)(h4:w0.heap.size<=b)(h5:∀s,f s=fl l4 l8 ir iu iw false x8 gA gB gC gD gE s)
 (hm:fK w' b (n+1) (f.D9 rZ gE)) (hg:w.grownBy w' (some b)):KF v E w0 true l3 l7 oO oP oQ oR l4 l8 ir iu iw true x5 x8 gA gB gC gD gE w':=by
 refine⟨h.below.trans (bN hg h.below.size (fun k hk=>by have:=ar hk;omega)),h2.iz hg h.box,fun e=>(h.c0 e).map h2 hg,fun e=>(h.c1 e).map h2 hg,fun e=>(h.c2 e).map h2 hg,fun e=>(h.c3 e).map h2 hg,fun e=>(h.c4 e).map h2 hg,fun e=>(h.c5 e).map h2 hg,h.d0,h.d1,h.d2,h.d3,h.d4,fun _=>hc,fun _=>⟨b,n+1,_,h1,hm,?_,h4,R9 _ _ _ _ _ _ _ _ _ _ _ f h5⟩,fun e=>by cases e⟩;simp only[Bool.toNat_false,Bool.toNat_true]at h3|-;omega
end
def aw9(v:cK)(E:Nat)(w0:World)(listed:Array Bool)(a:Act)(w:World):Prop:=
 ∃(l0 l3 l7 oO oP oQ oR l4 l8 ir iu iw iy CI Fc:Bool) (x2 x5 x8 gA gB gC gD gE JD:Value),listed=#[l0,true,true,l3,l4,true,true,l7,l8,true,true,true,oO,ir,true,true,true,oP,iu,true,true,true,oQ,iw,true,true,true,oR,iy,CI,Fc]/\a={tmps:=#[.agg #[.string (bs v.e0),.string (bs v.e1),.string (bs v.e2),.string (bs v.e3),.string (bs v.e4),.string (bs v.e5)],.pointer (some ⟨E,0,none⟩),x2,.func (.func 185) #[] #[.pointer (some ⟨E,0,none⟩)],.func (.func 185) #[] #[.pointer (some ⟨E,0,none⟩)],x5,.pointer (some ⟨E,0,none⟩),.string (bs v.e0),x8,.pointer (some ⟨E,1,none⟩),.string (bs v.e1),gA,.pointer (some ⟨E,2,none⟩),.string (bs v.e2),.func (.func 185) #[] #[.pointer (some ⟨E,0,none⟩)],gB,.pointer (some ⟨E,3,none⟩),.string (bs v.e3),.func (.func 190) #[] #[.pointer (some ⟨E,0,none⟩)],gC,.pointer (some ⟨E,5,none⟩),.string (bs v.e5),.func (.func 193) #[] #[.pointer (some ⟨E,0,none⟩)],gD,.pointer (some ⟨E,4,none⟩),.string (bs v.e4),.func (.func 195) #[] #[.pointer (some ⟨E,0,none⟩)],gE,JD],defers:=[]}/\KF v E w0 l0 l3 l7 oO oP oQ oR l4 l8 ir iu iw iy x5 x8 gA gB gC gD gE w/\(CI=true->l0=true/\JD=x5)/\(Fc=true->CI=true/\x2=x5)
def Sa(v:cK)(w0:World)(e:Ending)(w:World):Prop:=∃(E:Nat) (x5 x8 gA gB gC gD gE:Value),e=.returned x5/\KF v E w0 true true true true true true true true true true true true true x5 x8 gA gB gC gD gE w
theorem L8(v:cK)(w:World):Calls prog 170 #[v.val] w (Sa v w):=by
 have HE:=bD (bL.new w 23 (s8 v));have HB:=bD (cU w (.cells (s8 v) 23));simp only[cK.val];go_enter func170,ntmps170;go_upto_region 2 with(fail)
 change Code.wp _ _ _ _ (w.alloc (.cells (s8 v) 23));generalize w.alloc (.cells (s8 v) 23)=w1 at*;generalize hE:w.heap.size=E at*;have Y5:=bD hE;clear hE;obtain⟨s0,s1,s2,s3,s4,s5⟩:=nB HE.o;simp[s8]at s0 s1 s2 s3 s4 s5;have hS:w1.drew.cell? ⟨E,0,none⟩=some (.string (bs v.e0))/\w1.drew.cell? ⟨E,1,none⟩=some (.string (bs v.e1))/\w1.drew.cell? ⟨E,2,none⟩=some (.string (bs v.e2))/\w1.drew.cell? ⟨E,3,none⟩=some (.string (bs v.e3))/\w1.drew.cell? ⟨E,4,none⟩=some (.string (bs v.e4))/\w1.drew.cell? ⟨E,5,none⟩=some (.string (bs v.e5)):=⟨s0,s1,s2,s3,s4,s5⟩;clear s0 s1 s2 s3 s4 s5;refine aL (S:=(fun w'=>w'.cell? ⟨E,0,none⟩=some (.string (bs v.e0))/\w'.cell? ⟨E,1,none⟩=some (.string (bs v.e1))/\w'.cell? ⟨E,2,none⟩=some (.string (bs v.e2))/\w'.cell? ⟨E,3,none⟩=some (.string (bs v.e3))/\w'.cell? ⟨E,4,none⟩=some (.string (bs v.e4))/\w'.cell? ⟨E,5,none⟩=some (.string (bs v.e5)))) (by kernel_rfl) ?_;change wpAnyH _ _ _ _ _ _ _ _ (World.drew _);refine jw 1 hS ?_;refine jw 2 hS ?_;refine jw 5 hS ?_;refine jw 6 hS ?_;refine jw 9 hS ?_;refine jw 10 hS ?_;refine jw 11 hS ?_;refine jw 14 hS ?_;refine jw 15 hS ?_;refine jw 16 hS ?_;refine jw 19 hS ?_;refine jw 20 hS ?_;refine jw 21 hS ?_;refine jw 24 hS ?_;refine jw 25 hS ?_;refine jw 26 hS ?_;refine Ed (aw9 v E w) ?_ ?_ ?_ _ _ _ _ ?_ (of_decide_eq_true (by kernel_rfl))
 ·rintro listed a w' ⟨l0,l3,l7,oO,oP,oQ,oR,l4,l8,ir,iu,iw,iy,CI,Fc,x2,x5,x8,gA,gB,gC,gD,gE,JD,-,-,hK,-,-⟩;exact⟨hK.box.cell 0,hK.box.cell 1,hK.box.cell 2,hK.box.cell 3,hK.box.cell 4,hK.box.cell 5⟩
 ·intro listed a w' i h hi;obtain⟨l0,l3,l7,oO,oP,oQ,oR,l4,l8,ir,iu,iw,iy,CI,Fc,x2,x5,x8,gA,gB,gC,gD,gE,JD,rfl,rfl,hK,JE,Kd⟩:=h;obtain⟨hu,op,ho,hd⟩:=mem_ready.1 hi;have aE6:i<31:=(Array.getElem?_eq_some_iff.1 ho).1;rcases(by omega:i=0\/i=1\/i=2\/i=3\/i=4\/i=5\/i=6\/i=7\/i=8\/i=9\/i=10\/i=11\/i=12\/i=13\/i=14\/i=15\/i=16\/i=17\/i=18\/i=19\/i=20\/i=21\/i=22\/i=23\/i=24\/i=25\/i=26\/i=27\/i=28\/i=29\/i=30)with rfl|rfl|rfl|rfl|rfl|rfl|rfl|rfl|rfl|rfl|rfl|rfl|rfl|rfl|rfl|rfl|rfl|rfl|rfl|rfl|rfl|rfl|rfl|rfl|rfl|rfl|rfl|rfl|rfl|rfl|rfl
  ·obtain rfl:l0=false:=by simpa using hu
   have QU:=@run_makeMap prog;refine wpOp_step rfl (fun K_ jl=>?_);have bP:=bD jl;clear jl;go_simp;refine bP.out _ _ ⟨true,l3,l7,oO,oP,oQ,oR,l4,l8,ir,iu,iw,iy,CI,Fc,x2,_,x8,gA,gB,gC,gD,gE,JD,by kernel_rfl,by rfl,hK.made,?_,?_⟩
   ·intro e;have:=JE e;simp at this
   ·intro e;have:=JE (Kd e).1;simp at this
  ·exact aX hu (by simp)
  ·exact aX hu (by simp)
  ·obtain rfl:l3=false:=by simpa using hu
   refine wpOp_step rfl (fun K_ jl=>?_);have bP:=bD jl;clear jl;go_simp;refine(DK v.e0 w').mono ?_;rintro e w2 ⟨g,rfl,uv,_,hb⟩;refine bP.out _ _ ⟨l0,true,l7,oO,oP,oQ,oR,l4,l8,ir,iu,iw,iy,CI,Fc,x2,x5,_,gA,gB,gC,gD,gE,JD,by kernel_rfl,by rfl,hK.am8 hb ⟨g,rfl,uv⟩,JE,Kd⟩
  ·obtain rfl:l4=false:=by simpa using hu
   have q0:l0=true:=gU (o:=_) rfl hi (e:=⟨0,Ground.data⟩) (by simp) rfl;have q1:l3=true:=gU (o:=_) rfl hi (e:=⟨3,Ground.data⟩) (by simp) rfl;subst q0;obtain⟨b,n,f,rfl,h2,h3,h4,h5⟩:=hK.map rfl;refine wpOp_step rfl (fun K_ jl=>?_);have bP:=bD jl;clear jl;rw[ae (by rfl)];refine wp_mapIns h2 (by unfold maxLen;simp only[Bool.toNat_false]at h3;have:=aZ l8;have:=aZ ir;have:=aZ iu;have:=aZ iw;have:=aZ iy;omega) underlying219 _ _ _ rfl rfl _ rfl (by simp[maxLen]) _ rfl ?_;intro W' hm hg;refine bP.out _ _ ⟨true,l3,l7,oO,oP,oQ,oR,true,l8,ir,iu,iw,iy,CI,Fc,x2,_,x8,gA,gB,gC,gD,gE,JD,by kernel_rfl,by rfl,hK.aw3 q1 rfl h2 h3 h4 h5 hm hg,JE,Kd⟩
  ·exact aX hu (by simp)
  ·exact aX hu (by simp)
  ·obtain rfl:l7=false:=by simpa using hu
   refine wpOp_step rfl (fun K_ jl=>?_);have bP:=bD jl;clear jl;go_simp;refine(DK v.e1 w').mono ?_;rintro e w2 ⟨g,rfl,uv,_,hb⟩;refine bP.out _ _ ⟨l0,l3,true,oO,oP,oQ,oR,l4,l8,ir,iu,iw,iy,CI,Fc,x2,x5,x8,_,gB,gC,gD,gE,JD,by kernel_rfl,by rfl,hK.am9 hb ⟨g,rfl,uv⟩,JE,Kd⟩
  ·obtain rfl:l8=false:=by simpa using hu
   have q0:l0=true:=gU (o:=_) rfl hi (e:=⟨0,Ground.data⟩) (by simp) rfl;have q1:l7=true:=gU (o:=_) rfl hi (e:=⟨7,Ground.data⟩) (by simp) rfl;subst q0;obtain⟨b,n,f,rfl,h2,h3,h4,h5⟩:=hK.map rfl;refine wpOp_step rfl (fun K_ jl=>?_);have bP:=bD jl;clear jl;rw[ae (by rfl)];refine wp_mapIns h2 (by unfold maxLen;simp only[Bool.toNat_false]at h3;have:=aZ ir;have:=aZ iu;have:=aZ iw;have:=aZ iy;have:=aZ l4;omega) underlying219 _ _ _ rfl rfl _ rfl (by simp[maxLen]) _ rfl ?_;intro W' hm hg;refine bP.out _ _ ⟨true,l3,l7,oO,oP,oQ,oR,l4,true,ir,iu,iw,iy,CI,Fc,x2,_,x8,gA,gB,gC,gD,gE,JD,by kernel_rfl,by rfl,hK.aw4 q1 rfl h2 h3 h4 h5 hm hg,JE,Kd⟩
  ·exact aX hu (by simp)
  ·exact aX hu (by simp)
  ·exact aX hu (by simp)
  ·obtain rfl:oO=false:=by simpa using hu
   refine wpOp_step rfl (fun K_ jl=>?_);have bP:=bD jl;clear jl;go_simp;refine(Rr v.e2 E w').mono ?_;rintro e w2 ⟨g,rfl,uv,nC,_,hb⟩;refine bP.out _ _ ⟨l0,l3,l7,true,oP,oQ,oR,l4,l8,ir,iu,iw,iy,CI,Fc,x2,x5,x8,gA,_,gC,gD,gE,JD,by kernel_rfl,by rfl,hK.call2 hb ⟨g,rfl,uv,nC⟩,JE,Kd⟩
  ·obtain rfl:ir=false:=by simpa using hu
   have q0:l0=true:=gU (o:=_) rfl hi (e:=⟨0,Ground.data⟩) (by simp) rfl;have q1:oO=true:=gU (o:=_) rfl hi (e:=⟨12,Ground.data⟩) (by simp) rfl;subst q0;obtain⟨b,n,f,rfl,h2,h3,h4,h5⟩:=hK.map rfl;refine wpOp_step rfl (fun K_ jl=>?_);have bP:=bD jl;clear jl;rw[ae (by rfl)];refine wp_mapIns h2 (by unfold maxLen;simp only[Bool.toNat_false]at h3;have:=aZ iu;have:=aZ iw;have:=aZ iy;have:=aZ l4;have:=aZ l8;omega) underlying219 _ _ _ rfl rfl _ rfl (by simp[maxLen]) _ rfl ?_;intro W' hm hg;refine bP.out _ _ ⟨true,l3,l7,oO,oP,oQ,oR,l4,l8,true,iu,iw,iy,CI,Fc,x2,_,x8,gA,gB,gC,gD,gE,JD,by kernel_rfl,by rfl,hK.aw5 q1 rfl h2 h3 h4 h5 hm hg,JE,Kd⟩
  ·exact aX hu (by simp)
  ·exact aX hu (by simp)
  ·exact aX hu (by simp)
  ·obtain rfl:oP=false:=by simpa using hu
   refine wpOp_step rfl (fun K_ jl=>?_);have bP:=bD jl;clear jl;go_simp;refine(Rt v.e3 E w').mono ?_;rintro e w2 ⟨g,rfl,uv,nC,_,hb⟩;refine bP.out _ _ ⟨l0,l3,l7,oO,true,oQ,oR,l4,l8,ir,iu,iw,iy,CI,Fc,x2,x5,x8,gA,gB,_,gD,gE,JD,by kernel_rfl,by rfl,hK.call3 hb ⟨g,rfl,uv,nC⟩,JE,Kd⟩
  ·obtain rfl:iu=false:=by simpa using hu
   have q0:l0=true:=gU (o:=_) rfl hi (e:=⟨0,Ground.data⟩) (by simp) rfl;have q1:oP=true:=gU (o:=_) rfl hi (e:=⟨17,Ground.data⟩) (by simp) rfl;subst q0;obtain⟨b,n,f,rfl,h2,h3,h4,h5⟩:=hK.map rfl;refine wpOp_step rfl (fun K_ jl=>?_);have bP:=bD jl;clear jl;rw[ae (by rfl)];refine wp_mapIns h2 (by unfold maxLen;simp only[Bool.toNat_false]at h3;have:=aZ iw;have:=aZ iy;have:=aZ l4;have:=aZ l8;have:=aZ ir;omega) underlying219 _ _ _ rfl rfl _ rfl (by simp[maxLen]) _ rfl ?_;intro W' hm hg;refine bP.out _ _ ⟨true,l3,l7,oO,oP,oQ,oR,l4,l8,ir,true,iw,iy,CI,Fc,x2,_,x8,gA,gB,gC,gD,gE,JD,by kernel_rfl,by rfl,hK.aw6 q1 rfl h2 h3 h4 h5 hm hg,JE,Kd⟩
  ·exact aX hu (by simp)
  ·exact aX hu (by simp)
  ·exact aX hu (by simp)
  ·obtain rfl:oQ=false:=by simpa using hu
   refine wpOp_step rfl (fun K_ jl=>?_);have bP:=bD jl;clear jl;go_simp;refine(Ru v.e5 E w').mono ?_;rintro e w2 ⟨g,rfl,uv,nC,_,hb⟩;refine bP.out _ _ ⟨l0,l3,l7,oO,oP,true,oR,l4,l8,ir,iu,iw,iy,CI,Fc,x2,x5,x8,gA,gB,gC,_,gE,JD,by kernel_rfl,by rfl,hK.call4 hb ⟨g,rfl,uv,nC⟩,JE,Kd⟩
  ·obtain rfl:iw=false:=by simpa using hu
   have q0:l0=true:=gU (o:=_) rfl hi (e:=⟨0,Ground.data⟩) (by simp) rfl;have q1:oQ=true:=gU (o:=_) rfl hi (e:=⟨22,Ground.data⟩) (by simp) rfl;subst q0;obtain⟨b,n,f,rfl,h2,h3,h4,h5⟩:=hK.map rfl;refine wpOp_step rfl (fun K_ jl=>?_);have bP:=bD jl;clear jl;rw[ae (by rfl)];refine wp_mapIns h2 (by unfold maxLen;simp only[Bool.toNat_false]at h3;have:=aZ iy;have:=aZ l4;have:=aZ l8;have:=aZ ir;have:=aZ iu;omega) underlying219 _ _ _ rfl rfl _ rfl (by simp[maxLen]) _ rfl ?_;intro W' hm hg;refine bP.out _ _ ⟨true,l3,l7,oO,oP,oQ,oR,l4,l8,ir,iu,true,iy,CI,Fc,x2,_,x8,gA,gB,gC,gD,gE,JD,by kernel_rfl,by rfl,hK.aw7 q1 rfl h2 h3 h4 h5 hm hg,JE,Kd⟩
  ·exact aX hu (by simp)
  ·exact aX hu (by simp)
  ·exact aX hu (by simp)
  ·obtain rfl:oR=false:=by simpa using hu
   refine wpOp_step rfl (fun K_ jl=>?_);have bP:=bD jl;clear jl;go_simp;refine(Rv v.e4 E w').mono ?_;rintro e w2 ⟨g,rfl,uv,nC,_,hb⟩;refine bP.out _ _ ⟨l0,l3,l7,oO,oP,oQ,true,l4,l8,ir,iu,iw,iy,CI,Fc,x2,x5,x8,gA,gB,gC,gD,_,JD,by kernel_rfl,by rfl,hK.call5 hb ⟨g,rfl,uv,nC⟩,JE,Kd⟩
  ·obtain rfl:iy=false:=by simpa using hu
   have q0:l0=true:=gU (o:=_) rfl hi (e:=⟨0,Ground.data⟩) (by simp) rfl;have q1:oR=true:=gU (o:=_) rfl hi (e:=⟨27,Ground.data⟩) (by simp) rfl;subst q0;obtain⟨b,n,f,rfl,h2,h3,h4,h5⟩:=hK.map rfl;refine wpOp_step rfl (fun K_ jl=>?_);have bP:=bD jl;clear jl;rw[ae (by rfl)];refine wp_mapIns h2 (by unfold maxLen;simp only[Bool.toNat_false]at h3;have:=aZ l4;have:=aZ l8;have:=aZ ir;have:=aZ iu;have:=aZ iw;omega) underlying219 _ _ _ rfl rfl _ rfl (by simp[maxLen]) _ rfl ?_;intro W' hm hg;refine bP.out _ _ ⟨true,l3,l7,oO,oP,oQ,oR,l4,l8,ir,iu,iw,true,CI,Fc,x2,_,x8,gA,gB,gC,gD,gE,JD,by kernel_rfl,by rfl,hK.aw8 q1 rfl h2 h3 h4 h5 hm hg,JE,Kd⟩
  ·obtain rfl:CI=false:=by simpa using hu
   have q0:l0=true:=gU (o:=_) rfl hi (e:=⟨0,Ground.data⟩) (by simp) rfl;refine wpOp_step rfl (fun K_ jl=>?_);have bP:=bD jl;clear jl;go_simp;refine bP.out _ _ ⟨l0,l3,l7,oO,oP,oQ,oR,l4,l8,ir,iu,iw,iy,true,Fc,x2,x5,x8,gA,gB,gC,gD,gE,x5,by kernel_rfl,by rfl,hK,fun _=>⟨q0,rfl⟩,fun e=>by have:=(Kd e).1;simp at this⟩
  ·obtain rfl:Fc=false:=by simpa using hu
   have q0:CI=true:=gU (o:=_) rfl hi (e:=⟨29,Ground.data⟩) (by simp) rfl;obtain⟨q00,h28⟩:=JE q0;subst h28;clear JE Kd;refine wpOp_step rfl (fun K_ jl=>?_);have bP:=bD jl;clear jl;go_simp;refine bP.out _ _ ⟨l0,l3,l7,oO,oP,oQ,oR,l4,l8,ir,iu,iw,iy,CI,true,_,_,x8,gA,gB,gC,gD,gE,_,by kernel_rfl,by rfl,hK,fun _=>⟨q00,rfl⟩,fun _=>⟨q0,rfl⟩⟩
 ·intro listed a w' h hr;have kF:=fun i (hi:i<31)=>Ee (ops:=_) (by
   intro i o ho e he;exact UZ (by kernel_rfl) ho he) (by obtain⟨l0,l3,l7,oO,oP,oQ,oR,l4,l8,ir,iu,iw,iy,CI,Fc,x2,x5,x8,gA,gB,gC,gD,gE,JD,rfl,-⟩:=h;rfl) hr (i+1) i (Nat.lt_succ_self i) hi
  obtain⟨l0,l3,l7,oO,oP,oQ,oR,l4,l8,ir,iu,iw,iy,CI,Fc,x2,x5,x8,gA,gB,gC,gD,gE,JD,rfl,rfl,hK,JE,Kd⟩:=h;obtain rfl:l0=true:=kF 0 (by omega);obtain rfl:l3=true:=kF 3 (by omega);obtain rfl:l7=true:=kF 7 (by omega);obtain rfl:oO=true:=kF 12 (by omega);obtain rfl:oP=true:=kF 17 (by omega);obtain rfl:oQ=true:=kF 22 (by omega);obtain rfl:oR=true:=kF 27 (by omega);obtain rfl:l4=true:=kF 4 (by omega);obtain rfl:l8=true:=kF 8 (by omega);obtain rfl:ir=true:=kF 13 (by omega);obtain rfl:iu=true:=kF 18 (by omega);obtain rfl:iw=true:=kF 23 (by omega);obtain rfl:iy=true:=kF 28 (by omega);obtain rfl:CI=true:=kF 29 (by omega);obtain rfl:Fc=true:=kF 30 (by omega);obtain⟨-,h28⟩:=JE rfl;obtain⟨-,h2⟩:=Kd rfl;subst h28 h2;clear JE Kd kF hr;have HK:=bD hK;clear hK hS HE HB Y5;go_wp2_with fail;go_ret;exact⟨E,_,x8,gA,gB,gC,gD,gE,rfl,HK.o⟩
 ·refine⟨false,false,false,false,false,false,false,false,false,false,false,false,false,false,false,.map none,undef,undef,undef,undef,undef,undef,undef,undef,by kernel_rfl,by kernel_rfl,⟨by rw[Y5.o];exact HB.o.drew,HE.o,fun e=>(by cases e),fun e=>(by cases e),fun e=>(by cases e),fun e=>(by cases e),fun e=>(by cases e),fun e=>(by cases e),fun e=>(by cases e),fun e=>(by cases e),fun e=>(by cases e),fun e=>(by cases e),fun e=>(by cases e),fun e=>(by cases e),fun e=>(by cases e),fun _=>⟨rfl,rfl,rfl,rfl,rfl,rfl⟩⟩,fun e=>(by cases e),fun e=>(by cases e)⟩
def cK.VZ(v:cK):Prop:=v.e0.length<=9999/\v.e1.length<=9999/\v.e2.length<=9999/\v.e3.length<=9999/\v.e4.length<=9999/\v.e5.length<=9999
def tO(v:cK):nK:=fun nm key=>if nm=rU then rM v.e0 key else if nm=rV then rM v.e1 key else if nm=rW then vQ v.e2 key (kW (rj v.e2 key))else if nm=rX then vQ v.e3 key (oG key (nj v.e3))else if nm=rY then vQ v.e5 key (oG key (sX v.e5))else if nm=rZ then vQ v.e4 key (BL v.e4 key)else([],false)
theorem vf(v:cK)(hv:v.VZ):qE v (tO v):=by
 intro nm key hnl ln W hg;have HV:Hy (tO v nm key=if nm=rU then rM v.e0 key else if nm=rV then rM v.e1 key else if nm=rW then vQ v.e2 key (kW (rj v.e2 key))else if nm=rX then vQ v.e3 key (oG key (nj v.e3))else if nm=rY then vQ v.e5 key (oG key (sX v.e5))else if nm=rZ then vQ v.e4 key (BL v.e4 key)else([],false)):=rfl;have Y6:nm.length<=maxLen:=by unfold maxLen;omega
 have HNM:=bD Y6;have XA:=bD hv;have HG:=bD hg;have LD:=bD ln;have HB:=bD (cU W (.cells (s8 v) 23));have HE:=bD (bL.new W 23 (s8 v));have HK:=bD (fun w=>L8 v w);have hz:∀w,(zeroValue 217).run prog w=.ok .nilFunc w:=fun w=>by kernel_rfl
 generalize tO v nm key=R at*;simp only[cK.val]at HK|-;clear hnl ln hg hv Y6;go_enter func149,ntmps149;go_upto_region 1 with(fail)
 change Code.wp _ _ _ _ (W.alloc (.cells (s8 v) 23));generalize W.alloc (.cells (s8 v) 23)=w1 at*;generalize wE:W.heap.size=E0 at*;have XB:=bD wE;clear wE;obtain⟨s0,s1,s2,s3,s4,s5⟩:=nB HE.o;simp[s8]at s0 s1 s2 s3 s4 s5;have HZ:=bD hz;clear hz;go_wp2_with fail;refine(HK.o _).mono ?_;rintro e w2 ⟨E,x5,x8,gA,gB,gC,gD,gE,rfl,hF⟩;have Nj:=bD hF;obtain⟨b,n,f,rfl,hM,-,-,hf⟩:=hF.map rfl;have hl:=hM.look underlying219 (HZ.o w2) (s:=nm) HNM.o true;rw[hf nm]at hl;have nQ:Hy (eK w2):=HG.o.below ((by have h:=HB.o;rw[<-XB.o]at h;exact h.trans (hF.below.mono h.size)));have dm:Hy (Below W.heap.size W w2):=by have h:=HB.o;rw[<-XB.o]at h;exact h.trans (hF.below.mono h.size)
 clear hM hf hF HB HE HK s0 s1 s2 s3 s4 s5;by_cases k0:nm=rU
 ·have HR:Hy (R=rM v.e0 key):=by
   rw[Hy,HV.o,ae k0]
  have EZ:fl true true true true true true x8 gA gB gC gD gE nm=some x8:=by
   unfold fl;rw[ae k0];rfl
  rw[EZ]at hl;simp only[Option.getD_some,Option.isSome_some,if_true]at hl;obtain⟨g,rfl,hc⟩:=Nj.o.c0 rfl;have HC:=bD (BC v.e0 key g w2 hc);rw[<-HR.o]at HC;obtain⟨r1,r2⟩:=R;simp only[gL]at HC;clear HV k0 EZ hc HR;go_wp2_with fail;refine HC.o.mono ?_;rintro e w3 ⟨rfl,rfl⟩;go_wp2_with fail;go_ret2;exact⟨rfl,by first|exact dm.o|(rw[<-XB.o];exact dm.o)⟩
 by_cases k1:nm=rV
 ·have HR:Hy (R=rM v.e1 key):=by
   rw[Hy,HV.o,aa k0,ae k1]
  have EZ:fl true true true true true true x8 gA gB gC gD gE nm=some gA:=by
   unfold fl;rw[aa k0,ae k1];rfl
  rw[EZ]at hl;simp only[Option.getD_some,Option.isSome_some,if_true]at hl;obtain⟨g,rfl,hc⟩:=Nj.o.c1 rfl;have HC:=bD (BC v.e1 key g w2 hc);rw[<-HR.o]at HC;obtain⟨r1,r2⟩:=R;simp only[gL]at HC;clear HV k1 EZ hc HR k0;go_wp2_with fail;refine HC.o.mono ?_;rintro e w3 ⟨rfl,rfl⟩;go_wp2_with fail;go_ret2;exact⟨rfl,by first|exact dm.o|(rw[<-XB.o];exact dm.o)⟩
 by_cases k2:nm=rW
 ·have HR:Hy (R=vQ v.e2 key (kW (rj v.e2 key))):=by
   rw[Hy,HV.o,aa k0,aa k1,ae k2]
  have EZ:fl true true true true true true x8 gA gB gC gD gE nm=some gB:=by
   unfold fl;rw[aa k0,aa k1,ae k2];rfl
  rw[EZ]at hl;simp only[Option.getD_some,Option.isSome_some,if_true]at hl;obtain⟨g,rfl,hc,nC⟩:=Nj.o.c2 rfl;have HC:=bD (Ox v.e2 key (kW (rj v.e2 key)) g (g+1) E w2 hc nC (fun _=>Jz v (by have:=XA.o;unfold cK.VZ at this;omega) key LD.o E w2 Nj.o.box nQ.o));rw[<-HR.o]at HC;obtain⟨r1,r2⟩:=R;simp only[gL]at HC;clear HV k2 EZ hc nC HR k0 k1;go_wp2_with fail;refine HC.o.mono ?_;rintro e w3 ⟨rfl,fm⟩;have gI:=bD (dm.o.trans (fm.mono dm.o.size));clear fm;go_wp2_with fail;go_ret2;exact⟨rfl,by first|exact gI.o|(rw[<-XB.o];exact gI.o)⟩
 by_cases k3:nm=rX
 ·have HR:Hy (R=vQ v.e3 key (oG key (nj v.e3))):=by
   rw[Hy,HV.o,aa k0,aa k1,aa k2,ae k3]
  have EZ:fl true true true true true true x8 gA gB gC gD gE nm=some gC:=by
   unfold fl;rw[aa k0,aa k1,aa k2,ae k3];rfl
  rw[EZ]at hl;simp only[Option.getD_some,Option.isSome_some,if_true]at hl;obtain⟨g,rfl,hc,nC⟩:=Nj.o.c3 rfl;have HC:=bD (Oy v.e3 key (oG key (nj v.e3)) g (g+1) E w2 hc nC (fun _=>JA v (by have:=XA.o;unfold cK.VZ at this;omega) key E w2 Nj.o.box nQ.o));rw[<-HR.o]at HC;obtain⟨r1,r2⟩:=R;simp only[gL]at HC;clear HV k3 EZ hc nC HR k0 k1 k2;go_wp2_with fail;refine HC.o.mono ?_;rintro e w3 ⟨rfl,fm⟩;have gI:=bD (dm.o.trans (fm.mono dm.o.size));clear fm;go_wp2_with fail;go_ret2;exact⟨rfl,by first|exact gI.o|(rw[<-XB.o];exact gI.o)⟩
 by_cases k4:nm=rY
 ·have HR:Hy (R=vQ v.e5 key (oG key (sX v.e5))):=by
   rw[Hy,HV.o,aa k0,aa k1,aa k2,aa k3,ae k4]
  have EZ:fl true true true true true true x8 gA gB gC gD gE nm=some gD:=by
   unfold fl;rw[aa k0,aa k1,aa k2,aa k3,ae k4];rfl
  rw[EZ]at hl;simp only[Option.getD_some,Option.isSome_some,if_true]at hl;obtain⟨g,rfl,hc,nC⟩:=Nj.o.c4 rfl;have HC:=bD (Oz v.e5 key (oG key (sX v.e5)) g (g+1) E w2 hc nC (fun _=>JB v (by have:=XA.o;unfold cK.VZ at this;omega) key E w2 Nj.o.box nQ.o));rw[<-HR.o]at HC;obtain⟨r1,r2⟩:=R;simp only[gL]at HC;clear HV k4 EZ hc nC HR k0 k1 k2 k3;go_wp2_with fail;refine HC.o.mono ?_;rintro e w3 ⟨rfl,fm⟩;have gI:=bD (dm.o.trans (fm.mono dm.o.size));clear fm;go_wp2_with fail;go_ret2;exact⟨rfl,by first|exact gI.o|(rw[<-XB.o];exact gI.o)⟩
 by_cases k5:nm=rZ
 ·have HR:Hy (R=vQ v.e4 key (BL v.e4 key)):=by
   rw[Hy,HV.o,aa k0,aa k1,aa k2,aa k3,aa k4,ae k5]
  have EZ:fl true true true true true true x8 gA gB gC gD gE nm=some gE:=by
   unfold fl;rw[aa k0,aa k1,aa k2,aa k3,aa k4,ae k5];rfl
  rw[EZ]at hl;simp only[Option.getD_some,Option.isSome_some,if_true]at hl;obtain⟨g,rfl,hc,nC⟩:=Nj.o.c5 rfl;have HC:=bD (OA v.e4 key (BL v.e4 key) g (g+1) E w2 hc nC (fun _=>JC v (by have:=XA.o;unfold cK.VZ at this;omega) key LD.o E w2 Nj.o.box nQ.o));rw[<-HR.o]at HC;obtain⟨r1,r2⟩:=R;simp only[gL]at HC;clear HV k5 EZ hc nC HR k0 k1 k2 k3 k4;go_wp2_with fail;refine HC.o.mono ?_;rintro e w3 ⟨rfl,fm⟩;have gI:=bD (dm.o.trans (fm.mono dm.o.size));clear fm;go_wp2_with fail;go_ret2;exact⟨rfl,by first|exact gI.o|(rw[<-XB.o];exact gI.o)⟩
 have HR:Hy (R=([],false)):=by
  rw[Hy,HV.o,aa k0,aa k1,aa k2,aa k3,aa k4,aa k5]
 have EZ:fl true true true true true true x8 gA gB gC gD gE nm=none:=by
  unfold fl;rw[aa k0,aa k1,aa k2,aa k3,aa k4,aa k5]
 rw[EZ]at hl;simp only[Option.getD_none,Option.isSome_none,if_true]at hl;clear HV EZ k0 k1 k2 k3 k4 k5;go_wp2_with fail;go_ret2;exact⟨by rw[HR.o];rfl,by first|exact dm.o|(rw[<-XB.o];exact dm.o)⟩
end Go.Proofs.YtejafaaihodehaaGreatDoor
