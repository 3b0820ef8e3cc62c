/- Words for memory, for all proofs of this family: a string as a list of bytes; a Go value that is read out of memory as plain data (GV, GR); a slice of the call's own (OwnR). No program is named here. -/
import Derived.WalkKit
import Derived.Lib.Hide
import Derived.Maps.AppendAt
import Derived.Deep.AppendLies
import Derived.Deep.Draws
import Derived.Laws.OwnMore
import Derived.Laws.StructEq
set_option linter.unusedVariables false
set_option linter.unusedSimpArgs false
namespace Go.Proofs.YtijpfcjlochahaaGreatDoor
open Go Go.RowKit

/-! ### Strings as lists of bytes -/
def bs (l : List UInt8) : ByteArray := ⟨l.toArray⟩
def L (s : ByteArray) : List UInt8 := s.data.toList
@[simp] theorem L_bs (l : List UInt8) : L (bs l) = l := by simp [L, bs]
@[simp] theorem bs_L (s : ByteArray) : bs (L s) = s := by simp [L, bs]
theorem size_bs (l : List UInt8) : (bs l).size = l.length := by show l.toArray.size = _; simp
theorem size_L (s : ByteArray) : s.size = (L s).length := by show s.data.size = s.data.toList.length; simp
theorem L_ext {a b : ByteArray} (h : L a = L b) : a = b := by rw [← bs_L a, ← bs_L b, h]
theorem L_eq_iff {a b : ByteArray} : a = b ↔ L a = L b := ⟨fun h => by rw [h], L_ext⟩
theorem bs_inj {a b : List UInt8} : bs a = bs b ↔ a = b := ⟨fun h => by have := congrArg L h; simpa using this, fun h => by rw [h]⟩
theorem L_append (a b : ByteArray) : L (a ++ b) = L a ++ L b := by
  unfold L; rw [ByteArray.data_append, Array.toList_append]
theorem bs_append (a b : List UInt8) : bs a ++ bs b = bs (a ++ b) := L_ext (by simp [L_append])
theorem L_extract (s : ByteArray) (i j : Nat) : L (s.extract i j) = ((L s).take j).drop i := by
  unfold L; rw [ByteArray.data_extract, Array.toList_extract, List.extract_eq_take_drop, List.drop_take]
theorem extract_bs (l : List UInt8) (i j : Nat) : (bs l).extract i j = bs ((l.take j).drop i) := L_ext (by simp [L_extract])
theorem beq_L (a b : ByteArray) : (a == b) = (L a == L b) := by
  rw [beq_toListBytes, ByteArray.toList_eq, ByteArray.toList_eq]; rfl
theorem toList_L (a : ByteArray) : a.toList = L a := ByteArray.toList_eq a
theorem toList_bs (l : List UInt8) : (bs l).toList = l := by rw [toList_L, L_bs]
theorem getElem_L (s : ByteArray) (i : Nat) (h : i < s.size) : s[i] = (L s)[i]'(by rw [← size_L]; exact h) := rfl
theorem getElem_bs (l : List UInt8) (i : Nat) (h : i < (bs l).size) : (bs l)[i] = l[i]'(by rw [← size_bs]; exact h) := by
  rw [getElem_L]; simp


theorem u8_beq (c d : UInt8) : (c == d) = ((c.toNat : Int) == (d.toNat : Int)) := by
  rw [Bool.eq_iff_iff, beq_iff_eq, beq_iff_eq, ← UInt8.toNat_inj]; omega
theorem u8_bne (c d : UInt8) : (c != d) = ((c.toNat : Int) != (d.toNat : Int)) := by
  rw [bne, bne, u8_beq]
theorem u8_le (c d : UInt8) : decide (c ≤ d) = decide ((c.toNat : Int) ≤ (d.toNat : Int)) := by
  rw [Bool.eq_iff_iff, decide_eq_true_eq, decide_eq_true_eq, UInt8.le_iff_toNat_le]; omega
theorem u8_eq (c d : UInt8) : c = d ↔ (c.toNat : Int) = (d.toNat : Int) := by rw [← UInt8.toNat_inj]; omega
theorem ret_eq {a b : Value} (h : a = b) : Ending.returned a = .returned b := by rw [h]
theorem ret_bool {a b : Bool} (h : a = b) : Ending.returned (.bool a) = .returned (.bool b) := by rw [h]

/-! ### A Go value read as plain data -/
inductive GV where
  | int (n : Int)
  | str (s : List UInt8)
  | bool (b : Bool)
  | agg (fs : List GV)
  | row (sz : Nat) (l : List GV)

/-- The cells xs lie at A, one behind the other, in a block that F lets. -/
def Cells (w : World) (F : Nat → Prop) (A : Option Addr) (xs : List Value) : Prop :=
  xs ≠ [] → ∃ b o, A = some ⟨b, o, none⟩ ∧ F b ∧ ∀ j u, xs[j]? = some u → w.cell? ⟨b, o + j, none⟩ = some u

mutual
/-- The cells cs are the value x, as far as memory w tells; all blocks that are gone through are such as F lets. -/
def GR (w : World) (F : Nat → Prop) : GV → List Value → Prop
  | .int n, cs => cs = [.int .i64 n]
  | .str s, cs => cs = [.string (bs s)]
  | .bool b, cs => cs = [.bool b]
  | .agg fs, cs => GRa w F fs cs
  | .row sz l, cs => ∃ A c xs, cs = [.slice A l.length c] ∧ l.length ≤ c ∧ c ≤ maxLen ∧ xs.length = l.length * sz ∧ Cells w F A xs ∧ GRl w F sz l xs
def GRa (w : World) (F : Nat → Prop) : List GV → List Value → Prop
  | [], cs => cs = []
  | x :: l, cs => ∃ a b, cs = a ++ b ∧ GR w F x a ∧ GRa w F l b
def GRl (w : World) (F : Nat → Prop) (sz : Nat) : List GV → List Value → Prop
  | [], cs => cs = []
  | x :: l, cs => ∃ a b, cs = a ++ b ∧ a.length = sz ∧ GR w F x a ∧ GRl w F sz l b
end

theorem GR_int {w : World} {F : Nat → Prop} {n : Int} {cs : List Value} : GR w F (.int n) cs ↔ cs = [.int .i64 n] := by simp only [GR]
theorem GR_str {w : World} {F : Nat → Prop} {s : List UInt8} {cs : List Value} : GR w F (.str s) cs ↔ cs = [.string (bs s)] := by simp only [GR]
theorem GR_bool {w : World} {F : Nat → Prop} {b : Bool} {cs : List Value} : GR w F (.bool b) cs ↔ cs = [.bool b] := by simp only [GR]
theorem GR_agg {w : World} {F : Nat → Prop} {l : List GV} {cs : List Value} : GR w F (.agg l) cs ↔ GRa w F l cs := by simp only [GR]
theorem GR_row {w : World} {F : Nat → Prop} {sz : Nat} {l : List GV} {cs : List Value} : GR w F (.row sz l) cs ↔
    ∃ A c xs, cs = [.slice A l.length c] ∧ l.length ≤ c ∧ c ≤ maxLen ∧ xs.length = l.length * sz ∧ Cells w F A xs ∧ GRl w F sz l xs := by simp only [GR]
theorem GRa_nil {w : World} {F : Nat → Prop} {cs : List Value} : GRa w F [] cs ↔ cs = [] := by simp only [GRa]
theorem GRa_cons {w : World} {F : Nat → Prop} {x : GV} {l : List GV} {cs : List Value} : GRa w F (x :: l) cs ↔ ∃ a b, cs = a ++ b ∧ GR w F x a ∧ GRa w F l b := by simp only [GRa]
theorem GRl_nil {w : World} {F : Nat → Prop} {sz : Nat} {cs : List Value} : GRl w F sz [] cs ↔ cs = [] := by simp only [GRl]
theorem GRl_cons {w : World} {F : Nat → Prop} {sz : Nat} {x : GV} {l : List GV} {cs : List Value} : GRl w F sz (x :: l) cs ↔ ∃ a b, cs = a ++ b ∧ a.length = sz ∧ GR w F x a ∧ GRl w F sz l b := by simp only [GRl]

theorem Cells.mono {w w' : World} {F F' : Nat → Prop} {A : Option Addr} {xs : List Value} (h : Cells w F A xs) (hF : ∀ k, F k → F' k)
    (hw : ∀ k, F k → k < w.heap.size → w'.heap[k]? = w.heap[k]?) : Cells w' F' A xs := by
  intro hne
  obtain ⟨b, o, ha, hb, hc⟩ := h hne
  refine ⟨b, o, ha, hF b hb, fun j u hu => ?_⟩
  have hlt : b < w.heap.size := by
    have := hc j u hu
    exact World.block_lt_of_cell? w _ this
  rw [World.cell?_of_block (w := w) (a := ⟨b, o + j, none⟩) (hw b hb hlt)]
  exact hc j u hu

mutual
theorem GR.mono {w w' : World} {F F' : Nat → Prop} (hF : ∀ k, F k → F' k) (hw : ∀ k, F k → k < w.heap.size → w'.heap[k]? = w.heap[k]?) : ∀ (x : GV) (cs : List Value), GR w F x cs → GR w' F' x cs
  | .int _, _, h => by simpa only [GR] using h
  | .str _, _, h => by simpa only [GR] using h
  | .bool _, _, h => by simpa only [GR] using h
  | .agg fs, cs, h => by
    simp only [GR] at h ⊢
    exact GRa.mono hF hw fs cs h
  | .row sz l, cs, h => by
    simp only [GR] at h ⊢
    obtain ⟨A, c, xs, h1, h2, h3, h4, h5, h6⟩ := h
    exact ⟨A, c, xs, h1, h2, h3, h4, h5.mono hF hw, GRl.mono hF hw sz l xs h6⟩
theorem GRa.mono {w w' : World} {F F' : Nat → Prop} (hF : ∀ k, F k → F' k) (hw : ∀ k, F k → k < w.heap.size → w'.heap[k]? = w.heap[k]?) : ∀ (l : List GV) (cs : List Value), GRa w F l cs → GRa w' F' l cs
  | [], _, h => by simpa only [GRa] using h
  | x :: l, cs, h => by
    simp only [GRa] at h ⊢
    obtain ⟨a, b, h1, h2, h3⟩ := h
    exact ⟨a, b, h1, GR.mono hF hw x a h2, GRa.mono hF hw l b h3⟩
theorem GRl.mono {w w' : World} {F F' : Nat → Prop} (hF : ∀ k, F k → F' k) (hw : ∀ k, F k → k < w.heap.size → w'.heap[k]? = w.heap[k]?) (sz : Nat) : ∀ (l : List GV) (cs : List Value), GRl w F sz l cs → GRl w' F' sz l cs
  | [], _, h => by simpa only [GRl] using h
  | x :: l, cs, h => by
    simp only [GRl] at h ⊢
    obtain ⟨a, b, h1, h0, h2, h3⟩ := h
    exact ⟨a, b, h1, h0, GR.mono hF hw x a h2, GRl.mono hF hw sz l b h3⟩
end

mutual
theorem GR.lt_heap {w : World} {F : Nat → Prop} : ∀ (x : GV) (cs : List Value), GR w F x cs → GR w (fun k => F k ∧ k < w.heap.size) x cs
  | .int _, _, h => by simpa only [GR] using h
  | .str _, _, h => by simpa only [GR] using h
  | .bool _, _, h => by simpa only [GR] using h
  | .agg fs, cs, h => by
    simp only [GR] at h ⊢
    exact GRa.lt_heap fs cs h
  | .row sz l, cs, h => by
    simp only [GR] at h ⊢
    obtain ⟨A, c, xs, h1, h2, h3, h4, h5, h6⟩ := h
    refine ⟨A, c, xs, h1, h2, h3, h4, fun hne => ?_, GRl.lt_heap sz l xs h6⟩
    obtain ⟨b, o, ha, hb, hc⟩ := h5 hne
    refine ⟨b, o, ha, ⟨hb, ?_⟩, hc⟩
    match xs, hne with
    | u :: _, _ => exact World.block_lt_of_cell? w _ (hc 0 u rfl)
theorem GRa.lt_heap {w : World} {F : Nat → Prop} : ∀ (l : List GV) (cs : List Value), GRa w F l cs → GRa w (fun k => F k ∧ k < w.heap.size) l cs
  | [], _, h => by simpa only [GRa] using h
  | x :: l, cs, h => by
    simp only [GRa] at h ⊢
    obtain ⟨a, b, h1, h2, h3⟩ := h
    exact ⟨a, b, h1, GR.lt_heap x a h2, GRa.lt_heap l b h3⟩
theorem GRl.lt_heap {w : World} {F : Nat → Prop} (sz : Nat) : ∀ (l : List GV) (cs : List Value), GRl w F sz l cs → GRl w (fun k => F k ∧ k < w.heap.size) sz l cs
  | [], _, h => by simpa only [GRl] using h
  | x :: l, cs, h => by
    simp only [GRl] at h ⊢
    obtain ⟨a, b, h1, h0, h2, h3⟩ := h
    exact ⟨a, b, h1, h0, GR.lt_heap x a h2, GRl.lt_heap sz l b h3⟩
end

theorem GR.below {w w' : World} {F : Nat → Prop} {x : GV} {cs : List Value} (h : GR w F x cs) (hb : Below w.heap.size w w') : GR w' F x cs :=
  GR.mono (fun _ h => h) (fun k _ hk => hb.block k hk) x cs h
theorem GRl.below {w w' : World} {F : Nat → Prop} {sz : Nat} {l : List GV} {cs : List Value} (h : GRl w F sz l cs) (hb : Below w.heap.size w w') : GRl w' F sz l cs :=
  GRl.mono (fun _ h => h) (fun k _ hk => hb.block k hk) sz l cs h
theorem GR.weaken {w : World} {F F' : Nat → Prop} {x : GV} {cs : List Value} (h : GR w F x cs) (hF : ∀ k, F k → F' k) : GR w F' x cs :=
  GR.mono hF (fun _ _ _ => rfl) x cs h
theorem GRl.weaken {w : World} {F F' : Nat → Prop} {sz : Nat} {l : List GV} {cs : List Value} (h : GRl w F sz l cs) (hF : ∀ k, F k → F' k) : GRl w F' sz l cs :=
  GRl.mono hF (fun _ _ _ => rfl) sz l cs h

theorem GRl.length {w : World} {F : Nat → Prop} {sz : Nat} : ∀ {l : List GV} {cs : List Value}, GRl w F sz l cs → cs.length = l.length * sz
  | [], _, h => by simp only [GRl] at h; subst h; simp
  | x :: l, cs, h => by
    simp only [GRl] at h
    obtain ⟨a, b, rfl, h0, _, h3⟩ := h
    rw [List.length_append, h0, GRl.length h3, List.length_cons, Nat.add_mul]; omega
theorem GRl.append {w : World} {F : Nat → Prop} {sz : Nat} {m : List GV} {ys : List Value} (hm : GRl w F sz m ys) :
    ∀ {l : List GV} {xs : List Value}, GRl w F sz l xs → GRl w F sz (l ++ m) (xs ++ ys)
  | [], _, h => by simp only [GRl] at h; subst h; simpa using hm
  | x :: l, cs, h => by
    simp only [GRl] at h
    obtain ⟨a, b, rfl, h0, h2, h3⟩ := h
    simp only [List.cons_append, GRl]
    exact ⟨a, b ++ ys, by simp, h0, h2, GRl.append hm h3⟩
/-- The element at an index: its cells. -/
theorem GRl.at_ {w : World} {F : Nat → Prop} {sz : Nat} : ∀ {l : List GV} {xs : List Value} (_ : GRl w F sz l xs) (i : Nat) (hi : i < l.length),
    ∃ cs, GR w F l[i] cs ∧ cs.length = sz ∧ ∀ j, j < sz → xs[i * sz + j]? = cs[j]?
  | [], _, _, i, hi => absurd hi (by simp)
  | x :: l, cs, h, 0, _ => by
    simp only [GRl] at h
    obtain ⟨a, b, rfl, h0, h2, _⟩ := h
    exact ⟨a, h2, h0, fun j hj => by rw [Nat.zero_mul, Nat.zero_add, List.getElem?_append_left (by omega)]⟩
  | x :: l, cs, h, i + 1, hi => by
    simp only [GRl] at h
    obtain ⟨a, b, rfl, h0, _, h3⟩ := h
    obtain ⟨c, h4, h5, h6⟩ := GRl.at_ h3 i (by simpa using hi)
    refine ⟨c, h4, h5, fun j hj => ?_⟩
    have e : (i + 1) * sz + j = a.length + (i * sz + j) := by rw [h0, Nat.add_mul]; omega
    rw [e, List.getElem?_append_right (by omega), Nat.add_sub_cancel_left]
    exact h6 j hj
theorem GRl.split {w : World} {F : Nat → Prop} {sz : Nat} {m : List GV} : ∀ {l : List GV} {xs : List Value} (_ : GRl w F sz (l ++ m) xs), ∃ a b, xs = a ++ b ∧ GRl w F sz l a ∧ GRl w F sz m b
  | [], xs, h => ⟨[], xs, rfl, by simp only [GRl], h⟩
  | x :: l, cs, h => by
    simp only [List.cons_append, GRl] at h
    obtain ⟨a, b, rfl, h0, h2, h3⟩ := h
    obtain ⟨a', b', rfl, h4, h5⟩ := GRl.split h3
    refine ⟨a ++ a', b', by simp, ?_, h5⟩
    simp only [GRl]
    exact ⟨a, a', rfl, h0, h2, h4⟩
theorem GRl.take {w : World} {F : Nat → Prop} {sz : Nat} : ∀ {l : List GV} {xs : List Value} (_ : GRl w F sz l xs) (n : Nat), GRl w F sz (l.take n) (xs.take (n * sz))
  | l, xs, h, 0 => by simp [GRl]
  | [], xs, h, n + 1 => by simp only [GRl] at h; subst h; simp [GRl]
  | x :: l, cs, h, n + 1 => by
    simp only [GRl] at h
    obtain ⟨a, b, rfl, h0, h2, h3⟩ := h
    simp only [List.take_succ_cons, GRl]
    refine ⟨a, b.take (n * sz), ?_, h0, h2, GRl.take h3 n⟩
    rw [List.take_append, h0, List.take_of_length_le (by rw [h0, Nat.add_mul]; omega), Nat.add_mul]
    congr 2; omega
theorem GRl.drop {w : World} {F : Nat → Prop} {sz : Nat} : ∀ {l : List GV} {xs : List Value} (_ : GRl w F sz l xs) (n : Nat), GRl w F sz (l.drop n) (xs.drop (n * sz))
  | l, xs, h, 0 => by simpa using h
  | [], xs, h, n + 1 => by simp only [GRl] at h; subst h; simp [GRl]
  | x :: l, cs, h, n + 1 => by
    simp only [GRl] at h
    obtain ⟨a, b, rfl, h0, h2, h3⟩ := h
    have e : (n + 1) * sz = a.length + n * sz := by rw [h0, Nat.add_mul]; omega
    have e2 : (a ++ b).drop (a.length + n * sz) = b.drop (n * sz) := by rw [← List.drop_drop, List.drop_left]
    rw [List.drop_succ_cons, e, e2]
    exact GRl.drop h3 n

theorem row_open {w : World} {F : Nat → Prop} {sz : Nat} {l : List GV} {v : Value} (h : GR w F (.row sz l) [v]) (hsz : 0 < sz) :
    ∃ A c, v = .slice A l.length c ∧ l.length ≤ c ∧ c ≤ maxLen ∧ (l ≠ [] → ∃ b o, A = some ⟨b, o, none⟩ ∧ F b ∧
      ∀ i (hi : i < l.length), ∃ cs, GR w F l[i] cs ∧ cs.length = sz ∧ ∀ j u, cs[j]? = some u → w.cell? ⟨b, o + i * sz + j, none⟩ = some u) := by
  simp only [GR] at h
  obtain ⟨A, c, xs, h1, h2, h3, h4, h5, h6⟩ := h
  refine ⟨A, c, by simpa using h1, h2, h3, fun hne => ?_⟩
  have hx : xs ≠ [] := by
    rintro rfl
    have : l.length * sz = 0 := by simpa using h4.symm
    rcases Nat.mul_eq_zero.1 this with h | h
    · exact hne (List.eq_nil_of_length_eq_zero h)
    · omega
  obtain ⟨b, o, hA, hF, hc⟩ := h5 hx
  refine ⟨b, o, hA, hF, fun i hi => ?_⟩
  obtain ⟨cs, g1, g2, g3⟩ := GRl.at_ h6 i hi
  refine ⟨cs, g1, g2, fun j u hu => ?_⟩
  have hj : j < sz := by rw [← g2]; exact (List.getElem?_eq_some_iff.1 hu).1
  rw [Nat.add_assoc]
  exact hc _ _ (by rw [g3 j hj]; exact hu)

/-! ### A block that is known whole -/
def Blk (w : World) (g : Nat) (t : TypeId) (cs : Array Value) : Prop := w.heap[g]? = some (.cells cs t (0, 0))
section
variable {w w' : World} {g : Nat} {t : TypeId} {cs : Array Value}
theorem Blk.lt (h : Blk w g t cs) : g < w.heap.size := by
  rcases Nat.lt_or_ge g w.heap.size with hlt | hge
  · exact hlt
  · unfold Blk at h; rw [Array.getElem?_eq_none hge] at h; cases h
theorem Blk.cell (h : Blk w g t cs) (i : Nat) : w.cell? ⟨g, i, none⟩ = cs[i]? := cell_of_row w g i cs t (0, 0) h
theorem Blk.frozen (h : Blk w g t cs) (i : Nat) : w.frozen? ⟨g, i, none⟩ = false := by
  unfold Blk at h
  simp [World.frozen?, h]
theorem Blk.new (w : World) (t : TypeId) (cs : Array Value) : Blk (w.alloc (.cells cs t)) w.heap.size t cs := heap_alloc_new w _
theorem Blk.drewN (h : Blk w g t cs) (n : Nat) : Blk (w.drewN n) g t cs := h
theorem Blk.alloc (h : Blk w g t cs) (o : Obj) : Blk (w.alloc o) g t cs := (Below.heap_alloc w o g h.lt).trans h
theorem Blk.set_ (h : Blk w g t cs) (i : Nat) (u : Value) : Blk (w.setCell ⟨g, i, none⟩ u) g t (cs.setIfInBounds i u) := by
  unfold Blk at h ⊢
  simp [World.setCell, Array.getElem?_modify, h]
theorem Blk.far (h : Blk w g t cs) {p : Addr} (hp : g ≠ p.block) (u : Value) : Blk (w.setCell p u) g t cs := (Below.heap_setCell w p u g hp).trans h
theorem Blk.below {B : Nat} (h : Blk w g t cs) (hb : Below B w w') (hg : g < B) : Blk w' g t cs := (hb.block g hg).trans h
theorem Blk.grown {row : Option Nat} (h : Blk w g t cs) (hb : w.grownBy w' row) (hg : some g ≠ row) : Blk w' g t cs := (hb.block g h.lt hg).trans h
end
theorem grown_refl (w : World) (row : Option Nat) : w.grownBy w row := World.grownBy.refl w row
theorem grown_drewN {a w : World} {row : Option Nat} (h : a.grownBy w row) (n : Nat) : a.grownBy (w.drewN n) row := ⟨h.os, h.tape, h.output, h.size, h.block⟩
theorem grown_trans {a b c : World} {row : Option Nat} (h : a.grownBy b row) (k : b.grownBy c row) : a.grownBy c row :=
  ⟨k.os.trans h.os, k.tape.trans h.tape, k.output.trans h.output, Nat.le_trans h.size k.size, fun i hi hne => (k.block i (Nat.lt_of_lt_of_le hi h.size) hne).trans (h.block i hi hne)⟩
theorem grown_setCell {a w : World} {row : Option Nat} (h : a.grownBy w row) {p : Addr} (hp : some p.block = row ∨ a.heap.size ≤ p.block) (u : Value) : a.grownBy (w.setCell p u) row :=
  ⟨h.os, h.tape, h.output, by simpa [World.setCell] using h.size, fun i hi hne => (Below.heap_setCell w p u i (by rintro rfl; exact hp.elim (fun e => hne e) (fun e => by omega))).trans (h.block i hi hne)⟩
theorem grown_alloc {a w : World} {row : Option Nat} (h : a.grownBy w row) (o : Obj) : a.grownBy (w.alloc o) row :=
  ⟨h.os, h.tape, h.output, Nat.le_trans h.size (by simp), fun i hi hne => (Below.heap_alloc w o i (Nat.lt_of_lt_of_le hi h.size)).trans (h.block i hi hne)⟩
theorem grown_below {a w w' : World} {row : Option Nat} (h : a.grownBy w row) (hb : Below w.heap.size w w') : a.grownBy w' row :=
  ⟨hb.os.trans h.os, hb.tape.trans h.tape, hb.output.trans h.output, Nat.le_trans h.size hb.size, fun i hi hne => (hb.block i (Nat.lt_of_lt_of_le hi h.size)).trans (h.block i hi hne)⟩
/-- What turned one block of its own, turned it as part of a greater whole. -/
theorem grown_grown {a w w' : World} {row row' : Option Nat} (h : a.grownBy w row) (hg : w.grownBy w' row') (hr : ∀ k, row' = some k → row = some k ∨ a.heap.size ≤ k) : a.grownBy w' row :=
  ⟨hg.os.trans h.os, hg.tape.trans h.tape, hg.output.trans h.output, Nat.le_trans h.size hg.size, fun i hi hne =>
    (hg.block i (Nat.lt_of_lt_of_le hi h.size) (fun e => (hr i e.symm).elim (fun h1 => hne h1.symm) (fun h1 => by omega))).trans (h.block i hi hne)⟩
theorem below_of_grown {B : Nat} {w w' : World} {row : Option Nat} (h : w.grownBy w' row) (hB : B ≤ w.heap.size) (hr : ∀ k, row = some k → B ≤ k) : Below B w w' :=
  ⟨h.os, h.tape, h.output, h.size, fun k hk => h.block k (by omega) (fun e => by have := hr k e.symm; omega)⟩
theorem grown_of_below {w w' : World} (h : Below w.heap.size w w') (row : Option Nat) : w.grownBy w' row := ⟨h.os, h.tape, h.output, h.size, fun i hi _ => h.block i hi⟩

/-! ### A slice of the call's own -/
/-- What the kit must know of a slice type t with elements e: how many cells, how many bytes one has. -/
def ElemTy (P : Program) (t e : TypeId) (size bytes : Nat) : Prop :=
  ∃ (i : TypeInfo) (z : Value), P.underlying t = some (.slice e) ∧ P.info? e = some i ∧ i.zero = some z ∧ i.size = size ∧ i.bytes = bytes ∧ z.cells.size = size ∧ 0 < size

/-- v is a slice of the call's own (from block base on): its row lies in one block of its own; what its elements lead to lies in blocks that G lets, none of them that block. -/
def OwnR (w : World) (base : Nat) (e : TypeId) (sz : Nat) (G : Nat → Prop) (v : Value) (l : List GV) : Prop :=
  ∃ xs, w.ownsRow base e sz v l.length xs ∧ GRl w (fun k => G k ∧ some k ≠ v.ownBlock) sz l xs

theorem OwnR.nil (w : World) (base : Nat) (e : TypeId) (sz : Nat) (G : Nat → Prop) : OwnR w base e sz G (.slice none 0 0) [] :=
  ⟨[], World.ownsRow_nil w base e sz, by simp [GRl]⟩
theorem OwnR.lt {w : World} {base : Nat} {e : TypeId} {sz : Nat} {G : Nat → Prop} {v : Value} {l : List GV} (h : OwnR w base e sz G v l) :
    ∀ k, v.ownBlock = some k → base ≤ k ∧ k < w.heap.size := by
  obtain ⟨xs, h1, _⟩ := h
  exact h1.lt
theorem OwnR.kept {w w' : World} {base : Nat} {e : TypeId} {sz : Nat} {G : Nat → Prop} {v : Value} {l : List GV} {row : Option Nat} (h : OwnR w base e sz G v l)
    (hg : w.grownBy w' row) (hne : v.ownBlock = none ∨ v.ownBlock ≠ row) (hr : ∀ k, G k → some k ≠ row) : OwnR w' base e sz G v l := by
  obtain ⟨xs, h1, h2⟩ := h
  exact ⟨xs, h1.kept hg hne, GRl.mono (fun _ h => h) (fun k hk hlt => hg.block k hlt (hr k hk.1)) sz l xs h2⟩
theorem OwnR.below {w w' : World} {base : Nat} {e : TypeId} {sz : Nat} {G : Nat → Prop} {v : Value} {l : List GV} (h : OwnR w base e sz G v l)
    (hb : Below w.heap.size w w') : OwnR w' base e sz G v l :=
  h.kept (row := none) ⟨hb.os, hb.tape, hb.output, hb.size, fun k hk _ => hb.block k hk⟩ (by cases v.ownBlock <;> simp) (fun k _ => by simp)
/-- Of another base, and with more blocks let. -/
theorem OwnR.weaken {w : World} {base base' : Nat} {e : TypeId} {sz : Nat} {G G' : Nat → Prop} {v : Value} {l : List GV} (h : OwnR w base e sz G v l)
    (hb : base' ≤ base) (hG : ∀ k, G k → G' k) : OwnR w base' e sz G' v l := by
  obtain ⟨xs, ⟨h1, h2⟩, h3⟩ := h
  refine ⟨xs, ⟨h1, ?_⟩, h3.weaken fun k hk => ⟨hG k hk.1, hk.2⟩⟩
  rcases h2 with h2 | ⟨g, cap, cur, hv, hg, r⟩
  · exact .inl h2
  · exact .inr ⟨g, cap, cur, hv, by omega, r⟩
theorem OwnR.form {w : World} {base : Nat} {e : TypeId} {sz : Nat} {G : Nat → Prop} {v : Value} {l : List GV} (h : OwnR w base e sz G v l) : ∃ A c, v = .slice A l.length c := by
  obtain ⟨xs, h1, _⟩ := h
  rcases h1.2 with ⟨rfl, h0⟩ | ⟨g, cap, cur, rfl, _⟩
  · exact ⟨none, 0, by rw [h0]⟩
  · exact ⟨_, _, rfl⟩
/-- Read as any slice. -/
theorem OwnR.gr {w : World} {base : Nat} {e : TypeId} {sz : Nat} {G F : Nat → Prop} {v : Value} {l : List GV} (h : OwnR w base e sz G v l)
    (hG : ∀ k, G k → F k) (hv : ∀ k, v.ownBlock = some k → F k) : GR w F (.row sz l) [v] := by
  obtain ⟨xs, h1, h3⟩ := h
  have hl := h3.length
  rcases h1.2 with ⟨rfl, h0⟩ | ⟨g, cap, cur, rfl, hg, hh, hn, hm, hc, ht⟩
  · simp only [GR]
    exact ⟨none, 0, xs, by rw [h0], by omega, by simp [maxLen], hl, fun hne => absurd (List.eq_nil_of_length_eq_zero (by rw [hl, h0, Nat.zero_mul])) hne, h3.weaken fun k hk => hG k hk.1⟩
  · simp only [GR]
    refine ⟨some ⟨g, 0, none⟩, cap, xs, rfl, hn, hm, hl, fun _ => ⟨g, 0, rfl, hv g rfl, fun j u hu => ?_⟩, h3.weaken fun k hk => hG k hk.1⟩
    have hadd : (⟨g, 0, none⟩ : Addr).add j = ⟨g, 0 + j, none⟩ := by unfold Addr.add; split <;> simp_all
    rw [← hadd]
    exact World.ownsRow.cells h1 (g := g) rfl j u hu

section
variable {P : Program} (w : World)
theorem run_append_of_nil (base : Nat) (t ty e : TypeId) (i : TypeInfo) (size : Nat) (ht : P.underlying t = some (.slice e)) (hi : P.info? e = some i)
    (v : Value) (n : Nat) (xs : List Value) (hown : w.ownsRow base e size v n xs) (c : Nat) : (Builtin.append_ #[t, t] ty #[v, .slice none 0 c]).run P w = .ok v w := by
  rcases hown.2 with ⟨rfl, rfl⟩ | ⟨g, cap, cur, rfl, _, _, hnc, _⟩
  · simp [Builtin.append_, run_underlying ht, sizeOf, typeInfo, hi, Builtin.lenOf, Builtin.firstCells]
  · simp [Builtin.append_, run_underlying ht, sizeOf, typeInfo, hi, Builtin.lenOf, Builtin.firstCells, hnc, storeCells]
mutual
theorem GR.one {w : World} {F : Nat → Prop} : ∀ (x : GV) (cs : List Value), GR w F x cs → ∀ u ∈ cs, u.oneCell' = true
  | .int _, _, h => by simp only [GR] at h; subst h; simp [Value.oneCell']
  | .str _, _, h => by simp only [GR] at h; subst h; simp [Value.oneCell']
  | .bool _, _, h => by simp only [GR] at h; subst h; simp [Value.oneCell']
  | .agg fs, cs, h => by
    simp only [GR] at h
    exact GRa.one fs cs h
  | .row sz l, cs, h => by
    simp only [GR] at h
    obtain ⟨A, c, xs, rfl, _⟩ := h
    simp [Value.oneCell']
theorem GRa.one {w : World} {F : Nat → Prop} : ∀ (l : List GV) (cs : List Value), GRa w F l cs → ∀ u ∈ cs, u.oneCell' = true
  | [], _, h => by simp only [GRa] at h; subst h; simp
  | x :: l, cs, h => by
    simp only [GRa] at h
    obtain ⟨a, b, rfl, h2, h3⟩ := h
    intro u hu
    rcases List.mem_append.1 hu with hu | hu
    · exact GR.one x a h2 u hu
    · exact GRa.one l b h3 u hu
theorem GRl.one {w : World} {F : Nat → Prop} (sz : Nat) : ∀ (l : List GV) (cs : List Value), GRl w F sz l cs → ∀ u ∈ cs, u.oneCell' = true
  | [], _, h => by simp only [GRl] at h; subst h; simp
  | x :: l, cs, h => by
    simp only [GRl] at h
    obtain ⟨a, b, rfl, _, h2, h3⟩ := h
    intro u hu
    rcases List.mem_append.1 hu with hu | hu
    · exact GR.one x a h2 u hu
    · exact GRl.one sz l b h3 u hu
end

/-- append, of whatever source, to a slice of the call's own. -/
theorem run_append_R (base : Nat) (t ty e : TypeId) (size bytes : Nat) (hT : ElemTy P t e size bytes) (G : Nat → Prop) (v : Value) (l : List GV) (hown : OwnR w base e size G v l)
    (A : Option Addr) (c : Nat) (m : List GV) (news : List Value) (hx : Cells w (fun _ => True) A news) (hr : GRl w (fun k => G k ∧ some k ≠ v.ownBlock) size m news)
    (h63 : l.length + m.length ≤ maxLen) (hbytes : (l.length + m.length) * bytes ≤ 140737488355328) (hbase : base ≤ w.heap.size) :
    ∃ v' w', (Builtin.append_ #[t, t] ty #[v, .slice A m.length c]).run P w = .ok v' w' ∧ OwnR w' base e size G v' (l ++ m) ∧ w.grownBy w' v.ownBlock ∧
      (v'.ownBlock = v.ownBlock ∨ v'.ownBlock = some w.heap.size) := by
  obtain ⟨i, z, ht, hi, hz, hsize, hby, hzs, hsz⟩ := hT
  obtain ⟨xs, hown, h3⟩ := hown
  have hl := hr.length
  have fin : ∀ v' w', w'.ownsRow base e size v' (l.length + m.length) (xs ++ news) → w.grownBy w' v.ownBlock → (v'.ownBlock = v.ownBlock ∨ v'.ownBlock = some w.heap.size) →
      OwnR w' base e size G v' (l ++ m) := by
    intro v' w' ho hg hv
    refine ⟨xs ++ news, by rw [List.length_append]; exact ho, ?_⟩
    have hall := GRl.append hr h3
    have key : ∀ (q : List GV) (ys : List Value), GRl w (fun k => G k ∧ some k ≠ v.ownBlock) size q ys → GRl w (fun k => (G k ∧ some k ≠ v.ownBlock) ∧ k < w.heap.size) size q ys := by
      intro q ys hq
      exact GRl.lt_heap size q ys hq
    refine GRl.mono (fun k hk => ?_) (fun k hk hlt => ?_) size _ _ (key _ _ hall)
    · refine ⟨hk.1.1, ?_⟩
      rcases hv with hv | hv <;> rw [hv]
      · exact hk.1.2
      · have := hk.2
        simp; omega
    · exact hg.block k hlt hk.1.2
  rcases A with _ | ad
  · have hm : m = [] := by
      have hn : news = [] := by
        rcases Classical.em (news = []) with h | h
        · exact h
        · obtain ⟨b, o, h, _⟩ := hx h
          cases h
      subst hn
      have h0 : m.length * size = 0 := by rw [← hl]; rfl
      rcases Nat.mul_eq_zero.1 h0 with h | h
      · exact List.eq_nil_of_length_eq_zero h
      · omega
    subst hm
    have hn : news = [] := List.eq_nil_of_length_eq_zero (by simpa using hl)
    subst hn
    exact ⟨v, w, run_append_of_nil w base t ty e i size ht hi v _ xs hown c, fin v w (by simpa using hown) (World.grownBy.refl w _) (.inl rfl), World.grownBy.refl w _, .inl rfl⟩
  · have hcells : ∀ j u, news[j]? = some u → w.cell? (ad.add j) = some u := by
      intro j u hu
      obtain ⟨b, o, h, _, hc⟩ := hx (by rintro rfl; simp at hu)
      injection h with h
      subst h
      have hadd : (⟨b, o, none⟩ : Addr).add j = ⟨b, o + j, none⟩ := by unfold Addr.add; split <;> simp_all
      rw [hadd]
      exact hc j u hu
    obtain ⟨v', w', hrun, h2, hg, _, h5⟩ := run_append_own_at (P := P) w base t ty e i z size bytes ht hi hz hsize hby hzs hsz v l.length xs hown ad m.length c news hl hcells (GRl.one size m news hr) h63 hbytes hbase
    exact ⟨v', w', hrun, fin v' w' h2 hg h5, hg, h5⟩

theorem wp_append_R {o : Oper} {a : Act} {K : Act → World → Prop} {Q : Exit → Act → World → Prop} (s x : Operand) (t : TypeId)
    (ho : o.op = .call { callee := .builtin .append, args := #[s, x], argTypes := #[t, t] })
    (base : Nat) (e : TypeId) (size bytes : Nat) (hT : ElemTy P t e size bytes) (G : Nat → Prop) (v : Value) (l : List GV) (hs : a.eval s = v) (hown : OwnR w base e size G v l)
    (A : Option Addr) (c : Nat) (m : List GV) (news : List Value) (hv : a.eval x = .slice A m.length c) (hx : Cells w (fun _ => True) A news) (hr : GRl w (fun k => G k ∧ some k ≠ v.ownBlock) size m news)
    (h63 : l.length + m.length ≤ maxLen) (hbytes : (l.length + m.length) * bytes ≤ 140737488355328) (hbase : base ≤ w.heap.size)
    (h : ∀ v' w', OwnR w' base e size G v' (l ++ m) → w.grownBy w' v.ownBlock → (v'.ownBlock = v.ownBlock ∨ v'.ownBlock = some w.heap.size) → K (a.put o.dst v') w') : o.wp P a w K Q := by
  obtain ⟨v', w', hrun, h2, h3, h4⟩ := run_append_R (P := P) w base t o.type e size bytes hT G v l hown A c m news hx hr h63 hbytes hbase
  unfold Oper.wp execOp
  simp only [ho, resolve, invoke, builtin, Sem.run_bind, Sem.run_pure, Result.andThen_ok, List.map_toArray, List.map_cons, List.map_nil, hs, hv, hrun]
  exact h v' w' h2 h3 h4
theorem wpList_append_R {ops : Array Oper} {rest : List Oper} {o : Oper} {a : Act} {Q : Exit → Act → World → Prop} (hgd : o.guard = none) (s x : Operand) (t : TypeId)
    (ho : o.op = .call { callee := .builtin .append, args := #[s, x], argTypes := #[t, t] })
    (base : Nat) (e : TypeId) (size bytes : Nat) (hT : ElemTy P t e size bytes) (G : Nat → Prop) (v : Value) (l : List GV) (hs : a.eval s = v) (hown : OwnR w base e size G v l)
    (A : Option Addr) (c : Nat) (m : List GV) (news : List Value) (hv : a.eval x = .slice A m.length c) (hx : Cells w (fun _ => True) A news) (hr : GRl w (fun k => G k ∧ some k ≠ v.ownBlock) size m news)
    (h63 : l.length + m.length ≤ maxLen) (hbytes : (l.length + m.length) * bytes ≤ 140737488355328) (hbase : base ≤ w.heap.size)
    (h : ∀ v' w', OwnR w' base e size G v' (l ++ m) → w.grownBy w' v.ownBlock → (v'.ownBlock = v.ownBlock ∨ v'.ownBlock = some w.heap.size) → wpList P ops Q rest (a.put o.dst v') w') : wpList P ops Q (o :: rest) a w :=
  wpList_plain hgd fun _ hK => wp_append_R w s x t ho base e size bytes hT G v l hs hown A c m news hv hx hr h63 hbytes hbase fun v' w' h2 h3 h4 => hK _ _ (h v' w' h2 h3 h4)
end
/-- append to a slice of the call's own, as the walks use it: the new value is spelled as a slice. -/
theorem wpList_append_S {P : Program} {w : World} {ops : Array Oper} {rest : List Oper} {o : Oper} {a : Act} {Q : Exit → Act → World → Prop} (hgd : o.guard = none) (s x : Operand) (t : TypeId)
    (ho : o.op = .call { callee := .builtin .append, args := #[s, x], argTypes := #[t, t] })
    {base : Nat} {e : TypeId} {size bytes : Nat} (hT : ElemTy P t e size bytes) {G : Nat → Prop} {v : Value} {l : List GV} (hs : a.eval s = v) (hown : OwnR w base e size G v l)
    {A : Option Addr} {c n : Nat} {m : List GV} {news : List Value} (hn : n = m.length) (hv : a.eval x = .slice A n c) (hx : Cells w (fun _ => True) A news) (hr : GRl w (fun k => G k ∧ some k ≠ v.ownBlock) size m news)
    (h63 : l.length + m.length ≤ maxLen) (hbytes : (l.length + m.length) * bytes ≤ 140737488355328) (hbase : base ≤ w.heap.size) {k : Nat} (hk : k = (l ++ m).length)
    (h : ∀ A' c' w', OwnR w' base e size G (.slice A' k c') (l ++ m) → w.grownBy w' v.ownBlock → ((Value.slice A' k c').ownBlock = v.ownBlock ∨ (Value.slice A' k c').ownBlock = some w.heap.size) →
      wpList P ops Q rest (a.put o.dst (.slice A' k c')) w') : wpList P ops Q (o :: rest) a w := by
  subst hn
  refine wpList_append_R w hgd s x t ho base e size bytes hT G v l hs hown A c m news hv hx hr h63 hbytes hbase fun v' w' h1 h2 h3 => ?_
  obtain ⟨A', c', rfl⟩ := h1.form
  subst hk
  exact h A' c' w' h1 h2 h3
/-- The same, at a step of a region that draws its order. -/
theorem step_append_S {P : Program} {w : World} {ops : Array Oper} {o : Oper} {a : Act} {K : Act → World → Prop} {Q : Exit → Act → World → Prop} {E : Prop} (hgd : o.guard = none) (s x : Operand) (t : TypeId)
    (ho : o.op = .call { callee := .builtin .append, args := #[s, x], argTypes := #[t, t] })
    {base : Nat} {e : TypeId} {size bytes : Nat} (hT : ElemTy P t e size bytes) {G : Nat → Prop} {v : Value} {l : List GV} (hs : a.eval s = v) (hown : OwnR w base e size G v l)
    {A : Option Addr} {c n : Nat} {m : List GV} {news : List Value} (hn : n = m.length) (hv : a.eval x = .slice A n c) (hx : Cells w (fun _ => True) A news) (hr : GRl w (fun k => G k ∧ some k ≠ v.ownBlock) size m news)
    (h63 : l.length + m.length ≤ maxLen) (hbytes : (l.length + m.length) * bytes ≤ 140737488355328) (hbase : base ≤ w.heap.size) {k : Nat} (hk : k = (l ++ m).length)
    (h : ∀ A' c' w', OwnR w' base e size G (.slice A' k c') (l ++ m) → w.grownBy w' v.ownBlock → ((Value.slice A' k c').ownBlock = v.ownBlock ∨ (Value.slice A' k c').ownBlock = some w.heap.size) →
      K (a.put o.dst (.slice A' k c')) w') : if Region.wanted o (yielded ops a.tmps) = true then Oper.wp P o a w K Q else E := by
  have hw : Region.wanted o (yielded ops a.tmps) = true := by simp [Region.wanted, hgd]
  rw [if_pos hw]
  subst hn
  refine wp_append_R w s x t ho base e size bytes hT G v l hs hown A c m news hv hx hr h63 hbytes hbase fun v' w' h1 h2 h3 => ?_
  obtain ⟨A', c', rfl⟩ := h1.form
  subst hk
  exact h A' c' w' h1 h2 h3
/-- The one element that a literal of one has laid into a block of its own. -/
theorem cells_new {w : World} {g : Nat} {t : TypeId} {cs : List Value} (h : Blk w g t cs.toArray) : Cells w (fun _ => True) (some ⟨g, 0, none⟩) cs :=
  fun _ => ⟨g, 0, rfl, trivial, fun j u hu => by rw [Nat.zero_add, h.cell]; simpa using hu⟩
theorem GRl_one {w : World} {F : Nat → Prop} {sz : Nat} {x : GV} {cs : List Value} (h : GR w F x cs) (hl : cs.length = sz) : GRl w F sz [x] cs :=
  GRl_cons.2 ⟨cs, [], by simp, hl, h, GRl_nil.2 rfl⟩
theorem gr_nil {w : World} {F : Nat → Prop} {sz : Nat} : GR w F (.row sz []) [.slice none 0 0] :=
  GR_row.2 ⟨none, 0, [], rfl, Nat.le_refl _, by simp [maxLen], by simp, fun h => absurd rfl h, GRl_nil.2 rfl⟩
theorem gr_one_new {w : World} {F : Nat → Prop} {g sz : Nat} {t : TypeId} {x : GV} {cs : List Value} (h : Blk w g t cs.toArray) (hg : F g) (hx : GR w F x cs) (hl : cs.length = sz) :
    GR w F (.row sz [x]) [.slice (some ⟨g, 0, none⟩) 1 1] :=
  GR_row.2 ⟨some ⟨g, 0, none⟩, 1, cs, rfl, Nat.le_refl _, by simp [maxLen], by simpa using hl, fun _ => ⟨g, 0, rfl, hg, fun j u hu => by rw [Nat.zero_add, h.cell]; simpa using hu⟩, GRl_one hx hl⟩
end Go.Proofs.YtijpfcjlochahaaGreatDoor
