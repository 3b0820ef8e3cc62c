/- Plain: two rows of elements that are the same. No program is named here. -/
import Derived.Test.YtijpfcjlochahaaDoorCntP
namespace Go.Proofs.YtijpfcjlochahaaDoor
open Go Go.RowKit

mutual
def likeE : Elem → Elem → Bool
  | .mk k t s a b u l, .mk k' t' s' a' b' u' l' => k == k' && t == t' && s == s' && a == a' && b == b' && u == u' && likeF l l'
def likeF : List Elem → List Elem → Bool
  | [], [] => true
  | e :: l, f :: m => likeE e f && likeF l m
  | _, _ => false
end
mutual
theorem likeE_refl : ∀ e : Elem, likeE e e = true
  | .mk k t s a b u l => by simp [likeE, likeF_refl l]
theorem likeF_refl : ∀ l : List Elem, likeF l l = true
  | [] => rfl
  | e :: l => by simp [likeF, likeE_refl e, likeF_refl l]
end
mutual
theorem likeE_eq : ∀ e f : Elem, likeE e f = true → e = f
  | .mk k t s a b u l, .mk k' t' s' a' b' u' l', h => by
    simp only [likeE, Bool.and_eq_true, beq_iff_eq] at h
    obtain ⟨⟨⟨⟨⟨⟨h1, h2⟩, h3⟩, h4⟩, h5⟩, h6⟩, h7⟩ := h
    rw [h1, h2, h3, h4, h5, h6, likeF_eq l l' h7]
theorem likeF_eq : ∀ l m : List Elem, likeF l m = true → l = m
  | [], [], _ => rfl
  | [], _ :: _, h => by simp [likeF] at h
  | _ :: _, [], h => by simp [likeF] at h
  | e :: l, f :: m, h => by
    simp only [likeF, Bool.and_eq_true] at h
    rw [likeE_eq e f h.1, likeF_eq l m h.2]
end
theorem likeF_iff {l m : List Elem} : likeF l m = true ↔ l = m := ⟨likeF_eq l m, fun h => h ▸ likeF_refl l⟩
end Go.Proofs.YtijpfcjlochahaaDoor
