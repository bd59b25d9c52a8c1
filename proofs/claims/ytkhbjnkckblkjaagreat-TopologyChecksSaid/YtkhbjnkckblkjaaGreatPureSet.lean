/- Sets as sorted lists: sorting and striking neighbours that are equal, or inserting one by one. -/
import Derived.Test.YtkhbjnkckblkjaaGreatPureKit
namespace Go.AM
open Go
structure COrd {α : Type} (c : α → α → Int) : Prop where
 neg : ∀ a b, c b a = - c a b
 zero : ∀ a b, c a b = 0 ↔ a = b
 trans : ∀ {a b d}, c a b < 0 → c b d < 0 → c a d < 0
section
variable {α : Type} {c : α → α → Int}
theorem cmpLt_eq {f : α → α → Option Int} (hf : ∀ a b, f a b = some (c a b)) (a b : α) : cmpLt f a b = decide (c a b < 0) := by
 simp [cmpLt, hf]
theorem COrd.ltOn (h : COrd c) {f : α → α → Option Int} (hf : ∀ a b, f a b = some (c a b)) (l : List α) : LtOn (cmpLt f) l := by
 refine ⟨fun x _ y _ hl => ?_, fun x _ y _ z _ h1 h2 => ?_, fun x _ y _ h1 h2 => ?_⟩
 ·rw [cmpLt_eq hf] at hl ⊢
  rw [h.neg x y]
  simp at hl ⊢; omega
 ·rw [cmpLt_eq hf] at h1 h2 ⊢
  simp at h1 h2 ⊢; exact h.trans h1 h2
 ·rw [cmpLt_eq hf] at h1 h2
  rw [h.neg x y] at h2
  simp at h1 h2
  exact (h.zero x y).1 (by omega)
end
section
variable {α : Type} [DecidableEq α] {c : α → α → Int}
def dd : α → List α → List α
 | _, [] => []
 | x, y :: l => if y = x then dd y l else y :: dd y l
theorem COrd.sort (h : COrd c) {f : α → α → Option Int} (hf : ∀ a b, f a b = some (c a b)) {l : List α} (hl : l.length ≤ 1073741824) :
  ∃ s, sortF f l = some s ∧ s.Perm l ∧ s.Pairwise (fun a b => ¬ c b a < 0) := by
 have hL := h.ltOn hf l
 refine ⟨_, sortF_of (lawB_of hL fun x _ y _ => by rw [hf]; rfl) hl, isort_perm _ _, ?_⟩
 refine (isort_sorted hL).imp fun {a b} hab => ?_
 rw [cmpLt_eq hf] at hab
 simpa using hab
end
end Go.AM
