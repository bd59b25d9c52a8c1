/- Sets as sorted lists: sorting and striking neighbours that are equal, or inserting one by one. -/
import Derived.Test.YtcfcnnkaiboddaaPureKit
namespace Go.AM
open Go
structure COrd {α : Type} (c : α → α → Int) : Prop where
  neg : ∀ a b, c b a = - c a b
  zero : ∀ a b, c a b = 0 ↔ a = b
  trans : ∀ {a b d}, c a b < 0 → c b d < 0 → c a d < 0
section
variable {α : Type} {c : α → α → Int}
def Strict (c : α → α → Int) (l : List α) : Prop := l.Pairwise fun x y => c x y < 0
theorem strict_unique (h : COrd c) : ∀ {l m : List α}, Strict c l → Strict c m → (∀ x, x ∈ l ↔ x ∈ m) → l = m
  | [], [], _, _, _ => rfl
  | [], y :: m, _, _, hm => by have := (hm y).2 (by simp); simp at this
  | x :: l, [], _, _, hm => by have := (hm x).1 (by simp); simp at this
  | x :: l, y :: m, hl, hm, he => by
    obtain ⟨l1, l2⟩ := List.pairwise_cons.1 hl
    obtain ⟨m1, m2⟩ := List.pairwise_cons.1 hm
    have irr : ∀ a, ¬ c a a < 0 := fun a => by rw [(h.zero a a).2 rfl]; omega
    have hxy : x = y := by
      rcases List.mem_cons.1 ((he x).1 (by simp)) with e | e
      · exact e
      · rcases List.mem_cons.1 ((he y).2 (by simp)) with e' | e'
        · exact e'.symm
        · exact absurd (h.trans (l1 y e') (m1 x e)) (irr x)
    subst hxy
    rw [strict_unique h l2 m2 fun z => ?_]
    constructor
    · intro hz
      rcases List.mem_cons.1 ((he z).1 (by simp [hz])) with e | e
      · subst e; exact absurd (l1 z hz) (irr z)
      · exact e
    · intro hz
      rcases List.mem_cons.1 ((he z).2 (by simp [hz])) with e | e
      · subst e; exact absurd (m1 z hz) (irr z)
      · exact e
theorem cmpLt_eq {f : α → α → Option Int} (hf : ∀ a b, f a b = some (c a b)) (a b : α) : cmpLt f a b = decide (c a b < 0) := by
  simp [cmpLt, hf]
theorem COrd.ltOn (h : COrd c) {f : α → α → Option Int} (hf : ∀ a b, f a b = some (c a b)) (l : List α) : LtOn (cmpLt f) l := by
  refine ⟨fun x _ y _ hl => ?_, fun x _ y _ z _ h1 h2 => ?_, fun x _ y _ h1 h2 => ?_⟩
  · rw [cmpLt_eq hf] at hl ⊢
    rw [h.neg x y]
    simp at hl ⊢; omega
  · rw [cmpLt_eq hf] at h1 h2 ⊢
    simp at h1 h2 ⊢; exact h.trans h1 h2
  · rw [cmpLt_eq hf] at h1 h2
    rw [h.neg x y] at h2
    simp at h1 h2
    exact (h.zero x y).1 (by omega)
end
section
variable {α : Type} [DecidableEq α] {c : α → α → Int}
def dd : α → List α → List α
  | _, [] => []
  | x, y :: l => if y = x then dd y l else y :: dd y l
theorem COrd.sort (h : COrd c) {f : α → α → Option Int} (hf : ∀ a b, f a b = some (c a b)) {l : List α} (hl : l.length ≤ 1073741824) :
    ∃ s, sortF f l = some s ∧ s.Perm l ∧ s.Pairwise (fun a b => ¬ c b a < 0) := by
  have hL := h.ltOn hf l
  refine ⟨_, sortF_of (lawB_of hL fun x _ y _ => by rw [hf]; rfl) hl, isort_perm _ _, ?_⟩
  refine (isort_sorted hL).imp fun {a b} hab => ?_
  rw [cmpLt_eq hf] at hab
  simpa using hab
end
end Go.AM
