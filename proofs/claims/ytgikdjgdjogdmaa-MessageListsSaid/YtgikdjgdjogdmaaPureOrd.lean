/- Comparisons put together: by fields, by lists, by strings. -/
import Derived.Test.YtgikdjgdjogdmaaPureSet
namespace Go.AM
open Go
structure POrd {α : Type} (c : α → α → Int) : Prop where
  neg : ∀ a b, c b a = - c a b
  trans : ∀ {a b d}, c a b ≤ 0 → c b d ≤ 0 → c a d ≤ 0
section
variable {α β : Type} {c : α → α → Int}
theorem POrd.refl (h : POrd c) (a : α) : c a a = 0 := by have := h.neg a a; omega
theorem POrd.ltl (h : POrd c) {a b d : α} (h1 : c a b < 0) (h2 : c b d ≤ 0) : c a d < 0 := by
  have h3 := h.trans (by omega : c a b ≤ 0) h2
  rcases Int.lt_or_eq_of_le h3 with h4 | h4
  · exact h4
  · have h5 : c d a ≤ 0 := by rw [h.neg a d]; omega
    have h6 := h.trans h2 h5
    have h7 := h.neg a b
    omega
theorem POrd.cord (h : POrd c) (hz : ∀ a b, c a b = 0 → a = b) : COrd c :=
  ⟨h.neg, fun a b => ⟨hz a b, fun e => by rw [e, h.refl]⟩, fun h1 h2 => h.ltl h1 (by omega)⟩
theorem pordSg : POrd sg := ⟨sg_neg, fun {a b d} h1 h2 => by
  have n1 := @sg_lt b a
  have n2 := @sg_lt d b
  have n3 := @sg_lt d a
  have m1 := sg_neg a b
  have m2 := sg_neg b d
  have m3 := sg_neg a d
  omega⟩
end
end Go.AM
