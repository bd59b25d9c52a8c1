/- Close returns the transitive closure. -/
import Derived.Test.YtkhbjnkckblkjaaGreatTopZReach
namespace Go.AM.TopZ
open Go Go.AM
inductive Tc (n : Nat) (E : Nat → Nat → Bool) (s : Nat) : Nat → Prop
 | one {v : Nat} : s < n → v < n → E s v = true → Tc n E s v
 | step {u v : Nat} : Tc n E s u → v < n → E u v = true → Tc n E s v
theorem Tc.lt {n : Nat} {E : Nat → Nat → Bool} {s v : Nat} (h : Tc n E s v) : s < n ∧ v < n := by
 induction h with
 | one h1 h2 _ => exact ⟨h1, h2⟩
 | step _ h _ ih => exact ⟨ih.1, h⟩
theorem Tc.trans {n : Nat} {E : Nat → Nat → Bool} {a b c : Nat} (h : Tc n E a b) (k : Tc n E b c) : Tc n E a c := by
 induction k with
 | one _ h2 h3 => exact .step h h2 h3
 | step _ h2 h3 ih => exact .step ih h2 h3
theorem Tc.rt {n : Nat} {E : Nat → Nat → Bool} {a b : Nat} (h : Tc n E a b) : ∃ u, u < n ∧ E a u = true ∧ Rt n E u b := by
 induction h with
 | one _ h2 h3 => exact ⟨_, h2, h3, .refl h2⟩
 | step _ h2 h3 ih =>
  obtain ⟨u, u1, u2, u3⟩ := ih
  exact ⟨u, u1, u2, .step u3 h2 h3⟩
theorem Tc.mono {n : Nat} {E F : Nat → Nat → Bool} (h : ∀ a b, a < n → b < n → E a b = true → Tc n F a b) {a b : Nat} (k : Tc n E a b) : Tc n F a b := by
 induction k with
 | one h1 h2 h3 => exact h _ _ h1 h2 h3
 | step k h2 h3 ih => exact ih.trans (h _ _ k.lt.2 h2 h3)
def IsC (n : Nat) (E C : Nat → Nat → Bool) : Prop := ∀ a, a < n → ∀ b, b < n → (C a b = true ↔ Tc n E a b)
theorem IsC.eq {n : Nat} {E C D : Nat → Nat → Bool} (h : IsC n E C) (k : IsC n E D) : ∀ a, a < n → ∀ b, b < n → C a b = D a b := fun a ha b hb => by
 rw [Bool.eq_iff_iff, h a ha b hb, k a ha b hb]
end Go.AM.TopZ
