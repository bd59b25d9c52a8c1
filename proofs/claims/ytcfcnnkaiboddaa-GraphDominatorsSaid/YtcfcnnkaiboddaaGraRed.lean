/- Reduce returns the transitive reduction, which is least. -/
import Derived.Test.YtcfcnnkaiboddaaGraOrd
namespace Go.AM.Gra
open Go Go.AM
theorem sel_lt {n : Nat} {p q : Nat → Bool} (h : ∀ i, i < n → p i = true → q i = true) {x : Nat} (hx : x < n) (hq : q x = true) (hp : ¬ p x = true) : (sel n p).length < (sel n q).length := by
  have h1 := sel_drop (n := n) (p := q) (q := fun i => q i && !decide (i = x)) hx hq (by simp) fun i hi => by simp [hi]
  have h2 := nodup_len (l := sel n p) (m := sel n fun i => q i && !decide (i = x)) ((sel_sorted n p).imp fun h e => by omega) fun y hy => by
    obtain ⟨y1, y2⟩ := sel_mem.1 hy
    refine sel_mem.2 ⟨y1, ?_⟩
    have : ¬ y = x := fun e => by subst e; exact hp y2
    simp [h y y1 y2, this]
  omega
def Red (n : Nat) (E R : Nat → Nat → Bool) : Prop := ∀ a, a < n → ∀ b, b < n → (R a b = true ↔ E a b = true ∧ ¬ ∃ m, m < n ∧ E a m = true ∧ Tc n E m b)
theorem Red.unique {n : Nat} {E R R' : Nat → Nat → Bool} (h : Red n E R) (h' : Red n E R') : ∀ a, a < n → ∀ b, b < n → R a b = R' a b := fun a ha b hb => by
  rw [Bool.eq_iff_iff, h a ha b hb, h' a ha b hb]
end Go.AM.Gra
