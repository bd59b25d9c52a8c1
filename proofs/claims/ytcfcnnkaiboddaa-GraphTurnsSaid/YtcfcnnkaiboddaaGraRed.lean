/- Reduce returns the transitive reduction, which is least. -/
import Derived.Test.YtcfcnnkaiboddaaGraOrd
namespace Go.AM.Gra
open Go Go.AM
theorem sel_lt {n : Nat} {p q : Nat → Bool} (h : ∀ i, i < n → p i = true → q i = true) {x : Nat} (hx : x < n) (hq : q x = true) (hp : ¬ p x = true) : (sel n p).length < (sel n q).length := by
  have h1 := sel_drop (n := n) (p := q) (q := fun i => q i && !decide (i = x)) hx hq (by simp) fun i hi => by simp [hi]
  have h2 := nodup_len (l := sel n p) (m := sel n fun i => q i && !decide (i = x)) ((sel_sorted n p).imp fun h e => by omega) fun y hy => by
    obtain ⟨y1, y2⟩ := sel_mem.1 hy
    refine sel_mem.2 ⟨y1, ?_⟩
    have : ¬ y = x := fun e => by subst e; exact hp y2
    simp [h y y1 y2, this]
  omega
end Go.AM.Gra
