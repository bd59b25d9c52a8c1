/- Path returns the least of the shortest paths. -/
import Derived.Test.YtkhbjnkckblkjaaGreatTopZReach
namespace Go.AM.TopZ
open Go Go.AM
theorem sel_head {n : Nat} {p : Nat → Bool} {i : Nat} (hi : i < n) (hp : p i = true) (hn : ∀ j, j < i → p j = false) (z : Nat) : (sel n p).headD z = i := by
 have hm : i ∈ sel n p := sel_mem.2 ⟨hi, hp⟩
 have hs := sel_sorted n p
 cases h : sel n p with
 | nil => rw [h] at hm; simp at hm
 | cons x l =>
  rw [h] at hm hs
  have hx : x ∈ sel n p := by rw [h]; simp
  have hpx := (sel_mem.1 hx).2
  simp only [List.headD_cons]
  rcases List.mem_cons.1 hm with e | e
  ·exact e.symm
  ·have h1 := (List.pairwise_cons.1 hs).1 i e
   have := hn x h1
   rw [hpx] at this; cases this
def nearer (E : Nat → Nat → Bool) (d : Nat → Int) (a : Nat) : Nat → Bool := fun m => E a m && decide (d m = d a - 1)
def nx (n : Nat) (E : Nat → Nat → Bool) (d : Nat → Int) (a : Nat) : Nat := (sel n (nearer E d a)).headD a
def wk (n : Nat) (E : Nat → Nat → Bool) (d : Nat → Int) : Nat → Nat → List Nat
 | 0, a => [a]
 | k + 1, a => a :: wk n E d k (nx n E d a)
theorem first_of {n : Nat} {p : Nat → Bool} (h : ∃ m, m < n ∧ p m = true) : ∃ m, m < n ∧ p m = true ∧ ∀ j, j < m → p j = false := by
 obtain ⟨m, hm, hp⟩ := h
 induction m using Nat.strongRecOn with
 | _ m ih =>
  by_cases e : ∃ j, j < m ∧ p j = true
  ·obtain ⟨j, h1, h2⟩ := e
   exact ih j h1 (by omega) h2
  ·refine ⟨m, hm, hp, fun j hj => ?_⟩
   cases hj' : p j with
   | false => rfl
   | true => exact absurd ⟨j, hj, hj'⟩ e
structure To (n : Nat) (E : Nat → Nat → Bool) (t : Nat) (d : Nat → Int) : Prop where
 isd : IsD n (fun a b => E b a) (fun v => decide (v = t)) d
theorem To.nx {n : Nat} {E : Nat → Nat → Bool} {t : Nat} {d : Nat → Int} (h : To n E t d) {a : Nat} (ha : a < n) (h0 : 0 < d a) : ∃ m, m < n ∧ nearer E d a m = true ∧ (∀ j, j < m → nearer E d a j = false) ∧ nx n E d a = m := by
 obtain ⟨u, hu, h1, h2⟩ := h.isd.pre a ha h0
 obtain ⟨m, m1, m2, m3⟩ := first_of (p := nearer E d a) ⟨u, hu, by simp only [nearer, h1, Bool.true_and, decide_eq_true_eq]; omega⟩
 exact ⟨m, m1, m2, m3, sel_head m1 m2 m3 a⟩
end Go.AM.TopZ
