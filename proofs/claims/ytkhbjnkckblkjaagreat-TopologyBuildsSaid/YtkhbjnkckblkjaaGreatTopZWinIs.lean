/- Winners are told by what is a member: of each identity the greatest. -/
import Derived.Test.YtkhbjnkckblkjaaGreatTopZWin
namespace Go.AM.TopZ
open Go Go.AM
theorem Zdm : ∀ {s : List Zg}, Strict cSpan s → ∀ x, x ∈ lastOf s ↔ x ∈ s ∧ ∀ y ∈ s, rf y = rf x → cSpan y x ≤ 0
 | [], _, x => by simp [lastOf]
 | a :: t, hs, x => by
  obtain ⟨h1, h2⟩ := List.pairwise_cons.1 hs
  have ih := Zdm h2 x
  have hax : ∀ y ∈ t, cSpan a y < 0 := h1
  simp only [lastOf]
  split
  ·next e =>
   rw [ih]
   cases t with
   | nil => simp at e
   | cons b t =>
    have eb : rf b = rf a := by simpa using e
    constructor
    ·rintro ⟨k1, k2⟩
     refine ⟨List.mem_cons_of_mem _ k1, fun y hy hr => ?_⟩
     rcases List.mem_cons.1 hy with rfl | hy
     ·have := hax x k1; omega
     ·exact k2 y hy hr
    ·rintro ⟨k1, k2⟩
     rcases List.mem_cons.1 k1 with rfl | k1
     ·have := k2 b (by simp) eb
      have h3 := hax b (by simp)
      have h4 := pordSpan.neg x b
      omega
     ·exact ⟨k1, fun y hy hr => k2 y (List.mem_cons_of_mem _ hy) hr⟩
  ·next e =>
   have far : ∀ y ∈ t, rf y ≠ rf a := by
    cases t with
    | nil => simp
    | cons b t =>
     intro y hy hr
     have hb : ¬ rf b = rf a := by simpa using e
     have h3 := Z88 (hax b (by simp))
     have h4 : cRef (rf a) (rf b) < 0 := by
      have : ¬ cRef (rf a) (rf b) = 0 := fun k => hb (Zbs k).symm
      omega
     have h5 : cRef (rf b) (rf y) ≤ 0 := by
      rcases List.mem_cons.1 hy with rfl | hy
      ·rw [pordRef.refl]; omega
      ·exact Z88 ((List.pairwise_cons.1 h2).1 y hy)
     have := pordRef.ltl h4 h5
     rw [hr, pordRef.refl] at this
     omega
   rw [List.mem_cons, ih]
   constructor
   ·rintro (rfl | ⟨k1, k2⟩)
    ·refine ⟨by simp, fun y hy hr => ?_⟩
     rcases List.mem_cons.1 hy with rfl | hy
     ·rw [pordSpan.refl]; omega
     ·exact absurd hr (far y hy)
    ·refine ⟨List.mem_cons_of_mem _ k1, fun y hy hr => ?_⟩
     rcases List.mem_cons.1 hy with rfl | hy
     ·have := hax x k1; omega
     ·exact k2 y hy hr
   ·rintro ⟨k1, k2⟩
    rcases List.mem_cons.1 k1 with rfl | k1
    ·exact .inl rfl
    ·exact .inr ⟨k1, fun y hy hr => k2 y (List.mem_cons_of_mem _ hy) hr⟩
theorem Zbx {l : List Zg} {x : Zg} : x ∈ winners l ↔ x ∈ l ∧ ∀ y ∈ l, rf y = rf x → cSpan y x ≤ 0 := by
 unfold winners
 rw [Zdm (cordSpan.setOf_strict l)]
 simp only [Zbk]
theorem Z5a : ∀ l : List Zg, (lastOf l).Sublist l
 | [] => .slnil
 | x :: l => by
  simp only [lastOf]
  split
  ·exact (Z5a l).cons _
  ·exact (Z5a l).cons_cons _
theorem winners_str (l : List Zg) : Strict cSpan (winners l) := (cordSpan.setOf_strict l).sublist (Z5a _)
end Go.AM.TopZ
