/- Winners are told by what is a member: of each identity the greatest. -/
import Derived.Test.YtgikdjgdjogdmaaMsgWin
namespace Go.AM.Msg
open Go Go.AM
theorem lastOf_mem : ∀ {s : List Zd}, Strict cSpan s → ∀ x, x ∈ lastOf s ↔ x ∈ s ∧ ∀ y ∈ s, rf y = rf x → cSpan y x ≤ 0
  | [], _, x => by simp [lastOf]
  | a :: t, hs, x => by
    obtain ⟨h1, h2⟩ := List.pairwise_cons.1 hs
    have ih := lastOf_mem h2 x
    have hax : ∀ y ∈ t, cSpan a y < 0 := h1
    simp only [lastOf]
    split
    · next e =>
      rw [ih]
      cases t with
      | nil => simp at e
      | cons b t =>
        have eb : rf b = rf a := by simpa using e
        constructor
        · rintro ⟨k1, k2⟩
          refine ⟨List.mem_cons_of_mem _ k1, fun y hy hr => ?_⟩
          rcases List.mem_cons.1 hy with rfl | hy
          · have := hax x k1; omega
          · exact k2 y hy hr
        · rintro ⟨k1, k2⟩
          rcases List.mem_cons.1 k1 with rfl | k1
          · have := k2 b (by simp) eb
            have h3 := hax b (by simp)
            have h4 := pordSpan.neg x b
            omega
          · exact ⟨k1, fun y hy hr => k2 y (List.mem_cons_of_mem _ hy) hr⟩
    · next e =>
      have far : ∀ y ∈ t, rf y ≠ rf a := by
        cases t with
        | nil => simp
        | cons b t =>
          intro y hy hr
          have hb : ¬ rf b = rf a := by simpa using e
          have h3 := cSpan_ref (hax b (by simp))
          have h4 : cRef (rf a) (rf b) < 0 := by
            have : ¬ cRef (rf a) (rf b) = 0 := fun k => hb (cRef_zero k).symm
            omega
          have h5 : cRef (rf b) (rf y) ≤ 0 := by
            rcases List.mem_cons.1 hy with rfl | hy
            · rw [pordRef.refl]; omega
            · exact cSpan_ref ((List.pairwise_cons.1 h2).1 y hy)
          have := pordRef.ltl h4 h5
          rw [hr, pordRef.refl] at this
          omega
      rw [List.mem_cons, ih]
      constructor
      · rintro (rfl | ⟨k1, k2⟩)
        · refine ⟨by simp, fun y hy hr => ?_⟩
          rcases List.mem_cons.1 hy with rfl | hy
          · rw [pordSpan.refl]; omega
          · exact absurd hr (far y hy)
        · refine ⟨List.mem_cons_of_mem _ k1, fun y hy hr => ?_⟩
          rcases List.mem_cons.1 hy with rfl | hy
          · have := hax x k1; omega
          · exact k2 y hy hr
      · rintro ⟨k1, k2⟩
        rcases List.mem_cons.1 k1 with rfl | k1
        · exact .inl rfl
        · exact .inr ⟨k1, fun y hy hr => k2 y (List.mem_cons_of_mem _ hy) hr⟩
theorem winners_mem {l : List Zd} {x : Zd} : x ∈ winners l ↔ x ∈ l ∧ ∀ y ∈ l, rf y = rf x → cSpan y x ≤ 0 := by
  unfold winners
  rw [lastOf_mem (cordSpan.setOf_strict l)]
  simp only [setOf_mem]
theorem lastOf_sublist : ∀ l : List Zd, (lastOf l).Sublist l
  | [] => .slnil
  | x :: l => by
    simp only [lastOf]
    split
    · exact (lastOf_sublist l).cons _
    · exact (lastOf_sublist l).cons_cons _
theorem winners_str (l : List Zd) : Strict cSpan (winners l) := (cordSpan.setOf_strict l).sublist (lastOf_sublist _)
theorem winners_ext {l l' : List Zd} (h : ∀ x, x ∈ winners l ↔ x ∈ winners l') : winners l = winners l' := strict_unique cordSpan (winners_str l) (winners_str l') h
theorem winners_idem (l : List Zd) : winners (winners l) = winners l := by
  refine winners_ext fun x => ?_
  rw [winners_mem]
  constructor
  · exact fun h => h.1
  · exact fun h => ⟨h, fun y hy hr => (winners_mem.1 h).2 y (winners_sub hy) hr⟩
theorem winners_more {l r : List Zd} (hl : ∀ x ∈ l, x ∈ r) (hr : ∀ y ∈ r, ∃ x ∈ l, rf x = rf y ∧ cSpan y x ≤ 0) : winners r = winners l := by
  refine winners_ext fun x => ?_
  rw [winners_mem, winners_mem]
  constructor
  · rintro ⟨h1, h2⟩
    obtain ⟨z, z1, z2, z3⟩ := hr x h1
    have h3 := h2 z (hl z z1) z2
    have h4 := pordSpan.neg x z
    have : x = z := (cordSpan.zero x z).1 (by omega)
    subst this
    exact ⟨z1, fun y hy he => h2 y (hl y hy) he⟩
  · rintro ⟨h1, h2⟩
    refine ⟨hl x h1, fun y hy he => ?_⟩
    obtain ⟨z, z1, z2, z3⟩ := hr y hy
    exact pordSpan.trans z3 (h2 z z1 (z2.trans he))
end Go.AM.Msg
