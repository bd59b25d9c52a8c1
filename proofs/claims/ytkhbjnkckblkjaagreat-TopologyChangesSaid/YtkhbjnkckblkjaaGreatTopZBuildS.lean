/- The traces of a story, with weights. -/
import Derived.Test.YtkhbjnkckblkjaaGreatTopZBuildM
import Derived.Test.YtkhbjnkckblkjaaGreatTopZBuildL
import Derived.Test.YtkhbjnkckblkjaaGreatTopZTraces
namespace Go.AM.TopZ
open Go Go.AM
theorem starts_ge (t : Z12) : ∀ n i, i < n → (starts t n).getD i 0 ≤ (ends0 t n).getD i 0
 | 0, i, h => by omega
 | n + 1, i, h => by
  have l1 := starts_len t n
  have l2 := ends0_len t n
  by_cases e : i = n
  ·subst e
   have a1 : (starts t (i + 1)).getD i 0 = startAt t i (starts t i) := by
    rw [starts]
    conv => lhs; arg 2; rw [← l1]
    exact getMid _ _ _
   have a2 : (ends0 t (i + 1)).getD i 0 = startAt t i (starts t i) + (callOf t i).Long % 32 := by
    rw [ends0]
    conv => lhs; arg 2; rw [← l2]
    exact getMid _ _ _
   rw [a1, a2]; omega
  ·have hi : i < n := by omega
   have ih := starts_ge t n i hi
   have a1 : (starts t (n + 1)).getD i 0 = (starts t n).getD i 0 := by
    rw [starts]
    simp [List.getD, List.getElem?_append, l1, hi]
   have a2 : (ends0 t (n + 1)).getD i 0 = (ends0 t n).getD i 0 := by
    rw [ends0]
    simp [List.getD, List.getElem?_append, l2, hi]
   rw [a1, a2]; exact ih
theorem endStep_ge (t : Z12) (i j : Nat) (e : List Int) : e.getD j 0 ≤ (endStep t i e).getD j 0 := by
 unfold endStep
 split
 ·by_cases h : parOf t i = j
  ·subst h
   by_cases hl : parOf t i < e.length
   ·have : (e.set (parOf t i) (mx (e.getD (parOf t i) 0) (e.getD i 0))).getD (parOf t i) 0 = mx (e.getD (parOf t i) 0) (e.getD i 0) := by
     simp [List.getD, hl]
    rw [this]
    unfold mx; split <;> omega
   ·simp [List.getD, hl]
  ·simp [List.getD, List.getElem?_set_ne h]
 ·exact Int.le_refl _
theorem endsDown_ge (t : Z12) (j : Nat) : ∀ (i : Nat) (e : List Int), e.getD j 0 ≤ (endsDown t i e).getD j 0
 | 0, _e => Int.le_refl _
 | i + 1, e => Int.le_trans (endStep_ge t (i + 1) j e) (endsDown_ge t j i _)
theorem ends_ge (t : Z12) {i : Nat} (hi : i < t.Calls.length) : (startsOf t).getD i 0 ≤ (endsOf t).getD i 0 :=
 Int.le_trans (starts_ge t _ i hi) (endsDown_ge t i _ _)
theorem ids_nodup {l : List Zg} {c : Int} (h : ∀ a ∈ l, a.Trace = c) : ((winners l).map (·.Id)).Nodup := by
 unfold List.Nodup
 rw [List.pairwise_map]
 refine (winners_strict l).imp_of_mem fun {a b} ha hb hab e => ?_
 have e1 := h a (winners_sub ha)
 have e2 := h b (winners_sub hb)
 have : rf a = rf b := by unfold rf; rw [e1, e2, e]
 rw [this, pordRef.refl] at hab
 omega
theorem linksOf_len (s : Zy) (k i : Nat) : (linksOf s k i).length ≤ 1 := by
 unfold linksOf; split <;> simp
theorem small_at (s : Zy) (k i : Nat) : Small (spanAt s k i) := by
 have h1 := attrsOf_len (callOf (treeOf s k) i)
 have h2 := linksOf_len s k i
 constructor
 ·show (attrsOf (callOf (treeOf s k) i)).length ≤ 1000; omega
 ·show (linksOf s k i).length ≤ 1000; omega
theorem dur_at {s : Zy} (h : ok27 s) (hs : Sh s) {k i : Nat} (hk : k < s.Trees.length) (hi : i < (treeOf s k).Calls.length) : 0 ≤ (spanAt s k i).End - (spanAt s k i).Start ∧ (spanAt s k i).End - (spanAt s k i).Start ≤ 1000000 := by
 have ht : ok105 (treeOf s k) := okTree h hk
 have hn := hs.2.2 k hk
 have h1 := ends_ge (treeOf s k) hi
 have h2 := endOf_bound ht (by omega) i
 have h3 := startOf_bound ht (by omega) i
 have e : (spanAt s k i).End - (spanAt s k i).Start = (endsOf (treeOf s k)).getD i 0 - (startsOf (treeOf s k)).getD i 0 := by
  show (endsOf (treeOf s k)).getD i 0 + byOf s k i - ((startsOf (treeOf s k)).getD i 0 + byOf s k i) = _
  omega
 rw [e]; omega
theorem mem_trace {s : Zy} {k : Nat} {x : Zg} : x ∈ traceOf s k ↔ ∃ i, i < (treeOf s k).Calls.length ∧ x = spanAt s k i := by
 unfold traceOf
 rw [List.mem_map]
 constructor
 ·rintro ⟨i, h1, h2⟩; exact ⟨i, List.mem_range.1 h1, h2.symm⟩
 ·rintro ⟨i, h1, h2⟩; exact ⟨i, List.mem_range.2 h1, h2.symm⟩
theorem gt_story {s : Zy} (h : ok27 s) (hs : Sh s) {k : Nat} (hk : k < s.Trees.length) {t : Zo} (e : t.Spans = traceOf s k) (hw : 1 ≤ t.Weight ∧ t.Weight ≤ 8) : Gt t := by
 have hn := hs.2.2 k hk
 have hlen : t.Spans.length ≤ 8 := by rw [e]; simp [traceOf]; omega
 refine ⟨by omega, fun x hx => ?_, ?_, by have := winners_len t.Spans; omega, fun x hx => ?_, hw⟩
 ·rw [e] at hx
  obtain ⟨i, _, rfl⟩ := mem_trace.1 hx
  exact small_at s k i
 ·refine ids_nodup (c := tidOf s k) fun a ha => ?_
  rw [e] at ha
  obtain ⟨i, _, rfl⟩ := mem_trace.1 ha
  rfl
 ·have := winners_sub hx
  rw [e] at this
  obtain ⟨i, hi, rfl⟩ := mem_trace.1 this
  exact dur_at h hs hk hi
end Go.AM.TopZ
