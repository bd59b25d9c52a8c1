/- The traces of a story, with weights. -/
import Derived.Test.YtkhbjnkckblkjaaGreatTopZBuildM
import Derived.Test.YtkhbjnkckblkjaaGreatTopZBuildL
import Derived.Test.YtkhbjnkckblkjaaGreatTopZTraces
namespace Go.AM.TopZ
open Go Go.AM
theorem starts_ge (t : Z15) : ∀ n i, i < n → (starts t n).getD i 0 ≤ (Z62 t n).getD i 0
 | 0, i, h => by omega
 | n + 1, i, h => by
  have l1 := Z41 t n
  have l2 := Z6z t n
  by_cases e : i = n
  ·subst e
   have a1 : (starts t (i + 1)).getD i 0 = startAt t i (starts t i) := by
    rw [starts]
    conv => lhs; arg 2; rw [← l1]
    exact getMid _ _ _
   have a2 : (Z62 t (i + 1)).getD i 0 = startAt t i (starts t i) + (callOf t i).Long % 32 := by
    rw [Z62]
    conv => lhs; arg 2; rw [← l2]
    exact getMid _ _ _
   rw [a1, a2]; omega
  ·have hi : i < n := by omega
   have ih := starts_ge t n i hi
   have a1 : (starts t (n + 1)).getD i 0 = (starts t n).getD i 0 := by
    rw [starts]
    simp [List.getD, List.getElem?_append, l1, hi]
   have a2 : (Z62 t (n + 1)).getD i 0 = (Z62 t n).getD i 0 := by
    rw [Z62]
    simp [List.getD, List.getElem?_append, l2, hi]
   rw [a1, a2]; exact ih
theorem endStep_ge (t : Z15) (i j : Nat) (e : List Int) : e.getD j 0 ≤ (endStep t i e).getD j 0 := by
 unfold endStep
 split
 ·by_cases h : parOf t i = j
  ·subst h
   by_cases hl : parOf t i < e.length
   ·have : (e.set (parOf t i) (mx (e.getD (parOf t i) 0) (e.getD i 0))).getD (parOf t i) 0 = mx (e.getD (parOf t i) 0) (e.getD i 0) := by
     simp [List.getD, hl]
    rw [this]
    unfold mx; split <;> omega
   ·simp [List.getD, hl]
  ·simp [List.getD, List.getElem?_set_ne h]
 ·exact Int.le_refl _
theorem Zby (t : Z15) (j : Nat) : ∀ (i : Nat) (e : List Int), e.getD j 0 ≤ (endsDown t i e).getD j 0
 | 0, e => Int.le_refl _
 | i + 1, e => Int.le_trans (endStep_ge t (i + 1) j e) (Zby t j i _)
theorem ends_ge (t : Z15) {i : Nat} (hi : i < t.Calls.length) : (startsOf t).getD i 0 ≤ (endsOf t).getD i 0 :=
 Int.le_trans (starts_ge t _ i hi) (Zby t i _ _)
theorem ids_nodup {l : List Zh} {c : Int} (h : ∀ a ∈ l, a.Trace = c) : ((winners l).map (·.Id)).Nodup := by
 unfold List.Nodup
 rw [List.pairwise_map]
 refine (Zcj l).imp_of_mem fun {a b} ha hb hab e => ?_
 have e1 := h a (Z81 ha)
 have e2 := h b (Z81 hb)
 have : rf a = rf b := by unfold rf; rw [e1, e2, e]
 rw [this, pordRef.refl] at hab
 omega
theorem linksOf_len (s : Zy) (k i : Nat) : (linksOf s k i).length ≤ 1 := by
 unfold linksOf; split <;> simp
theorem small_at (s : Zy) (k i : Nat) : Small (spanAt s k i) := by
 have h1 := attrsOf_len (callOf (treeOf s k) i)
 have h2 := linksOf_len s k i
 constructor
 ·show (attrsOf (callOf (treeOf s k) i)).length ≤ 1000; omega
 ·show (linksOf s k i).length ≤ 1000; omega
theorem dur_at {s : Zy} (h : ok27 s) (hs : Sh s) {k i : Nat} (hk : k < s.Trees.length) (hi : i < (treeOf s k).Calls.length) : 0 ≤ (spanAt s k i).End - (spanAt s k i).Start ∧ (spanAt s k i).End - (spanAt s k i).Start ≤ 1000000 := by
 have ht : Z8l (treeOf s k) := okTree h hk
 have hn := hs.2.2 k hk
 have h1 := ends_ge (treeOf s k) hi
 have h2 := Zav ht (by omega) i
 have h3 := Z8m ht (by omega) i
 have e : (spanAt s k i).End - (spanAt s k i).Start = (endsOf (treeOf s k)).getD i 0 - (startsOf (treeOf s k)).getD i 0 := by
  show (endsOf (treeOf s k)).getD i 0 + byOf s k i - ((startsOf (treeOf s k)).getD i 0 + byOf s k i) = _
  omega
 rw [e]; omega
theorem Zbe {s : Zy} {k : Nat} {x : Zh} : x ∈ traceOf s k ↔ ∃ i, i < (treeOf s k).Calls.length ∧ x = spanAt s k i := by
 unfold traceOf
 rw [List.mem_map]
 constructor
 ·rintro ⟨i, h1, h2⟩; exact ⟨i, List.mem_range.1 h1, h2.symm⟩
 ·rintro ⟨i, h1, h2⟩; exact ⟨i, List.mem_range.2 h1, h2.symm⟩
theorem gt_story {s : Zy} (h : ok27 s) (hs : Sh s) {k : Nat} (hk : k < s.Trees.length) {t : Zt} (e : t.Spans = traceOf s k) (hw : 1 ≤ t.Weight ∧ t.Weight ≤ 8) : Gt t := by
 have hn := hs.2.2 k hk
 have hlen : t.Spans.length ≤ 8 := by rw [e]; simp [traceOf]; omega
 refine ⟨by omega, fun x hx => ?_, ?_, by have := winners_len t.Spans; omega, fun x hx => ?_, hw⟩
 ·rw [e] at hx
  obtain ⟨i, _, rfl⟩ := Zbe.1 hx
  exact small_at s k i
 ·refine ids_nodup (c := tidOf s k) fun a ha => ?_
  rw [e] at ha
  obtain ⟨i, _, rfl⟩ := Zbe.1 ha
  rfl
 ·have := Z81 hx
  rw [e] at this
  obtain ⟨i, hi, rfl⟩ := Zbe.1 this
  exact dur_at h hs hk hi
def wOf (w : Z3p) (i : Nat) : Int := 1 + [w.e0, w.e1, w.e2].getD (i % 3) 0 % 8
def weigh (w : Z3p) (l : List Zt) : List Zt := mk l.length fun i => ⟨(l.getD i Z9).Id, wOf w i, (l.getD i Z9).Spans⟩
theorem wOf_bound (w : Z3p) (i : Nat) : 1 ≤ wOf w i ∧ wOf w i ≤ 8 := by
 unfold wOf; omega
theorem wOf_code {w : Z3p} (hw : ok28 w) {i : Nat} (_ : i ≤ 100) : IntKind.i64.wrap (1 + IntKind.i64.wrap (([w.e0, w.e1, w.e2] : List Int).getD ((i : Int).tmod 3).toNat 0 |>.tmod 8)) = wOf w i := by
 have e : ((i : Int).tmod 3).toNat = i % 3 := by rw [Int.tmod_eq_emod_of_nonneg (by omega)]; omega
 have b : 0 ≤ ([w.e0, w.e1, w.e2] : List Int).getD (i % 3) 0 ∧ ([w.e0, w.e1, w.e2] : List Int).getD (i % 3) 0 ≤ 255 := by
  have h3 : i % 3 < 3 := Nat.mod_lt _ (by omega)
  have h0 := (bounds_u8 hw.1 : 0 ≤ w.e0 ∧ w.e0 ≤ 255)
  have h1 := (bounds_u8 hw.2.1 : 0 ≤ w.e1 ∧ w.e1 ≤ 255)
  have h2 := (bounds_u8 hw.2.2.1 : 0 ≤ w.e2 ∧ w.e2 ≤ 255)
  generalize i % 3 = j at h3
  match j, h3 with
  | 0, _ => exact h0
  | 1, _ => exact h1
  | 2, _ => exact h2
 rw [e, Int.tmod_eq_emod_of_nonneg b.1]
 unfold wOf
 rw [wrapI (n := ([w.e0, w.e1, w.e2] : List Int).getD (i % 3) 0 % 8) (by omega) (by omega), wrapI (by omega) (by omega)]
theorem F13_val (K : Nat) (hK : 3000 < K) {s : Zy} (h : ok27 s) (hs : Sh s) {w : Z3p} (hw : ok28 w) : F13 K s w = some (weigh w (tracesOf s)) := by
 rw [F13, F39_val K h hs (by omega), Option.bind_some]
 have hl : (tracesOf s).length ≤ 3 := Nat.le_trans (Z4z s _) hs.1
 generalize tracesOf s = l at hl
 refine Eq.trans (forLoopF (Zb9 K w (Zax K)) (Zax K) l.length (fun i => mk l.length fun j => if j < i then ⟨(l.getD j Z9).Id, wOf w j, (l.getD j Z9).Spans⟩ else l.getD j Z9) K l ?_ (by omega) ?_ ?_) ?_
 ·conv => lhs; rw [list_mk l Z9]
  exact mk_ext fun i _ => by simp
 ·intro k i hi
  have wr : IntKind.i64.wrap ((i : Int) + 1) = ((i + 1 : Nat) : Int) := wrapS (by omega)
  have hm : (0 : Int) ≤ (i : Int).tmod 3 ∧ (i : Int).tmod 3 < ((3 : Nat) : Int) := by
   rw [Int.tmod_eq_emod_of_nonneg (by omega)]; omega
  rw [Zb9, if_pos (by simpa using hi), if_pos hm, if_pos (by simp; omega), if_pos (by simp; omega), wr]
  have hc := wOf_code hw (i := i) (by omega)
  congr 1
  simp only [Int.toNat_natCast]
  rw [mk_get hi, if_neg (by omega), hc, mk_set]
  refine mk_ext fun j hj => ?_
  by_cases e : j = i
  ·subst e; simp
  ·by_cases e2 : j < i
   ·rw [if_neg e, if_pos e2, if_pos (by omega)]
   ·rw [if_neg e, if_neg e2, if_neg (by omega)]
 ·intro k
  rw [Zb9, if_neg (by simp)]
 ·rw [Zax]
  congr 1
  exact mk_ext fun j hj => by rw [if_pos hj]
theorem weigh_mem {s : Zy} {w : Z3p} {t : Zt} (ht : t ∈ weigh w (tracesOf s)) : ∃ k, k < s.Trees.length ∧ t.Spans = traceOf s k ∧ t.Id = tidOf s k ∧ 1 ≤ t.Weight ∧ t.Weight ≤ 8 := by
 obtain ⟨i, hi, rfl⟩ := mk_mem.1 ht
 have hm : (tracesOf s).getD i Z9 ∈ tracesOf s := by
  rw [show (tracesOf s).getD i Z9 = (tracesOf s)[i] by simp [List.getD, hi]]
  exact List.getElem_mem hi
 obtain ⟨k, k1, k2, k3⟩ := Z6b.1 hm
 refine ⟨k, k1, ?_, ?_, wOf_bound w i⟩
 ·show ((tracesOf s).getD i Z9).Spans = _
  rw [k3]
 ·show ((tracesOf s).getD i Z9).Id = _
  rw [k3]
theorem weigh_len {s : Zy} (hs : Sh s) (w : Z3p) : (weigh w (tracesOf s)).length ≤ 3 := by
 unfold weigh
 rw [mk_len]
 exact Nat.le_trans (Z4z s _) hs.1
theorem weigh_gt {s : Zy} (h : ok27 s) (hs : Sh s) (w : Z3p) : ∀ t ∈ weigh w (tracesOf s), Gt t := fun t ht => by
 obtain ⟨k, k1, k2, _, k4⟩ := weigh_mem ht
 exact gt_story h hs k1 k2 k4
end Go.AM.TopZ
