/- Merge sums what two service graphs hold; windows of traces. -/
import Derived.Test.YtkhbjnkckblkjaaGreatTopZG0
import Derived.Test.YtkhbjnkckblkjaaGreatTopZG2
import Derived.Test.YtkhbjnkckblkjaaGreatTopZG3
import Derived.Test.YtkhbjnkckblkjaaGreatTopZBuilds
namespace Go.AM.TopZ
open Go Go.AM
theorem F90_val (K : Nat) {a : List Z1q} (h : a.length ≤ 1000) : F90 K a = some a := by rw [F90, if_pos (by simp; omega)]
theorem F91_val (K : Nat) {a : List Tapi_Ref} (h : a.length ≤ 1000) : F91 K a = some a := by rw [F91, if_pos (by simp; omega)]
theorem F45_val (K : Nat) (hK : 1000 < K) {l : List Zg} (hl : l.length ≤ 30) (hs : ∀ s ∈ l, Small s) : F45 K l = some l := by
 rw [F45, F89, if_pos (by simp; omega), Option.bind_some]
 refine (forLoopF (fun k i s => F45_l5 K l (F45_c7 K) k i s) (F45_c7 K) l.length (fun _ => l) K l rfl (by omega) ?_ ?_).trans (by rw [F45_c7])
 ·intro k i hi
  have w : IntKind.i64.wrap ((i : Int) + 1) = ((i + 1 : Nat) : Int) := wrapS (by omega)
  have hgi : l.getD i Z2 = l[i] := by simp [List.getD, hi]
  have hm : l.getD i Z2 ∈ l := by rw [hgi]; exact List.getElem_mem hi
  have hset : l.set i (l.getD i Z2) = l := by rw [hgi]; simp
  obtain ⟨s1, s2⟩ := hs _ hm
  generalize hx : l.getD i Z2 = x at hset s1 s2
  obtain ⟨x1, x2, x3, x4, x5, x6, x7, x8, x9, x10, x11, x12, x13, x14⟩ := x
  have c1 : (decide ((i : Int) < (l.length : Int)) = true) = True := eq_true (by simpa using hi)
  have c2 : ((0 : Int) ≤ (i : Int) ∧ (i : Int) < ((l.length : Nat) : Int)) = True := eq_true (by omega)
  have c3 : (i < l.length) = True := eq_true hi
  simp only [F45_l5, Int.toNat_natCast, hx, F90_val K s1, F91_val K s2, Option.bind_some, hset, c1, c2, c3, if_true, w]
 ·intro k
  rw [F45_l5, if_neg (by simp)]
def slotOf (t : Zo) : Int := t.Id / 1048576
theorem F16_val (K : Nat) {n : Int} (_ : 0 ≤ n) : F16 K n = some (n / 1048576) := by
 have e : (2 : Int) ^ (min (20 : Int).toNat IntKind.i64.bits) = 1048576 := by decide
 rw [F16, if_pos (by omega), e, Int.fdiv_eq_ediv_of_nonneg _ (by omega)]
theorem F14_val (K : Nat) (hK : 1000 < K) {l : List Zo} (hl : l.length ≤ 20) (hg : ∀ t ∈ l, t.Spans.length ≤ 30 ∧ (∀ s ∈ t.Spans, Small s) ∧ 0 ≤ t.Id) (f t : Int) : F14 K l ⟨f, t⟩ = some (l.filter fun x => decide (f ≤ slotOf x ∧ slotOf x < t)) := by
 have all : ∀ (rest pre : List Zo) (k : Nat), l = pre ++ rest → rest.length < k → F14_l3 K l ⟨f, t⟩ (F14_c5 K) k (pre.length : Int) (pre.filter fun x => decide (f ≤ slotOf x ∧ slotOf x < t)) = some (l.filter fun x => decide (f ≤ slotOf x ∧ slotOf x < t)) := by
  intro rest
  induction rest with
  | nil =>
   intro pre k h hk
   obtain ⟨k, rfl⟩ : ∃ q, k = q + 1 := ⟨k - 1, by omega⟩
   rw [F14_l3, if_neg (atEnd h), F14_c5, h, List.append_nil]
  | cons x rest ih =>
   intro pre k h hk
   obtain ⟨k, rfl⟩ : ∃ q, k = q + 1 := ⟨k - 1, by omega⟩
   obtain ⟨m1, m2, m3, m4⟩ := atMid h Zq
   obtain ⟨n1, n2⟩ := next pre x h (by omega)
   obtain ⟨g1, g2, g3⟩ := hg x (by rw [h]; simp)
   have ih' := ih (pre ++ [x]) k n2 (by simpa using hk)
   have hfl : (pre.filter fun x => decide (f ≤ slotOf x ∧ slotOf x < t)).length ≤ pre.length := List.length_filter_le _ _
   have hpl : l.length = pre.length + rest.length + 1 := by rw [h]; simp; omega
   rw [List.filter_append, List.filter_cons, List.filter_nil] at ih'
   rw [F14_l3, if_pos m1, if_pos m2]
   simp only [m3, F16_val K g3, Option.bind_some, F45_val K hK g1 g2, F14_j14, F14_j9, n1]
   have es : x.Id / 1048576 = slotOf x := rfl
   rw [es]
   by_cases c1 : f ≤ slotOf x
   ·rw [if_pos (by simpa using c1)]
    by_cases c2 : slotOf x < t
    ·rw [if_pos (by simp [c1, c2])] at ih'
     rw [if_pos (by simpa using c2), if_pos (by simp only [List.length_cons, List.length_nil]; omega)]
     exact ih'
    ·rw [if_neg (by simp [c2])] at ih'
     rw [if_neg (by simpa using c2)]
     simpa using ih'
   ·rw [if_neg (by simp [c1])] at ih'
    rw [if_neg (by simpa using c1)]
    simpa using ih'
 exact all l [] K rfl (by omega)
theorem F15_val (K : Nat) (hK : 1000 < K) {l : List Zo} (hl : l.length ≤ 20) (hg : ∀ t ∈ l, 0 ≤ t.Id) (f t : Int) : F15 K l f t = some (l.filter fun x => decide (f ≤ slotOf x ∧ slotOf x < t)) := by
 have all : ∀ (rest pre : List Zo) (k : Nat), l = pre ++ rest → rest.length < k → F15_l3 K l f t (F15_c5 K) k (pre.length : Int) (pre.filter fun x => decide (f ≤ slotOf x ∧ slotOf x < t)) = some (l.filter fun x => decide (f ≤ slotOf x ∧ slotOf x < t)) := by
  intro rest
  induction rest with
  | nil =>
   intro pre k h hk
   obtain ⟨k, rfl⟩ : ∃ q, k = q + 1 := ⟨k - 1, by omega⟩
   rw [F15_l3, if_neg (atEnd h), F15_c5, h, List.append_nil]
  | cons x rest ih =>
   intro pre k h hk
   obtain ⟨k, rfl⟩ : ∃ q, k = q + 1 := ⟨k - 1, by omega⟩
   obtain ⟨m1, m2, m3, m4⟩ := atMid h Zq
   obtain ⟨n1, n2⟩ := next pre x h (by omega)
   have g3 := hg x (by rw [h]; simp)
   have ih' := ih (pre ++ [x]) k n2 (by simpa using hk)
   have hfl : (pre.filter fun x => decide (f ≤ slotOf x ∧ slotOf x < t)).length ≤ pre.length := List.length_filter_le _ _
   have hpl : l.length = pre.length + rest.length + 1 := by rw [h]; simp; omega
   rw [List.filter_append, List.filter_cons, List.filter_nil] at ih'
   rw [F15_l3, if_pos m1, if_pos m2]
   simp only [m3, F16_val K g3, Option.bind_some, F15_j14, F15_j9, n1]
   have es : x.Id / 1048576 = slotOf x := rfl
   rw [es]
   by_cases c1 : f ≤ slotOf x
   ·rw [if_pos (by simpa using c1)]
    by_cases c2 : slotOf x < t
    ·rw [if_pos (by simp [c1, c2])] at ih'
     rw [if_pos (by simpa using c2), if_pos m2, if_pos (by simp only [List.length_cons, List.length_nil]; omega)]
     exact ih'
    ·rw [if_neg (by simp [c2])] at ih'
     rw [if_neg (by simpa using c2)]
     simpa using ih'
   ·rw [if_neg (by simp [c1])] at ih'
    rw [if_neg (by simpa using c1)]
    simpa using ih'
 exact all l [] K rfl (by omega)
end Go.AM.TopZ
