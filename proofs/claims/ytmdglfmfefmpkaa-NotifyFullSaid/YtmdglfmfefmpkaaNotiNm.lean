/- Names, slots and intervals, as Check asks them. -/
import Derived.Test.YtmdglfmfefmpkaaNotiG0
import Derived.Test.YtmdglfmfefmpkaaNotiG9
import Derived.Test.YtmdglfmfefmpkaaNotiGood
namespace Go.AM.Noti
open Go Go.AM
set_option maxRecDepth 100000
theorem F84_l2_val (K : Nat) (s : Str) (hl : s.length ≤ 1000000) : ∀ (rest pre : Str) (k : Nat), s = pre ++ rest → rest.length < k →
  F84_l2 K s 33 126 (F84_c3 K) k (pre.length : Int) = some (rest.all fun b => decide (33 ≤ b.toNat) && decide (b.toNat ≤ 126))
 | [], pre, k + 1, h, _ => by rw [F84_l2, if_neg (atEnd h)]; rfl
 | b :: rest, pre, k + 1, h, hk => by
  obtain ⟨m1, m2, m3, m4⟩ := atMid h (0 : UInt8)
  obtain ⟨n1, n2⟩ := next pre b h (by omega)
  have hb : byteAt s (pre.length : Int) = (b.toNat : Int) := by
   unfold byteAt
   rw [h]; simp
  rw [F84_l2, if_pos m1, if_pos m2, if_pos m2, hb, n1, F84_l2_val K s hl rest (pre ++ [b]) k n2 (by simpa using hk)]
  by_cases c1 : (b.toNat : Int) < 33
  ·rw [if_pos (by simpa using c1)]
   simp only [List.all_cons]
   rw [decide_eq_false (by omega : ¬ 33 ≤ b.toNat)]
   rfl
  ·rw [if_neg (by simpa using c1)]
   by_cases c2 : (b.toNat : Int) > 126
   ·rw [if_pos (by simpa using c2)]
    simp only [List.all_cons]
    rw [decide_eq_false (by omega : ¬ b.toNat ≤ 126)]
    simp
   ·rw [if_neg (by simpa using c2)]
    simp only [List.all_cons]
    rw [decide_eq_true (by omega : 33 ≤ b.toNat), decide_eq_true (by omega : b.toNat ≤ 126)]
    simp
theorem F62_val (K : Nat) (s : Str) (hK : 100 < K) : F62 K s = some (isNm s) := by
 unfold F62 isNm F62_j2
 by_cases e : s = []
 ·simp [e]
 ·rw [if_pos (by simp [e])]
  by_cases h : s.length ≤ 64
  ·rw [if_pos (by simp; omega)]
   have := F84_l2_val K s (by omega) s [] K rfl (by omega)
   rw [show ((([] : Str).length : Nat) : Int) = 0 from rfl] at this
   rw [F84, this]
   simp [e, h]
  ·rw [if_neg (by simp; omega)]
   simp [h]
theorem F65_val (K : Nat) (n : Int) : F65 K n = some (decide (0 ≤ n) && decide (n ≤ 1048576)) := by
 unfold F65
 by_cases h : 0 ≤ n <;> simp [h]
theorem F66_val (K : Nat) (i : Z4) : F66 K i = some (decide (0 ≤ i.From) && decide (i.From ≤ 1048576) && decide (i.From < i.To) && decide (i.To ≤ 1048576)) := by
 unfold F66 F66_j2
 rw [F65_val, Option.bind_some]
 by_cases h1 : 0 ≤ i.From <;> by_cases h2 : i.From ≤ 1048576 <;> by_cases h3 : i.From < i.To <;> simp [h1, h2, h3]
def opt (s : Str) : Bool := s == [] || isNm s
theorem F67_val (K : Nat) (s : Str) (hK : 100 < K) : F67 K s = some (opt s) := by
 unfold F67 opt
 rw [F62_val K s hK]
 by_cases e : s = [] <;> simp [e]
theorem svcs_nm {s : Str} (h : s ∈ svcs) : isNm s = true := by
 simp only [svcs, List.mem_cons, List.not_mem_nil, or_false] at h
 rcases h with h | h | h <;> rw [h] <;> decide
theorem opt_of {s : Str} (h : s = [] ∨ isNm s = true) : opt s = true := by
 unfold opt
 rcases h with h | h <;> simp [h]
theorem before_mid {α : Type} {l pre rest : List α} {x : α} (z : α) (h : l = pre ++ x :: rest) (hp : 0 < pre.length) (hl : l.length ≤ 1000000) : ∃ y, y ∈ pre ∧ IntKind.i64.wrap ((pre.length : Int) - 1) = ((pre.length - 1 : Nat) : Int) ∧ ((0 : Int) ≤ ((pre.length - 1 : Nat) : Int) ∧ ((pre.length - 1 : Nat) : Int) < (l.length : Int)) ∧ l.getD ((pre.length - 1 : Nat) : Int).toNat z = y := by
 subst h
 have hlen : (pre ++ x :: rest).length = pre.length + (rest.length + 1) := by simp
 refine ⟨pre[pre.length - 1], List.getElem_mem _, by rw [wrapI (by omega) (by omega)]; omega, ⟨by omega, by omega⟩, ?_⟩
 rw [Int.toNat_natCast, List.getD_eq_getElem?_getD, List.getElem?_append_left (by omega), List.getElem?_eq_getElem (by omega)]
 rfl
theorem F28_val (K : Nat) (n : Int) : F28 K n = some (decide (0 ≤ n ∧ n ≤ 1048576)) := by
 unfold F28
 by_cases h : 0 ≤ n <;> simp [h]
end Go.AM.Noti
