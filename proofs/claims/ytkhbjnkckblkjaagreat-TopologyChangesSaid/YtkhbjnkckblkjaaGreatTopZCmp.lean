/- The order of messages by their fields. -/
import Derived.Test.YtkhbjnkckblkjaaGreatTopZG0
import Derived.Test.YtkhbjnkckblkjaaGreatPureKit
namespace Go.AM.TopZ
open Go Go.AM
set_option maxRecDepth 100000
theorem F109_val (K : Nat) (a : Int) : F109 K a = some false := by simp [F109]
theorem F68_val (K : Nat) (a b : Int) : F68 K a b = some (sg a b) := by
 simp only [F68, F109_val, Option.bind_some, sg, decide_eq_true_eq, gt_iff_lt, Bool.false_eq_true, if_false]
 split
 ·rfl
 ·split <;> rfl
theorem F67_l2_ok (K : Nat) (a0 : List Int) (c : Option Int) : ∀ (rest pre : List Int) (k : Nat), a0 = pre ++ rest → rest.length < k → a0.length ≤ 1099511627776 →
  F67_l2 K a0 c k (pre.length : Int) = if fstNZ rest = 0 then c else some (fstNZ rest)
 | [], pre, k + 1, h, _, _ => by
  subst h
  simp [F67_l2, fstNZ]
 | x :: rest, pre, k + 1, h, hk, hl => by
  have hl' : pre.length < a0.length := by subst h; simp
  have hx : a0.getD (Int.toNat (pre.length : Int)) 0 = x := by subst h; exact getMid' _ _ _
  rw [F67_l2, if_pos (by simp; omega), if_pos (by omega), hx]
  by_cases hz : x = 0
  ·rw [if_neg (by simp [hz]), wrapS (by omega)]
   have := F67_l2_ok K a0 c rest (pre ++ [x]) k (by subst h; simp) (by simpa using hk) hl
   rw [show ((pre.length + 1 : Nat) : Int) = (((pre ++ [x]).length : Nat) : Int) by simp, this]
   simp [fstNZ, hz]
  ·rw [if_pos (by simpa using hz)]
   simp [fstNZ, hz]
theorem F67_val (K : Nat) (l : List Int) (h : l.length < K) (h' : l.length ≤ 1099511627776) : F67 K l = some (fstNZ l) := by
 have := F67_l2_ok K l (F67_c3 K) l [] K rfl h h'
 simp only [List.length_nil, Int.cast_ofNat_Int] at this
 rw [F67, this, F67_c3]
 split
 ·next h => rw [h]
 ·rfl
def kRef (r : Tapi_Ref) : List Int := [r.Trace, r.Id]
theorem F173_val (K : Nat) (a b : Tapi_Ref) (h : 2 < K) : F173 K a b = some (keyC (kRef a) (kRef b)) := by
 rw [F173, F68_val, Option.bind_some, F68_val, Option.bind_some, F67_val K _ (by simpa using h) (by simp), Option.bind_some]
 simp [fstNZ, keyC, kRef]
end Go.AM.TopZ
