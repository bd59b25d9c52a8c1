/- The reference compares messages likewise. -/
import Derived.Test.YtgikdjgdjogdmaaMsgCAll
import Derived.Test.YtgikdjgdjogdmaaMsgCCmp
namespace Go.AM.MsgC
open Go Go.AM
set_option maxRecDepth 100000
theorem F54_val (K : Nat) (a b : Int) : F54 K a b = some (sg a b) := by
 simp only [F54, sg, decide_eq_true_eq, gt_iff_lt]
 split
 ·rfl
 ·split <;> rfl
theorem Zc0 (K : Nat) (v2 v4 v6 v8 v10 v12 v14 v16 : Int) (c : Option Int) : ∀ (k : Nat) (i : Int), Z92 K v2 v4 v6 v8 v10 v12 v14 v16 c k i = Z84 K [v2, v4, v6, v8, v10, v12, v14, v16] c k i
 | 0, _ => rfl
 | k + 1, i => by
  rw [Z92, Z84, Zc0 K _ _ _ _ _ _ _ _ c k]
  by_cases h : (0 : Int) ≤ i ∧ i < (([v2, v4, v6, v8, v10, v12, v14, v16].length : Nat) : Int)
  ·have h' : i.toNat < [v2, v4, v6, v8, v10, v12, v14, v16].length := by have h1 := h.1; have h2 := h.2; omega
   simp only [if_pos h, if_pos h']
  ·simp only [if_neg h]
theorem F17_val (K : Nat) (a b : Z9) (h : 8 < K) : F17 K a b = some (cMsg a b) := by
 rw [F17, F54_val, Option.bind_some, Zb1 K _ _ (by omega), Option.bind_some, Zb1 K _ _ (by omega), Option.bind_some]
 iterate 5 rw [F54_val, Option.bind_some]
 rw [Zc0]
 have := Za9 K [sg a.Kind b.Kind, keyC (kRef a.A) (kRef b.A), keyC (kRef a.B) (kRef b.B), sg a.From b.From, sg a.To b.To, sg a.Sent b.Sent, sg a.Received b.Received, sg a.Least b.Least] (Z90 K) [sg a.Kind b.Kind, keyC (kRef a.A) (kRef b.A), keyC (kRef a.B) (kRef b.B), sg a.From b.From, sg a.To b.To, sg a.Sent b.Sent, sg a.Received b.Received, sg a.Least b.Least] [] K rfl (by simpa using h) (by simp)
 simp only [List.length_nil, Int.ofNat_zero, Int.cast_ofNat_Int] at this
 rw [this, Z90, cMsg_eq]
 split
 ·next h => rw [h]
 ·rfl
end Go.AM.MsgC
