/- What Check of a message returns. -/
import Derived.Test.YtgikdjgdjogdmaaMsgG13
import Derived.Test.YtgikdjgdjogdmaaMsgChkR
namespace Go.AM.Msg
open Go Go.AM
set_option maxRecDepth 100000
theorem F68_val (K : Nat) (x a b : Int) : F68 K x a b = some (inR x a b) := by
  unfold F68 inR
  cases decide (a ≤ x) <;> simp
theorem F42_val (K : Nat) (m : Zb) : F42 K m = some (chk m) := by
  simp only [F42, F42_j8, F42_j10, F42_j12, F69, F68_val, Option.bind_some, chk, zR_eq]
  cases inR m.Kind 1 4 <;> simp only [Bool.not_true, Bool.not_false, if_true, if_false, Bool.false_eq_true, Bool.true_eq_false]
  cases inR m.From 1 1048576 <;> simp only [Bool.not_true, Bool.not_false, if_true, if_false, Bool.false_eq_true, Bool.true_eq_false]
  cases inR m.To 1 1048576 <;> simp only [Bool.not_true, Bool.not_false, if_true, if_false, Bool.false_eq_true, Bool.true_eq_false]
  cases inR m.Sent (Int.negSucc 1099511627775) 1099511627776 <;> simp only [Bool.not_true, Bool.not_false, if_true, if_false, Bool.false_eq_true, Bool.true_eq_false]
  cases inR m.Received (Int.negSucc 1099511627775) 1099511627776 <;> simp only [Bool.not_true, Bool.not_false, if_true, if_false, Bool.false_eq_true, Bool.true_eq_false]
  cases inR m.Least 0 1099511627776 <;> simp only [Bool.not_true, Bool.not_false, if_true, if_false, Bool.false_eq_true, Bool.true_eq_false]
  cases (m.Kind == 4) <;> simp only [Bool.not_true, Bool.not_false, if_true, if_false, Bool.false_eq_true, Bool.true_eq_false]
  · cases (m.Least != 0) <;> simp only [Bool.not_true, Bool.not_false, if_true, if_false, Bool.false_eq_true, Bool.true_eq_false]
    cases inR m.A.Trace 1 1099511627776 <;> simp only [Bool.not_true, Bool.not_false, if_true, if_false, Bool.false_eq_true, Bool.true_eq_false, Option.bind_some]
    cases inR m.A.Id 1 1099511627776 <;> simp only [Bool.not_true, Bool.not_false, if_true, if_false, Bool.false_eq_true, Bool.true_eq_false, Option.bind_some]
    cases inR m.B.Trace 1 1099511627776 <;> simp only [Bool.not_true, Bool.not_false, if_true, if_false, Bool.false_eq_true, Bool.true_eq_false, Option.bind_some]
    cases inR m.B.Id 1 1099511627776 <;> simp only [Bool.not_true, Bool.not_false, if_true, if_false, Bool.false_eq_true, Bool.true_eq_false, Option.bind_some]
  · rcases Bool.eq_false_or_eq_true (zR m.A) with e | e <;> rcases Bool.eq_false_or_eq_true (zR m.B) with e' | e' <;> simp [e, e']
end Go.AM.Msg
