/- What the reference's check of a message returns. -/
import Derived.Test.YtgikdjgdjogdmaaMsgG11
import Derived.Test.YtgikdjgdjogdmaaPureKit
namespace Go.AM.Msg
open Go Go.AM
set_option maxRecDepth 100000
def inR (x a b : Int) : Bool := decide (a ≤ x) && decide (x ≤ b)
theorem F60_val (K : Nat) (x a b : Int) : F60 K x a b = some (inR x a b) := by
  unfold F60 inR
  simp only [ge_iff_le]
  cases decide (a ≤ x) <;> simp
def zR (r : Tapi_Ref) : Bool := (r.Trace == 0) && ((r.Id == 0) && true)
theorem zR_eq (r : Tapi_Ref) : ((r.Trace == 0) && ((r.Id == 0) && true)) = zR r := rfl
def chk (m : Tapi_Message) : Int :=
  if inR m.Kind 1 4 = false then 12 else if inR m.From 1 1048576 = false then 2 else if inR m.To 1 1048576 = false then 2
  else if inR m.Sent (Int.negSucc 1099511627775) 1099511627776 = false then 32 else if inR m.Received (Int.negSucc 1099511627775) 1099511627776 = false then 32 else if inR m.Least 0 1099511627776 = false then 32
  else if (m.Kind == 4) = true then (if zR m.A = false then 3 else if zR m.B = false then 3 else 0)
  else if (m.Least != 0) = true then 3
  else if inR m.A.Trace 1 1099511627776 = false then 2 else if inR m.A.Id 1 1099511627776 = false then 2 else if inR m.B.Trace 1 1099511627776 = false then 2 else if inR m.B.Id 1 1099511627776 = false then 2 else 0
theorem F31_l10_val (K k : Nat) (m : Tapi_Message) (c : Option Int) : F31_l10 K m c (k + 5) 0 =
    if inR m.A.Trace 1 1099511627776 = false then some 2 else if inR m.A.Id 1 1099511627776 = false then some 2 else if inR m.B.Trace 1 1099511627776 = false then some 2 else if inR m.B.Id 1 1099511627776 = false then some 2 else c := by
  have w0 : IntKind.i64.wrap (0 + 1) = 1 := by decide +kernel
  have w1 : IntKind.i64.wrap (1 + 1) = 2 := by decide +kernel
  have w2 : IntKind.i64.wrap (2 + 1) = 3 := by decide +kernel
  have w3 : IntKind.i64.wrap (3 + 1) = 4 := by decide +kernel
  simp only [F31_l10, F60_val, Option.bind_some, w0, w1, w2, w3]
  simp
theorem F31_val (K : Nat) (m : Tapi_Message) (h : 5 ≤ K) : F31 K m = some (chk m) := by
  obtain ⟨k, rfl⟩ : ∃ k, K = k + 5 := ⟨K - 5, by omega⟩
  simp only [F31, F31_j8, F31_c11, F60_val, F31_l10_val, Option.bind_some, chk, zR_eq]
  cases inR m.Kind 1 4 <;> simp only [Bool.not_true, Bool.not_false, if_true, if_false, Bool.false_eq_true, Bool.true_eq_false]
  cases inR m.From 1 1048576 <;> simp only [Bool.not_true, Bool.not_false, if_true, if_false, Bool.false_eq_true, Bool.true_eq_false]
  cases inR m.To 1 1048576 <;> simp only [Bool.not_true, Bool.not_false, if_true, if_false, Bool.false_eq_true, Bool.true_eq_false]
  cases inR m.Sent (Int.negSucc 1099511627775) 1099511627776 <;> simp only [Bool.not_true, Bool.not_false, if_true, if_false, Bool.false_eq_true, Bool.true_eq_false]
  cases inR m.Received (Int.negSucc 1099511627775) 1099511627776 <;> simp only [Bool.not_true, Bool.not_false, if_true, if_false, Bool.false_eq_true, Bool.true_eq_false]
  cases inR m.Least 0 1099511627776 <;> simp only [Bool.not_true, Bool.not_false, if_true, if_false, Bool.false_eq_true, Bool.true_eq_false]
  cases (m.Kind == 4) <;> simp only [Bool.not_true, Bool.not_false, if_true, if_false, Bool.false_eq_true, Bool.true_eq_false]
  · cases (m.Least != 0) <;> simp only [Bool.not_true, Bool.not_false, if_true, if_false, Bool.false_eq_true, Bool.true_eq_false]
    cases inR m.A.Trace 1 1099511627776 <;> simp only [Bool.not_true, Bool.not_false, if_true, if_false, Bool.false_eq_true, Bool.true_eq_false, Option.bind_some]
    cases inR m.A.Id 1 1099511627776 <;> simp only [Bool.not_true, Bool.not_false, if_true, if_false, Bool.false_eq_true, Bool.true_eq_false, Option.bind_some]
    cases inR m.B.Trace 1 1099511627776 <;> simp only [Bool.not_true, Bool.not_false, if_true, if_false, Bool.false_eq_true, Bool.true_eq_false, Option.bind_some]
    cases inR m.B.Id 1 1099511627776 <;> simp only [Bool.not_true, Bool.not_false, if_true, if_false, Bool.false_eq_true, Bool.true_eq_false, Option.bind_some]
  · rcases Bool.eq_false_or_eq_true (zR m.A) with e | e <;> rcases Bool.eq_false_or_eq_true (zR m.B) with e' | e' <;> simp [e, e']
end Go.AM.Msg
