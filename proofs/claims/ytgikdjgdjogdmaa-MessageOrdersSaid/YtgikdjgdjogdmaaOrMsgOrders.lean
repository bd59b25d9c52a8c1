/- Three messages: Compare is the order by the fields, antisymmetric and transitive. -/
import Derived.Test.YtgikdjgdjogdmaaOrMsgBase
import Derived.Test.YtgikdjgdjogdmaaOrMsgOk
namespace Go.AM.Msg
open Go Go.AM
theorem orders (a b c : Tapi_Message) : F3 2000 a b c = some true := by
  have hb := keyC_bound (kMsg a) (kMsg b)
  have hw : IntKind.i64.wrap (0 - cMsg a b) = cMsg b a := by
    rw [wrapI (by unfold cMsg; omega) (by unfold cMsg; omega), cMsg_neg a b]; omega
  rw [F3, F15_val _ _ _ (by omega), Option.bind_some, known_ok 1000, Option.bind_some, if_neg (by simp), F17_val _ _ _ (by omega), Option.bind_some, if_neg (by simp),
    F15_val _ _ _ (by omega), Option.bind_some, hw, if_neg (by simp), eqMsg]
  have he : ((cMsg a b == 0) != decide (a = b)) = false := by
    have := @cMsg_zero a b
    by_cases h : a = b
    · subst h; simp [this.2 rfl]
    · have h' : ¬ cMsg a b = 0 := fun e => h (this.1 e)
      simp [h, h']
  rw [he, F3_j4, if_neg (by simp)]
  split
  · rfl
  · rw [F15_val _ _ _ (by omega), Option.bind_some]
    split
    · rfl
    · next h1 h2 =>
      rw [F15_val _ _ _ (by omega), Option.bind_some, F3_j6]
      have := @cMsg_trans a b c
      simp only [decide_eq_true_eq] at h1 h2
      simp [this (by omega) (by omega)]
theorem pureOrders (a b c : Tapi_Message) (_ : ok25 a) (_ : ok25 b) (_ : ok25 c) : ∃ K, F3 K a b c = some true := ⟨2000, orders a b c⟩
end Go.AM.Msg
