/- Set of messages: sorted, each once. -/
import Derived.Test.YtgikdjgdjogdmaaMsgG0
import Derived.Test.YtgikdjgdjogdmaaMsgCmp
import Derived.Test.YtgikdjgdjogdmaaPureSet
namespace Go.AM.Msg
open Go Go.AM
theorem cordMsg : COrd cMsg := ⟨cMsg_neg, fun _ _ => cMsg_zero, cMsg_ltrans⟩
theorem set_mid {α : Type} (A mid : List α) (x : α) (rest : List α) (y : α) : (A ++ mid ++ x :: rest).set A.length y = A ++ [y] ++ (mid ++ [x]).tail ++ rest := by
  cases mid with
  | nil => simp
  | cons m mid => simp
end Go.AM.Msg
