/- What the arguments are known to be. -/
import Derived.Test.YtgikdjgdjogdmaaMsgT
namespace Go.AM.Msg
open Go Go.AM
def ok3 : Int → Prop := fun n : Int => (Lit.int .i64 n).wf = true
def ok23 : Zg → Prop := fun x : Zg => ok3 x.Trace ∧ ok3 x.Id ∧ True
def ok25 : Z6 → Prop := fun x : Z6 => ok3 x.Kind ∧ ok23 x.A ∧ ok23 x.B ∧ ok3 x.From ∧ ok3 x.To ∧ ok3 x.Sent ∧ ok3 x.Received ∧ ok3 x.Least ∧ True
def ok29 : (List Z6) → Prop := fun l : List Z6 => l.length ≤ maxLen ∧ ∀ x ∈ l, ok25 x
end Go.AM.Msg
