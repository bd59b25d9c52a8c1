/- What the arguments are known to be. -/
import Derived.Test.YtgikdjgdjogdmaaOrW1
namespace Go.AM.Msg
open Go Go.AM
def ok3 : Int → Prop := fun n : Int => (Lit.int .i64 n).wf = true
def ok23 : Tapi_Ref → Prop := fun x : Tapi_Ref => ok3 x.Trace ∧ ok3 x.Id ∧ True
def ok25 : Tapi_Message → Prop := fun x : Tapi_Message => ok3 x.Kind ∧ ok23 x.A ∧ ok23 x.B ∧ ok3 x.From ∧ ok3 x.To ∧ ok3 x.Sent ∧ ok3 x.Received ∧ ok3 x.Least ∧ True
end Go.AM.Msg
