/- What the arguments are known to be. -/
import Derived.Test.YtgikdjgdjogdmaaMsgT
namespace Go.AM.Msg
open Go Go.AM
def ok3 : Int → Prop := fun n : Int => (Lit.int .i64 n).wf = true
def ok23 : Tapi_Ref → Prop := fun x : Tapi_Ref => ok3 x.Trace ∧ ok3 x.Id ∧ True
def ok25 : Tapi_Message → Prop := fun x : Tapi_Message => ok3 x.Kind ∧ ok23 x.A ∧ ok23 x.B ∧ ok3 x.From ∧ ok3 x.To ∧ ok3 x.Sent ∧ ok3 x.Received ∧ ok3 x.Least ∧ True
def ok29 : (List Tapi_Message) → Prop := fun l : List Tapi_Message => l.length ≤ maxLen ∧ ∀ x ∈ l, ok25 x
def ok9 : Str → Prop := fun s : Str => s.length ≤ maxLen
def ok4 : Bool → Prop := fun _ : Bool => True
def ok165 : Tapi_Value → Prop := fun x : Tapi_Value => ok3 x.Kind ∧ ok9 x.Text ∧ ok3 x.Int ∧ True
def ok167 : Tapi_Attr → Prop := fun x : Tapi_Attr => ok9 x.Key ∧ ok165 x.Value ∧ True
def ok35 : (List Tapi_Attr) → Prop := fun l : List Tapi_Attr => l.length ≤ maxLen ∧ ∀ x ∈ l, ok167 x
def ok36 : (List Tapi_Ref) → Prop := fun l : List Tapi_Ref => l.length ≤ maxLen ∧ ∀ x ∈ l, ok23 x
def ok38 : Tapi_Span → Prop := fun x : Tapi_Span => ok3 x.Trace ∧ ok3 x.Id ∧ ok3 x.Parent ∧ ok3 x.Revision ∧ ok3 x.Clock ∧ ok3 x.Kind ∧ ok9 x.Service ∧ ok9 x.Version ∧ ok9 x.Operation ∧ ok3 x.Start ∧ ok3 x.End ∧ ok4 x.Error ∧ ok35 x.Attrs ∧ ok36 x.Links ∧ True
def ok33 : (List Tapi_Span) → Prop := fun l : List Tapi_Span => l.length ≤ maxLen ∧ ∀ x ∈ l, ok38 x
def ok99 : Tapi_Exchange → Prop := fun x : Tapi_Exchange => ok3 x.From ∧ ok3 x.To ∧ ok3 x.Sent ∧ ok3 x.Received ∧ ok3 x.Least ∧ True
def ok34 : (List Tapi_Exchange) → Prop := fun l : List Tapi_Exchange => l.length ≤ maxLen ∧ ∀ x ∈ l, ok99 x
def ok5 : Int → Prop := fun n : Int => (Lit.int .u8 n).wf = true
def ok113 : Tsleuthlaw13_Call → Prop := fun x : Tsleuthlaw13_Call => ok5 x.Parent ∧ ok5 x.Clock ∧ ok5 x.Kind ∧ ok5 x.Service ∧ ok5 x.Version ∧ ok5 x.Operation ∧ ok5 x.Wait ∧ ok5 x.Long ∧ ok5 x.Link ∧ ok5 x.Tag ∧ ok4 x.Fail ∧ True
def ok100 : (List Tsleuthlaw13_Call) → Prop := fun l : List Tsleuthlaw13_Call => l.length ≤ maxLen ∧ ∀ x ∈ l, ok113 x
def ok102 : Tsleuthlaw13_Tree → Prop := fun x : Tsleuthlaw13_Tree => ok5 x.Slot ∧ ok5 x.Start ∧ ok100 x.Calls ∧ True
def ok41 : (List Tsleuthlaw13_Tree) → Prop := fun l : List Tsleuthlaw13_Tree => l.length ≤ maxLen ∧ ∀ x ∈ l, ok102 x
def ok42 : Int → Prop := fun n : Int => (Lit.int .i8 n).wf = true
def ok43 : A4_Int → Prop := fun x : A4_Int => ok42 x.e0 ∧ ok42 x.e1 ∧ ok42 x.e2 ∧ ok42 x.e3 ∧ True
def ok108 : Tsleuthlaw13_Sync → Prop := fun x : Tsleuthlaw13_Sync => ok5 x.From ∧ ok5 x.To ∧ ok5 x.At ∧ ok5 x.Delay ∧ ok5 x.Slack ∧ True
def ok44 : (List Tsleuthlaw13_Sync) → Prop := fun l : List Tsleuthlaw13_Sync => l.length ≤ maxLen ∧ ∀ x ∈ l, ok108 x
def ok46 : Tsleuthlaw13_Story → Prop := fun x : Tsleuthlaw13_Story => ok41 x.Trees ∧ ok43 x.Offsets ∧ ok44 x.Syncs ∧ ok5 x.Wrong ∧ True
def ok52 : (List Int) → Prop := fun l : List Int => l.length ≤ maxLen ∧ ∀ x ∈ l, ok5 x
def ok53 : A2_Int → Prop := fun x : A2_Int => ok5 x.e0 ∧ ok5 x.e1 ∧ True
def ok68 : Tsleuthlaw14_Change → Prop := fun x : Tsleuthlaw14_Change => ok5 x.Which ∧ ok5 x.Field ∧ ok42 x.By ∧ True
end Go.AM.Msg
