/- What the arguments are known to be. -/
import Derived.Test.YtgikdjgdjogdmaaMsgT
namespace Go.AM.Msg
open Go Go.AM
def ok4 : Bool → Prop := fun _ : Bool => True
def ok5 : Int → Prop := fun n : Int => (Lit.int .u8 n).wf = true
def ok113 : Z1w → Prop := fun x : Z1w => ok5 x.Parent ∧ ok5 x.Clock ∧ ok5 x.Kind ∧ ok5 x.Service ∧ ok5 x.Version ∧ ok5 x.Operation ∧ ok5 x.Wait ∧ ok5 x.Long ∧ ok5 x.Link ∧ ok5 x.Tag ∧ ok4 x.Fail ∧ True
def ok100 : (List Z1w) → Prop := fun l : List Z1w => l.length ≤ maxLen ∧ ∀ x ∈ l, ok113 x
def ok102 : Z13 → Prop := fun x : Z13 => ok5 x.Slot ∧ ok5 x.Start ∧ ok100 x.Calls ∧ True
def ok41 : (List Z13) → Prop := fun l : List Z13 => l.length ≤ maxLen ∧ ∀ x ∈ l, ok102 x
def ok42 : Int → Prop := fun n : Int => (Lit.int .i8 n).wf = true
def ok43 : A4_Int → Prop := fun x : A4_Int => ok42 x.e0 ∧ ok42 x.e1 ∧ ok42 x.e2 ∧ ok42 x.e3 ∧ True
def ok108 : Tsleuthlaw13_Sync → Prop := fun x : Tsleuthlaw13_Sync => ok5 x.From ∧ ok5 x.To ∧ ok5 x.At ∧ ok5 x.Delay ∧ ok5 x.Slack ∧ True
def ok44 : (List Tsleuthlaw13_Sync) → Prop := fun l : List Tsleuthlaw13_Sync => l.length ≤ maxLen ∧ ∀ x ∈ l, ok108 x
def ok46 : Zp → Prop := fun x : Zp => ok41 x.Trees ∧ ok43 x.Offsets ∧ ok44 x.Syncs ∧ ok5 x.Wrong ∧ True
def ok52 : (List Int) → Prop := fun l : List Int => l.length ≤ maxLen ∧ ∀ x ∈ l, ok5 x
end Go.AM.Msg
