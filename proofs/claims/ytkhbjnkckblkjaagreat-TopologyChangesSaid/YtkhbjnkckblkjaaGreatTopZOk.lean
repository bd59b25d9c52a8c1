/- What the arguments are known to be. -/
import Derived.Test.YtkhbjnkckblkjaaGreatTopZT
namespace Go.AM.TopZ
open Go Go.AM
def ok5 : Int → Prop := fun n : Int => (Lit.int .u8 n).wf = true
def ok4 : Bool → Prop := fun _ : Bool => True
def ok241 : Z28 → Prop := fun x : Z28 => ok5 x.Parent ∧ ok5 x.Clock ∧ ok5 x.Kind ∧ ok5 x.Service ∧ ok5 x.Version ∧ ok5 x.Operation ∧ ok5 x.Wait ∧ ok5 x.Long ∧ ok5 x.Link ∧ ok5 x.Tag ∧ ok4 x.Fail ∧ True
def ok103 : (List Z28) → Prop := fun l : List Z28 => l.length ≤ maxLen ∧ ∀ x ∈ l, ok241 x
def ok105 : Z12 → Prop := fun x : Z12 => ok5 x.Slot ∧ ok5 x.Start ∧ ok103 x.Calls ∧ True
def ok22 : (List Z12) → Prop := fun l : List Z12 => l.length ≤ maxLen ∧ ∀ x ∈ l, ok105 x
def ok23 : Int → Prop := fun n : Int => (Lit.int .i8 n).wf = true
def ok24 : A4_Int → Prop := fun x : A4_Int => ok23 x.e0 ∧ ok23 x.e1 ∧ ok23 x.e2 ∧ ok23 x.e3 ∧ True
def ok342 : Tsleuthlaw13_Sync → Prop := fun x : Tsleuthlaw13_Sync => ok5 x.From ∧ ok5 x.To ∧ ok5 x.At ∧ ok5 x.Delay ∧ ok5 x.Slack ∧ True
def ok25 : (List Tsleuthlaw13_Sync) → Prop := fun l : List Tsleuthlaw13_Sync => l.length ≤ maxLen ∧ ∀ x ∈ l, ok342 x
def ok27 : Zy → Prop := fun x : Zy => ok22 x.Trees ∧ ok24 x.Offsets ∧ ok25 x.Syncs ∧ ok5 x.Wrong ∧ True
def ok3 : Int → Prop := fun n : Int => (Lit.int .i64 n).wf = true
end Go.AM.TopZ
