/- What the arguments are known to be. -/
import Derived.Test.YtkhbjnkckblkjaaGreatTopZAll
namespace Go.AM.TopZ
open Go Go.AM
def ok5 : Int → Prop := fun n : Int => (Lit.int .u8 n).wf = true
def ok4 : Bool → Prop := fun _ : Bool => True
def ok241 : Z1w → Prop := fun x : Z1w => ok5 x.Parent ∧ ok5 x.Clock ∧ ok5 x.Kind ∧ ok5 x.Service ∧ ok5 x.Version ∧ ok5 x.Operation ∧ ok5 x.Wait ∧ ok5 x.Long ∧ ok5 x.Link ∧ ok5 x.Tag ∧ ok4 x.Fail ∧ True
def ok103 : (List Z1w) → Prop := fun l : List Z1w => l.length ≤ maxLen ∧ ∀ x ∈ l, ok241 x
def Z8l : Z15 → Prop := fun x : Z15 => ok5 x.Slot ∧ ok5 x.Start ∧ ok103 x.Calls ∧ True
def ok22 : (List Z15) → Prop := fun l : List Z15 => l.length ≤ maxLen ∧ ∀ x ∈ l, Z8l x
def ok23 : Int → Prop := fun n : Int => (Lit.int .i8 n).wf = true
def ok24 : A4_Int → Prop := fun x : A4_Int => ok23 x.e0 ∧ ok23 x.e1 ∧ ok23 x.e2 ∧ ok23 x.e3 ∧ True
def ok342 : Z2n → Prop := fun x : Z2n => ok5 x.From ∧ ok5 x.To ∧ ok5 x.At ∧ ok5 x.Delay ∧ ok5 x.Slack ∧ True
def ok25 : (List Z2n) → Prop := fun l : List Z2n => l.length ≤ maxLen ∧ ∀ x ∈ l, ok342 x
def ok27 : Zy → Prop := fun x : Zy => ok22 x.Trees ∧ ok24 x.Offsets ∧ ok25 x.Syncs ∧ ok5 x.Wrong ∧ True
def ok28 : Z3p → Prop := fun x : Z3p => ok5 x.e0 ∧ ok5 x.e1 ∧ ok5 x.e2 ∧ True
end Go.AM.TopZ
