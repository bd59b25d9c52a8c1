/- What the arguments are known to be. -/
import Derived.Test.YtgikdjgdjogdmaaMsgCAll
namespace Go.AM.MsgC
open Go Go.AM
def ok5 : Int → Prop := fun n : Int => (Lit.int .u8 n).wf = true
def ok4 : Bool → Prop := fun _ : Bool => True
def ok113 : Z1o → Prop := fun x : Z1o => ok5 x.Parent ∧ ok5 x.Clock ∧ ok5 x.Kind ∧ ok5 x.Service ∧ ok5 x.Version ∧ ok5 x.Operation ∧ ok5 x.Wait ∧ ok5 x.Long ∧ ok5 x.Link ∧ ok5 x.Tag ∧ ok4 x.Fail ∧ True
def ok100 : (List Z1o) → Prop := fun l : List Z1o => l.length ≤ maxLen ∧ ∀ x ∈ l, ok113 x
def Z8p : Z10 → Prop := fun x : Z10 => ok5 x.Slot ∧ ok5 x.Start ∧ ok100 x.Calls ∧ True
def ok41 : (List Z10) → Prop := fun l : List Z10 => l.length ≤ maxLen ∧ ∀ x ∈ l, Z8p x
def ok42 : Int → Prop := fun n : Int => (Lit.int .i8 n).wf = true
def ok43 : A4_Int → Prop := fun x : A4_Int => ok42 x.e0 ∧ ok42 x.e1 ∧ ok42 x.e2 ∧ ok42 x.e3 ∧ True
def ok108 : Z1x → Prop := fun x : Z1x => ok5 x.From ∧ ok5 x.To ∧ ok5 x.At ∧ ok5 x.Delay ∧ ok5 x.Slack ∧ True
def ok44 : (List Z1x) → Prop := fun l : List Z1x => l.length ≤ maxLen ∧ ∀ x ∈ l, ok108 x
def Zcd : Zn → Prop := fun x : Zn => ok41 x.Trees ∧ ok43 x.Offsets ∧ ok44 x.Syncs ∧ ok5 x.Wrong ∧ True
def ok68 : Z1s → Prop := fun x : Z1s => ok5 x.Which ∧ ok5 x.Field ∧ ok42 x.By ∧ True
end Go.AM.MsgC
