/- What the arguments are known to be. -/
import Derived.Test.YtkhbjnkckblkjaaGreatTopZAll
namespace Go.AM.TopZ
open Go Go.AM
def ok5 : Int → Prop := fun n : Int => (Lit.int .u8 n).wf = true
def ok9 : Str → Prop := fun s : Str => s.length ≤ maxLen
def ok3 : Int → Prop := fun n : Int => (Lit.int .i64 n).wf = true
def ok68 : Zc → Prop := fun x : Zc => ok9 x.Name ∧ ok3 x.Spans ∧ ok3 x.Errors ∧ ok3 x.Roots ∧ True
def ok41 : (List Zc) → Prop := fun l : List Zc => l.length ≤ maxLen ∧ ∀ x ∈ l, ok68 x
def ok88 : Zh → Prop := fun x : Zh => ok9 x.Caller ∧ ok9 x.Callee ∧ ok3 x.Count ∧ ok3 x.Errors ∧ ok3 x.Time ∧ True
def ok42 : (List Zh) → Prop := fun l : List Zh => l.length ≤ maxLen ∧ ∀ x ∈ l, ok88 x
def ok44 : Zb → Prop := fun x : Zb => ok41 x.Services ∧ ok42 x.Calls ∧ True
def ok129 : Z1b → Prop := fun x : Z1b => ok5 x.From ∧ ok5 x.To ∧ ok5 x.Count ∧ True
def ok58 : (List Z1b) → Prop := fun l : List Z1b => l.length ≤ maxLen ∧ ∀ x ∈ l, ok129 x
end Go.AM.TopZ
