/- What the arguments are known to be. -/
import Derived.Test.YtmdglfmfefmpkaaNotiT
namespace Go.AM.Noti
open Go Go.AM
def ok5 : Int → Prop := fun n : Int => (Lit.int .u8 n).wf = true
def ok87 : Z37 → Prop := fun x : Z37 => ok5 x.e0 ∧ ok5 x.e1 ∧ ok5 x.e2 ∧ ok5 x.e3 ∧ True
def ok22 : (List Z37) → Prop := fun l : List Z37 => l.length ≤ maxLen ∧ ∀ x ∈ l, ok87 x
def ok85 : Z36 → Prop := fun x : Z36 => ok5 x.e0 ∧ ok5 x.e1 ∧ True
def ok23 : (List Z36) → Prop := fun l : List Z36 => l.length ≤ maxLen ∧ ∀ x ∈ l, ok85 x
def ok25 : Z15 → Prop := fun x : Z15 => ok5 x.By ∧ ok5 x.Repeat ∧ ok22 x.Firings ∧ ok22 x.Silences ∧ ok23 x.Acks ∧ ok23 x.Steps ∧ True
def ok3 : Int → Prop := fun n : Int => (Lit.int .i64 n).wf = true
def ok69 : Int → Prop := fun n : Int => (Lit.int .u16 n).wf = true
def ok9 : Str → Prop := fun s : Str => s.length ≤ maxLen
def ok81 : Z2q → Prop := fun x : Z2q => ok5 x.Kind ∧ ok5 x.At ∧ ok9 x.Name ∧ ok3 x.Number ∧ True
end Go.AM.Noti
