/- What the arguments are known to be. -/
import Derived.Test.YtmdglfmfefmpkaaNotiAll
namespace Go.AM.Noti
open Go Go.AM
def ok5 : Int → Prop := fun n : Int => (Lit.int .u8 n).wf = true
def ok87 : A4_Int → Prop := fun x : A4_Int => ok5 x.e0 ∧ ok5 x.e1 ∧ ok5 x.e2 ∧ ok5 x.e3 ∧ True
def ok22 : (List A4_Int) → Prop := fun l : List A4_Int => l.length ≤ maxLen ∧ ∀ x ∈ l, ok87 x
def ok85 : A2_Int → Prop := fun x : A2_Int => ok5 x.e0 ∧ ok5 x.e1 ∧ True
def ok23 : (List A2_Int) → Prop := fun l : List A2_Int => l.length ≤ maxLen ∧ ∀ x ∈ l, ok85 x
def ok25 : Z1e → Prop := fun x : Z1e => ok5 x.By ∧ ok5 x.Repeat ∧ ok22 x.Firings ∧ ok22 x.Silences ∧ ok23 x.Acks ∧ ok23 x.Steps ∧ True
end Go.AM.Noti
