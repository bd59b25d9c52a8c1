/- What the arguments are known to be. -/
import Derived.Test.YtcfcnnkaiboddaaGraAll
namespace Go.AM.Gra
open Go Go.AM
def ok5 : Int → Prop := fun n : Int => (Lit.int .u8 n).wf = true
def ok4 : Bool → Prop := fun _ : Bool => True
def ok70 : A2_Int → Prop := fun x : A2_Int => ok5 x.e0 ∧ ok5 x.e1 ∧ True
def ok22 : (List A2_Int) → Prop := fun l : List A2_Int => l.length ≤ maxLen ∧ ∀ x ∈ l, ok70 x
def ok24 : Z11 → Prop := fun x : Z11 => ok5 x.Count ∧ ok4 x.Flat ∧ ok22 x.Edges ∧ True
end Go.AM.Gra
