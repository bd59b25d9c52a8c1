/- What the arguments are known to be. -/
import Derived.Test.YtcfcnnkaiboddaaGraAll
namespace Go.AM.Gra
open Go Go.AM
def ok3 : Int → Prop := fun n : Int => (Lit.int .i64 n).wf = true
def ok64 : Z9 → Prop := fun x : Z9 => ok3 x.From ∧ ok3 x.To ∧ True
def ok33 : (List Z9) → Prop := fun l : List Z9 => l.length ≤ maxLen ∧ ∀ x ∈ l, ok64 x
end Go.AM.Gra
