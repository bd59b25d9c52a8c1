/- What the arguments are known to be. -/
import Derived.Test.YtkhbjnkckblkjaaGreatTopZAll
namespace Go.AM.TopZ
open Go Go.AM
def ok5 : Int → Prop := fun n : Int => (Lit.int .u8 n).wf = true
def ok129 : Z18 → Prop := fun x : Z18 => ok5 x.From ∧ ok5 x.To ∧ ok5 x.Count ∧ True
def ok58 : (List Z18) → Prop := fun l : List Z18 => l.length ≤ maxLen ∧ ∀ x ∈ l, ok129 x
end Go.AM.TopZ
