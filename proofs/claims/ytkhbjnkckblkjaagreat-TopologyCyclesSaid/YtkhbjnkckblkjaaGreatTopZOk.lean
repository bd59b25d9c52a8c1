/- What the arguments are known to be. -/
import Derived.Test.YtkhbjnkckblkjaaGreatTopZAll
namespace Go.AM.TopZ
open Go Go.AM
def ok5 : Int → Prop := fun n : Int => (Lit.int .u8 n).wf = true
def ok129 : Z1m → Prop := fun x : Z1m => ok5 x.From ∧ ok5 x.To ∧ ok5 x.Count ∧ True
def ok58 : (List Z1m) → Prop := fun l : List Z1m => l.length ≤ maxLen ∧ ∀ x ∈ l, ok129 x
end Go.AM.TopZ
