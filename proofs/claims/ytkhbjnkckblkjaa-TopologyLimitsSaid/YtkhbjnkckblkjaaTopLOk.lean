/- What the arguments are known to be. -/
import Derived.Test.YtkhbjnkckblkjaaTopLAll
namespace Go.AM.TopL
open Go Go.AM
def ok5 : Int → Prop := fun n : Int => (Lit.int .u8 n).wf = true
def ok22 : A2_Int → Prop := fun x : A2_Int => ok5 x.e0 ∧ ok5 x.e1 ∧ True
end Go.AM.TopL
