/- Order returns the least topological order, or tells that there is none. -/
import Derived.Test.YtkhbjnkckblkjaaGreatTopZPath
import Derived.Test.YtkhbjnkckblkjaaGreatTopZClose
namespace Go.AM.TopZ
open Go Go.AM
def left (n : Nat) (done : Nat → Bool) : Nat := (sel n fun i => !done i).length
end Go.AM.TopZ
