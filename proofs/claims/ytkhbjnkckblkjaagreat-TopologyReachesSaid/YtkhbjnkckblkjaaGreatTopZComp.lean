/- Components returns the components, by their least nodes; the reference's and those of the graph of components. -/
import Derived.Test.YtkhbjnkckblkjaaGreatTopZVis
import Derived.Test.YtkhbjnkckblkjaaGreatTopZCyc
namespace Go.AM.TopZ
open Go Go.AM
noncomputable def rep (n : Nat) (E : Nat → Nat → Bool) (v : Nat) : Nat := (scc n E v).headD v
end Go.AM.TopZ
