/- The table that is described, its edges in order, and the graph of it. -/
import Derived.Test.YtkhbjnkckblkjaaGreatTopZMake
import Derived.Test.YtkhbjnkckblkjaaGreatTopZOk
namespace Go.AM.TopZ
open Go Go.AM
def eg (p : Nat × Nat) : Z19 := ⟨p.1, p.2⟩
def outs (l : List Z19) (a : Int) : List Int := (l.filter fun e => e.From == a).map (·.To)
def ins (l : List Z19) (a : Int) : List Int := (l.filter fun e => e.To == a).map (·.From)
end Go.AM.TopZ
