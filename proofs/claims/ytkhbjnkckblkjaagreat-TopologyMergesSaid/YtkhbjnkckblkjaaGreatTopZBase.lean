/- The table that is described, its edges in order, and the graph of it. -/
import Derived.Test.YtkhbjnkckblkjaaGreatTopZMake
import Derived.Test.YtkhbjnkckblkjaaGreatTopZOk
namespace Go.AM.TopZ
open Go Go.AM
def eg (p : Nat × Nat) : Z1i := ⟨p.1, p.2⟩
def rowP (n : Nat) (E : Nat → Nat → Bool) (i : Nat) : List (Nat × Nat) := (sel n (E i)).map fun j => (i, j)
def prs (m n : Nat) (E : Nat → Nat → Bool) : List (Nat × Nat) := (List.range m).flatMap (rowP n E)
def el (n : Nat) (E : Nat → Nat → Bool) : List Z1i := (prs n n E).map eg
def outs (l : List Z1i) (a : Int) : List Int := (l.filter fun e => e.From == a).map (·.To)
def ins (l : List Z1i) (a : Int) : List Int := (l.filter fun e => e.To == a).map (·.From)
end Go.AM.TopZ
