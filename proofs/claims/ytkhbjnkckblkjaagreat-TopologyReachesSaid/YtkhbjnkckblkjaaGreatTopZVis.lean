/- The program's visit of a node does so. -/
import Derived.Test.YtkhbjnkckblkjaaGreatTopZTar
namespace Go.AM.TopZ
open Go Go.AM
def ni (n : Nat) (N : Nat → Nat) : List Int := mk n fun v => ((N v : Nat) : Int)
def onT (n : Nat) (st : List Nat) : List Bool := mk n fun v => decide (v ∈ st)
def tup (n : Nat) (E : Nat → Nat → Bool) (c : Nat) (N L : Nat → Nat) (st : List Nat) (out : List (List Int)) : Int × List (List Int) × List Int × List Int × List Int × List Bool × List (List Int) :=
 ((c : Int), adj n E, ni n N, ni n L, nl st, onT n st, out)
end Go.AM.TopZ
