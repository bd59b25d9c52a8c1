/- What these functions compute, each with its walk: F27. -/
import Derived.Test.YtcfcnnkaiboddaaGraT
namespace Go.AM.Gra
open Go Go.AM Go.Proofs
set_option maxRecDepth 100000
set_option maxHeartbeats 2000000
def F27_c3 (K : Nat) : Option (Bool) :=
 some true
def F27_l2 (K : Nat) (a0 : Za) (a1 : Za) (c4 : Option (Bool)) : Nat → Int → Option (Bool)
 | 0, _ => none
 | k2 + 1, v1 =>
  if (decide (v1 < (a0.Edges.length : Int))) = true then
   if (0 : Int) ≤ v1 ∧ v1 < a0.Edges.length then
    if (0 : Int) ≤ v1 ∧ v1 < a1.Edges.length then
     if (!(((a0.Edges.getD v1.toNat Z2).From == (a1.Edges.getD v1.toNat Z2).From) && (((a0.Edges.getD v1.toNat Z2).To == (a1.Edges.getD v1.toNat Z2).To) && true))) = true then
      some false
     else
      (F27_l2 K a0 a1 c4 k2) (IntKind.i64.wrap (v1 + 1))
    else none
   else none
  else
   c4
def F27 (K : Nat) (a0 : Za) (a1 : Za) : Option (Bool) :=
 if (a0.Count != a1.Count) = true then
  some false
 else
  if ((a0.Edges.length : Int) != (a1.Edges.length : Int)) = true then
   some false
  else
   F27_l2 K a0 a1 (F27_c3 K) K 0
end Go.AM.Gra
