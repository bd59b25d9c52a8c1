/- What these functions compute, each with its walk: F28, F61. -/
import Derived.Test.YtmdglfmfefmpkaaNotiT
namespace Go.AM.Noti
open Go Go.AM Go.Proofs
set_option maxRecDepth 100000
set_option maxHeartbeats 2000000
def F28 (K : Nat) (a0 : Int) : Option (Bool) :=
 if (decide (a0 ≥ 0)) = true then
  some (decide (a0 ≤ 1048576))
 else
  some false
def F61_c3 (K : Nat) : Option (Bool) :=
 some false
def F61_j8 (K : Nat) (b5 : Int → Option (Bool)) (v1 : Int) (v7 : Bool) : Option (Bool) :=
 if v7 = true then
  some true
 else
  b5 (IntKind.i64.wrap (v1 + 1))
def F61_l2 (K : Nat) (a0 : Zm) (a1 : Str) (a2 : Int) (a3 : Int) (c4 : Option (Bool)) : Nat → Int → Option (Bool)
 | 0, _ => none
 | k2 + 1, v1 =>
  if (decide (v1 < (a0.Acks.length : Int))) = true then
   if (0 : Int) ≤ v1 ∧ v1 < a0.Acks.length then
    if ((a0.Acks.getD v1.toNat Z14).Group == a1) = true then
     if (decide ((a0.Acks.getD v1.toNat Z14).At ≥ a2)) = true then
      F61_j8 K (F61_l2 K a0 a1 a2 a3 c4 k2) v1 (decide ((a0.Acks.getD v1.toNat Z14).At ≤ a3))
     else
      F61_j8 K (F61_l2 K a0 a1 a2 a3 c4 k2) v1 false
    else
     F61_j8 K (F61_l2 K a0 a1 a2 a3 c4 k2) v1 false
   else none
  else
   c4
def F61 (K : Nat) (a0 : Zm) (a1 : Str) (a2 : Int) (a3 : Int) : Option (Bool) :=
 F61_l2 K a0 a1 a2 a3 (F61_c3 K) K 0
end Go.AM.Noti
