/- What these functions compute, each with its walk: F29. -/
import Derived.Test.YtmdglfmfefmpkaaNotiT
import Derived.Test.YtmdglfmfefmpkaaNotiG4
namespace Go.AM.Noti
open Go Go.AM Go.Proofs
set_option maxRecDepth 100000
set_option maxHeartbeats 2000000
def F29_c3 (K : Nat) : Option (Bool) :=
 some true
def F29_l2 (K : Nat) (a0 : (List Z3)) (a1 : (List Z3)) (c4 : Option (Bool)) : Nat → Int → Option (Bool)
 | 0, _ => none
 | k2 + 1, v1 =>
  if (decide (v1 < (a0.length : Int))) = true then
   if (0 : Int) ≤ v1 ∧ v1 < a0.length then
    if (0 : Int) ≤ v1 ∧ v1 < a1.length then
     (F32 K (a0.getD v1.toNat Zb) (a1.getD v1.toNat Zb)).bind fun v9 =>
      if (!v9) = true then
       some false
      else
       (F29_l2 K a0 a1 c4 k2) (IntKind.i64.wrap (v1 + 1))
    else none
   else none
  else
   c4
def F29 (K : Nat) (a0 : (List Z3)) (a1 : (List Z3)) : Option (Bool) :=
 if ((a0.length : Int) != (a1.length : Int)) = true then
  some false
 else
  F29_l2 K a0 a1 (F29_c3 K) K 0
end Go.AM.Noti
