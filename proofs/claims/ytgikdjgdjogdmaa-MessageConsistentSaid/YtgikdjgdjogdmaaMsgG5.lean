/- What these functions compute, each with its walk: F38. -/
import Derived.Test.YtgikdjgdjogdmaaMsgT
namespace Go.AM.Msg
open Go Go.AM Go.Proofs
set_option maxRecDepth 100000
set_option maxHeartbeats 2000000
def F38_c3 (K : Nat) : Option (Zc × Bool) :=
 some (Z2, false)
def F38_j6 (K : Nat) (b5 : Int → Option (Zc × Bool)) (v1 : Int) : Option (Zc × Bool) :=
 b5 (IntKind.i64.wrap (v1 + 1))
def F38_l2 (K : Nat) (a0 : (List Zc)) (a1 : Zn) (c4 : Option (Zc × Bool)) : Nat → Int → Option (Zc × Bool)
 | 0, _ => none
 | k2 + 1, v1 =>
  if (decide (v1 < (a0.length : Int))) = true then
   if (0 : Int) ≤ v1 ∧ v1 < a0.length then
    if ((a0.getD v1.toNat Z2).Trace == a1.Trace) = true then
     if (0 : Int) ≤ v1 ∧ v1 < a0.length then
      if ((a0.getD v1.toNat Z2).Id == a1.Id) = true then
       if (0 : Int) ≤ v1 ∧ v1 < a0.length then
        some ((a0.getD v1.toNat Z2), true)
       else none
      else
       F38_j6 K (F38_l2 K a0 a1 c4 k2) v1
     else none
    else
     F38_j6 K (F38_l2 K a0 a1 c4 k2) v1
   else none
  else
   c4
def F38 (K : Nat) (a0 : (List Zc)) (a1 : Zn) : Option (Zc × Bool) :=
 F38_l2 K a0 a1 (F38_c3 K) K 0
end Go.AM.Msg
