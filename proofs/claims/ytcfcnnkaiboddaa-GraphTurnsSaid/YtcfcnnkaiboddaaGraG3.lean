/- What these functions compute, each with its walk: F61. -/
import Derived.Test.YtcfcnnkaiboddaaGraT
import Derived.Test.YtcfcnnkaiboddaaGraG2
namespace Go.AM.Gra
open Go Go.AM Go.Proofs
set_option maxRecDepth 100000
set_option maxHeartbeats 2000000
def F61_c7 (K : Nat) (v6 : (List (List Bool))) : Option ((List (List Bool))) :=
 some v6
def F61_c14 (K : Nat) (b9 : Int → (List (List Bool)) → Option ((List (List Bool)))) (v3 : Int) (v13 : (List (List Bool))) : Option ((List (List Bool))) :=
 b9 (IntKind.i64.wrap (v3 + 1)) v13
def F61_l12 (K : Nat) (a0 : (List (List Bool))) (v3 : Int) (c15 : (List (List Bool)) → Option ((List (List Bool)))) : Nat → Int → (List (List Bool)) → Option ((List (List Bool)))
 | 0, _, _ => none
 | k12 + 1, v10, v11 =>
  if (decide (v10 < (a0.length : Int))) = true then
   if (0 : Int) ≤ v3 ∧ v3 < v11.length then
    if v3.toNat < v11.length then
     if (0 : Int) ≤ v3 ∧ v3 < a0.length then
      if (0 : Int) ≤ v10 ∧ v10 < (a0.getD v3.toNat []).length then
       if v3.toNat < v11.length then
        if (0 : Int) ≤ v10 ∧ v10 < (v11.getD v3.toNat []).length then
         if v3.toNat < v11.length then
          if v10.toNat < (v11.getD v3.toNat []).length then
           (F61_l12 K a0 v3 c15 k12) (IntKind.i64.wrap (v10 + 1)) (v11.set v3.toNat ((v11.getD v3.toNat []).set v10.toNat ((a0.getD v3.toNat []).getD v10.toNat false)))
          else none
         else none
        else none
       else none
      else none
     else none
    else none
   else none
  else
   c15 v11
def F61_l5 (K : Nat) (a0 : (List (List Bool))) (c8 : (List (List Bool)) → Option ((List (List Bool)))) : Nat → Int → (List (List Bool)) → Option ((List (List Bool)))
 | 0, _, _ => none
 | k5 + 1, v3, v4 =>
  if (decide (v3 < (a0.length : Int))) = true then
   F61_l12 K a0 v3 (F61_c14 K (F61_l5 K a0 c8 k5) v3) K 0 v4
  else
   c8 v4
def F61 (K : Nat) (a0 : (List (List Bool))) : Option ((List (List Bool))) :=
 (F25 K (a0.length : Int)).bind fun v2 =>
  F61_l5 K a0 (F61_c7 K) K 0 v2
end Go.AM.Gra
