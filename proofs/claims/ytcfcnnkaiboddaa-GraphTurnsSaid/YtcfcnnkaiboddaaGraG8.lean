/- What these functions compute, each with its walk: F17. -/
import Derived.Test.YtcfcnnkaiboddaaGraT
import Derived.Test.YtcfcnnkaiboddaaGraG5
import Derived.Test.YtcfcnnkaiboddaaGraG7
namespace Go.AM.Gra
open Go Go.AM Go.Proofs
set_option maxRecDepth 100000
set_option maxHeartbeats 2000000
def F17_c10 (K : Nat) (v9 : (List Int)) : Option ((List Int)) :=
 some v9
def F17_c16 (K : Nat) (v7 : (List Int)) (b12 : Int → (List Int) → Option ((List Int))) (v15 : Int) : Option ((List Int)) :=
 if v7.length + [v15].length ≤ 1073741824 then
  b12 v15 (v7 ++ [v15])
 else none
def F17_j20 (K : Nat) (b19 : Int → Option ((List Int))) (v13 : Int) : Option ((List Int)) :=
 b19 (IntKind.i64.wrap (v13 + 1))
def F17_l14 (K : Nat) (a0 : (List (List Bool))) (v6 : Int) (v4 : (List Int)) (c17 : Int → Option ((List Int))) : Nat → Int → Option ((List Int))
 | 0, _ => none
 | k14 + 1, v13 =>
  if (decide (v13 < (a0.length : Int))) = true then
   if (0 : Int) ≤ v6 ∧ v6 < a0.length then
    if (0 : Int) ≤ v13 ∧ v13 < (a0.getD v6.toNat []).length then
     if ((a0.getD v6.toNat []).getD v13.toNat false) = true then
      if (0 : Int) ≤ v13 ∧ v13 < v4.length then
       if (0 : Int) ≤ v6 ∧ v6 < v4.length then
        if ((v4.getD v13.toNat 0) == (IntKind.i64.wrap ((v4.getD v6.toNat 0) - 1))) = true then
         c17 v13
        else
         F17_j20 K (F17_l14 K a0 v6 v4 c17 k14) v13
       else none
      else none
     else
      F17_j20 K (F17_l14 K a0 v6 v4 c17 k14) v13
    else none
   else none
  else
   c17 v6
def F17_l8 (K : Nat) (a2 : Int) (a0 : (List (List Bool))) (v4 : (List Int)) (c11 : (List Int) → Option ((List Int))) : Nat → Int → (List Int) → Option ((List Int))
 | 0, _, _ => none
 | k8 + 1, v6, v7 =>
  if (v6 != a2) = true then
   F17_l14 K a0 v6 v4 (F17_c16 K v7 (F17_l8 K a2 a0 v4 c11 k8)) K 0
  else
   c11 v7
def F17 (K : Nat) (a0 : (List (List Bool))) (a1 : Int) (a2 : Int) : Option ((List Int)) :=
 (F31 K a0).bind fun v2 =>
  (F32 K v2 a2).bind fun v4 =>
   if (0 : Int) ≤ a1 ∧ a1 < v4.length then
    if (decide ((v4.getD a1.toNat 0) < 0)) = true then
     some []
    else
     F17_l8 K a2 a0 v4 (F17_c10 K) K a1 [a1]
   else none
end Go.AM.Gra
