/- What these functions compute, each with its walk: F22, F4. -/
import Derived.Test.YtcfcnnkaiboddaaGraT
import Derived.Test.YtcfcnnkaiboddaaGraG1
import Derived.Test.YtcfcnnkaiboddaaGraG2
import Derived.Test.YtcfcnnkaiboddaaGraG5
import Derived.Test.YtcfcnnkaiboddaaGraG6
import Derived.Test.YtcfcnnkaiboddaaGraG7
import Derived.Test.YtcfcnnkaiboddaaGraG8
import Derived.Test.YtcfcnnkaiboddaaGraG9
namespace Go.AM.Gra
open Go Go.AM Go.Proofs
set_option maxRecDepth 100000
set_option maxHeartbeats 2000000
def F22_c5 (K : Nat) : Option ((List Int)) :=
 some []
def F22_c20 (K : Nat) (a0 : (List (List Bool))) (v3 : Int) (v19 : Int) : Option ((List Int)) :=
 (F17 K a0 v19 v3).bind fun v23 =>
  if (0 : Int) ≤ 0 ∧ 0 ≤ (IntKind.i64.wrap ((v23.length : Int) - 1)) ∧ (IntKind.i64.wrap ((v23.length : Int) - 1)) ≤ v23.length then
   if [v3].length + (v23.take (IntKind.i64.wrap ((v23.length : Int) - 1)).toNat).length ≤ 1073741824 then
    some ([v3] ++ (v23.take (IntKind.i64.wrap ((v23.length : Int) - 1)).toNat))
   else none
  else none
def F22_j30 (K : Nat) (b26 : Int → Int → Option ((List Int))) (v17 : Int) (v29 : Int) : Option ((List Int)) :=
 b26 v29 (IntKind.i64.wrap (v17 + 1))
def F22_j28 (K : Nat) (b26 : Int → Int → Option ((List Int))) (v17 : Int) (v16 : Int) (v27 : Bool) : Option ((List Int)) :=
 if v27 = true then
  F22_j30 K b26 v17 v17
 else
  F22_j30 K b26 v17 v16
def F22_l18 (K : Nat) (a0 : (List (List Bool))) (v3 : Int) (v15 : (List Int)) (c21 : Int → Option ((List Int))) : Nat → Int → Int → Option ((List Int))
 | 0, _, _ => none
 | k18 + 1, v16, v17 =>
  if (decide (v17 < (a0.length : Int))) = true then
   if (0 : Int) ≤ v3 ∧ v3 < a0.length then
    if (0 : Int) ≤ v17 ∧ v17 < (a0.getD v3.toNat []).length then
     if ((a0.getD v3.toNat []).getD v17.toNat false) = true then
      if (0 : Int) ≤ v17 ∧ v17 < v15.length then
       if (decide ((v15.getD v17.toNat 0) ≥ 0)) = true then
        if (decide (v16 < 0)) = true then
         F22_j28 K (F22_l18 K a0 v3 v15 c21 k18) v17 v16 true
        else
         if (0 : Int) ≤ v17 ∧ v17 < v15.length then
          if (0 : Int) ≤ v16 ∧ v16 < v15.length then
           F22_j28 K (F22_l18 K a0 v3 v15 c21 k18) v17 v16 (decide ((v15.getD v17.toNat 0) < (v15.getD v16.toNat 0)))
          else none
         else none
       else
        F22_j28 K (F22_l18 K a0 v3 v15 c21 k18) v17 v16 false
      else none
     else
      F22_j28 K (F22_l18 K a0 v3 v15 c21 k18) v17 v16 false
    else none
   else none
  else
   c21 v16
def F22_l4 (K : Nat) (a0 : (List (List Bool))) (v2 : (List (List Bool))) (c6 : Option ((List Int))) : Nat → Int → Option ((List Int))
 | 0, _ => none
 | k4 + 1, v3 =>
  if (decide (v3 < (a0.length : Int))) = true then
   if (0 : Int) ≤ v3 ∧ v3 < v2.length then
    if (0 : Int) ≤ v3 ∧ v3 < (v2.getD v3.toNat []).length then
     if (!((v2.getD v3.toNat []).getD v3.toNat false)) = true then
      (F22_l4 K a0 v2 c6 k4) (IntKind.i64.wrap (v3 + 1))
     else
      if (0 : Int) ≤ v3 ∧ v3 < a0.length then
       if (0 : Int) ≤ v3 ∧ v3 < (a0.getD v3.toNat []).length then
        if ((a0.getD v3.toNat []).getD v3.toNat false) = true then
         some [v3]
        else
         (F31 K a0).bind fun v13 =>
          (F32 K v13 v3).bind fun v15 =>
           F22_l18 K a0 v3 v15 (F22_c20 K a0 v3) K (Int.negSucc 0) 0
       else none
      else none
    else none
   else none
  else
   c6
def F22 (K : Nat) (a0 : (List (List Bool))) : Option ((List Int)) :=
 (F40 K a0).bind fun v2 =>
  F22_l4 K a0 v2 (F22_c5 K) K 0
def F4_j16 (K : Nat) (v15 : Bool) : Option (Bool) :=
 some v15
def F4_j22 (K : Nat) (v21 : Bool) : Option (Bool) :=
 some v21
def F4 (K : Nat) (a0 : Z11) : Option (Bool) :=
 (F13 K).bind fun v2 =>
  if (!v2) = true then
   some false
  else
   (F14 K a0).bind fun v4 =>
    (F16 K v4).bind fun v6 =>
     (F19 K v6).bind fun v8 =>
      (F16 K v4).bind fun v10 =>
       (F20 K v10).bind fun v12 =>
        (F21 K v4).bind fun v14 =>
         if (!v14.2) = true then
          if ((v8.1.length : Int) == 0) = true then
           if (v8.2 == 35) = true then
            if v12.2 = true then
             (F22 K v4).bind fun v18 =>
              (F18 K v12.1 v18).bind fun v20 =>
               F4_j16 K v20
            else
             F4_j16 K false
           else
            F4_j16 K false
          else
           F4_j16 K false
         else
          if (v8.2 == 0) = true then
           (F18 K v8.1 v14.1).bind fun v24 =>
            if v24 = true then
             if (!v12.2) = true then
              F4_j22 K ((v12.1.length : Int) == 0)
             else
              F4_j22 K false
            else
             F4_j22 K false
          else
           F4_j22 K false
end Go.AM.Gra
