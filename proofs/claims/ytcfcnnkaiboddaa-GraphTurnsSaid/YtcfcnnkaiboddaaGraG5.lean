/- What these functions compute, each with its walk: F32. -/
import Derived.Test.YtcfcnnkaiboddaaGraT
namespace Go.AM.Gra
open Go Go.AM Go.Proofs
set_option maxRecDepth 100000
set_option maxHeartbeats 2000000
def F32_c14 (K : Nat) (v13 : (List Int)) : Option ((List Int)) :=
 some v13
def F32_c21 (K : Nat) (b16 : Int → (List Int) → Option ((List Int))) (v10 : Int) (v20 : (List Int)) : Option ((List Int)) :=
 b16 (IntKind.i64.wrap (v10 + 1)) v20
def F32_c28 (K : Nat) (b23 : Int → (List Int) → Option ((List Int))) (v17 : Int) (v27 : (List Int)) : Option ((List Int)) :=
 b23 (IntKind.i64.wrap (v17 + 1)) v27
def F32_j34 (K : Nat) (b30 : Int → (List Int) → Option ((List Int))) (v24 : Int) (v33 : (List Int)) : Option ((List Int)) :=
 b30 (IntKind.i64.wrap (v24 + 1)) v33
def F32_j32 (K : Nat) (v24 : Int) (v25 : (List Int)) (b30 : Int → (List Int) → Option ((List Int))) (v10 : Int) (v31 : Bool) : Option ((List Int)) :=
 if v31 = true then
  if (0 : Int) ≤ v24 ∧ v24 < (v25.length : Nat) then
   if v24.toNat < v25.length then
    F32_j34 K b30 v24 (v25.set v24.toNat (IntKind.i64.wrap (v10 + 1)))
   else none
  else none
 else
  F32_j34 K b30 v24 v25
def F32_l26 (K : Nat) (a0 : (List (List Bool))) (v17 : Int) (v10 : Int) (c29 : (List Int) → Option ((List Int))) : Nat → Int → (List Int) → Option ((List Int))
 | 0, _, _ => none
 | k26 + 1, v24, v25 =>
  if (decide (v24 < (a0.length : Int))) = true then
   if (0 : Int) ≤ v17 ∧ v17 < (v25.length : Nat) then
    if v17.toNat < v25.length then
     if ((v25.getD v17.toNat 0) == v10) = true then
      if (0 : Int) ≤ v24 ∧ v24 < (v25.length : Nat) then
       if v24.toNat < v25.length then
        if (decide ((v25.getD v24.toNat 0) < 0)) = true then
         if (0 : Int) ≤ v17 ∧ v17 < a0.length then
          if (0 : Int) ≤ v24 ∧ v24 < (a0.getD v17.toNat []).length then
           F32_j32 K v24 v25 (F32_l26 K a0 v17 v10 c29 k26) v10 ((a0.getD v17.toNat []).getD v24.toNat false)
          else none
         else none
        else
         F32_j32 K v24 v25 (F32_l26 K a0 v17 v10 c29 k26) v10 false
       else none
      else none
     else
      F32_j32 K v24 v25 (F32_l26 K a0 v17 v10 c29 k26) v10 false
    else none
   else none
  else
   c29 v25
def F32_l19 (K : Nat) (a0 : (List (List Bool))) (v10 : Int) (c22 : (List Int) → Option ((List Int))) : Nat → Int → (List Int) → Option ((List Int))
 | 0, _, _ => none
 | k19 + 1, v17, v18 =>
  if (decide (v17 < (a0.length : Int))) = true then
   F32_l26 K a0 v17 v10 (F32_c28 K (F32_l19 K a0 v10 c22 k19) v17) K 0 v18
  else
   c22 v18
def F32_l12 (K : Nat) (a0 : (List (List Bool))) (c15 : (List Int) → Option ((List Int))) : Nat → Int → (List Int) → Option ((List Int))
 | 0, _, _ => none
 | k12 + 1, v10, v11 =>
  if (decide (v10 < (a0.length : Int))) = true then
   F32_l19 K a0 v10 (F32_c21 K (F32_l12 K a0 c15 k12) v10) K 0 v11
  else
   c15 v11
def F32_c6 (K : Nat) (a1 : Int) (a0 : (List (List Bool))) (v5 : (List Int)) : Option ((List Int)) :=
 if (0 : Int) ≤ a1 ∧ a1 < (v5.length : Nat) then
  if a1.toNat < v5.length then
   F32_l12 K a0 (F32_c14 K) K 0 (v5.set a1.toNat 0)
  else none
 else none
def F32_l4 (K : Nat) (a0 : (List (List Bool))) (c7 : (List Int) → Option ((List Int))) : Nat → Int → (List Int) → Option ((List Int))
 | 0, _, _ => none
 | k4 + 1, v2, v3 =>
  if (decide (v2 < (a0.length : Int))) = true then
   if (0 : Int) ≤ v2 ∧ v2 < (v3.length : Nat) then
    if v2.toNat < v3.length then
     (F32_l4 K a0 c7 k4) (IntKind.i64.wrap (v2 + 1)) (v3.set v2.toNat (Int.negSucc 0))
    else none
   else none
  else
   c7 v3
def F32 (K : Nat) (a0 : (List (List Bool))) (a1 : Int) : Option ((List Int)) :=
 if (0 : Int) ≤ (a0.length : Int) ∧ (a0.length : Int) ≤ (a0.length : Int) ∧ (a0.length : Int) ≤ 1073741824 then
  F32_l4 K a0 (F32_c6 K a1 a0) K 0 (List.replicate (a0.length : Int).toNat (0 : Int))
 else none
end Go.AM.Gra
