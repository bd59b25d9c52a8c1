/- What these functions compute, each with its walk: F21. -/
import Derived.Test.YtcfcnnkaiboddaaGraT
namespace Go.AM.Gra
open Go Go.AM Go.Proofs
set_option maxRecDepth 100000
set_option maxHeartbeats 2000000
def F21_c6 (K : Nat) (v5 : (List Int)) : Option ((List Int) × Bool) :=
 some (v5, true)
def F21_c13 (K : Nat) (v3 : (List Bool)) (v2 : (List Int)) (b8 : (List Int) → (List Bool) → Option ((List Int) × Bool)) (v12 : Int) : Option ((List Int) × Bool) :=
 if (decide (v12 < 0)) = true then
  some ([], false)
 else
  if (0 : Int) ≤ v12 ∧ v12 < (v3.length : Nat) then
   if v12.toNat < v3.length then
    if v2.length + [v12].length ≤ 1073741824 then
     b8 (v2 ++ [v12]) (v3.set v12.toNat true)
    else none
   else none
  else none
def F21_j28 (K : Nat) (b18 : Int → Int → Option ((List Int) × Bool)) (v10 : Int) (v27 : Int) : Option ((List Int) × Bool) :=
 b18 v27 (IntKind.i64.wrap (v10 + 1))
def F21_c25 (K : Nat) (b18 : Int → Int → Option ((List Int) × Bool)) (v10 : Int) (v9 : Int) (v24 : Bool) : Option ((List Int) × Bool) :=
 if v24 = true then
  F21_j28 K b18 v10 v10
 else
  F21_j28 K b18 v10 v9
def F21_j31 (K : Nat) (b29 : Bool → Int → Option ((List Int) × Bool)) (v22 : Int) (v30 : Bool) : Option ((List Int) × Bool) :=
 b29 v30 (IntKind.i64.wrap (v22 + 1))
def F21_j37 (K : Nat) (b29 : Bool → Int → Option ((List Int) × Bool)) (v22 : Int) (v36 : Bool) : Option ((List Int) × Bool) :=
 F21_j31 K b29 v22 v36
def F21_l23 (K : Nat) (a0 : (List (List Bool))) (v3 : (List Bool)) (v10 : Int) (c26 : Bool → Option ((List Int) × Bool)) : Nat → Bool → Int → Option ((List Int) × Bool)
 | 0, _, _ => none
 | k23 + 1, v21, v22 =>
  if (decide (v22 < (a0.length : Int))) = true then
   if (0 : Int) ≤ v22 ∧ v22 < (v3.length : Nat) then
    if v22.toNat < v3.length then
     if (!(v3.getD v22.toNat false)) = true then
      if (0 : Int) ≤ v22 ∧ v22 < a0.length then
       if (0 : Int) ≤ v10 ∧ v10 < (a0.getD v22.toNat []).length then
        if ((a0.getD v22.toNat []).getD v10.toNat false) = true then
         F21_j37 K (F21_l23 K a0 v3 v10 c26 k23) v22 false
        else
         F21_j37 K (F21_l23 K a0 v3 v10 c26 k23) v22 v21
       else none
      else none
     else
      F21_j31 K (F21_l23 K a0 v3 v10 c26 k23) v22 v21
    else none
   else none
  else
   c26 v21
def F21_l11 (K : Nat) (a0 : (List (List Bool))) (v3 : (List Bool)) (c14 : Int → Option ((List Int) × Bool)) : Nat → Int → Int → Option ((List Int) × Bool)
 | 0, _, _ => none
 | k11 + 1, v9, v10 =>
  if (decide (v10 < (a0.length : Int))) = true then
   if (decide (v9 < 0)) = true then
    if (0 : Int) ≤ v10 ∧ v10 < (v3.length : Nat) then
     if v10.toNat < v3.length then
      F21_l23 K a0 v3 v10 (F21_c25 K (F21_l11 K a0 v3 c14 k11) v10 v9) K (!(v3.getD v10.toNat false)) 0
     else none
    else none
   else
    c14 v9
  else
   c14 v9
def F21_l4 (K : Nat) (a0 : (List (List Bool))) (c7 : (List Int) → Option ((List Int) × Bool)) : Nat → (List Int) → (List Bool) → Option ((List Int) × Bool)
 | 0, _, _ => none
 | k4 + 1, v2, v3 =>
  if (decide ((v2.length : Int) < (a0.length : Int))) = true then
   F21_l11 K a0 v3 (F21_c13 K v3 v2 (F21_l4 K a0 c7 k4)) K (Int.negSucc 0) 0
  else
   c7 v2
def F21 (K : Nat) (a0 : (List (List Bool))) : Option ((List Int) × Bool) :=
 if (0 : Int) ≤ (a0.length : Int) ∧ (a0.length : Int) ≤ (a0.length : Int) ∧ (a0.length : Int) ≤ 1073741824 then
  F21_l4 K a0 (F21_c6 K) K [] (List.replicate (a0.length : Int).toNat (false : Bool))
 else none
end Go.AM.Gra
