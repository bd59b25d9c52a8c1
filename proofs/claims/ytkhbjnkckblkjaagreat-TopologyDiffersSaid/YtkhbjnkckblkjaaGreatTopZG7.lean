/- What these functions compute, each with its walk: F112. -/
import Derived.Test.YtkhbjnkckblkjaaGreatTopZT
namespace Go.AM.TopZ
open Go Go.AM Go.Proofs
set_option maxRecDepth 100000
set_option maxHeartbeats 2000000
def F112_c20 (K : Nat) (v19 : (List Int)) : Option ((List Int)) :=
 some v19
def F112_c34 (K : Nat) (b22 : (List Int) → (List Int) → Option ((List Int))) (v32 : (List Int)) (v33 : (List Int)) : Option ((List Int)) :=
 b22 v32 v33
def F112_j39 (K : Nat) (b36 : Int → (List Int) → (List Int) → Option ((List Int))) (v28 : Int) (v37 : (List Int)) (v38 : (List Int)) : Option ((List Int)) :=
 b36 (IntKind.i64.wrap (v28 + 1)) v37 v38
def F112_j45 (K : Nat) (b36 : Int → (List Int) → (List Int) → Option ((List Int))) (v28 : Int) (v43 : (List Int)) (v44 : (List Int)) : Option ((List Int)) :=
 F112_j39 K b36 v28 v43 v44
def Z8r (K : Nat) (a0 : (List (List Int))) (v17 : (List Int)) (a2 : Int) (c35 : (List Int) → (List Int) → Option ((List Int))) : Nat → Int → (List Int) → (List Int) → Option ((List Int))
 | 0, _, _, _ => none
 | k31 + 1, v28, v29, v30 =>
  if (decide (v28 < ((a0.getD (v17.getD (0 : Int).toNat 0).toNat []).length : Int))) = true then
   if (0 : Int) ≤ v28 ∧ v28 < (a0.getD (v17.getD (0 : Int).toNat 0).toNat []).length then
    if (((a0.getD (v17.getD (0 : Int).toNat 0).toNat []).getD v28.toNat 0) != a2) = true then
     if (0 : Int) ≤ ((a0.getD (v17.getD (0 : Int).toNat 0).toNat []).getD v28.toNat 0) ∧ ((a0.getD (v17.getD (0 : Int).toNat 0).toNat []).getD v28.toNat 0) < (v29.length : Nat) then
      if ((a0.getD (v17.getD (0 : Int).toNat 0).toNat []).getD v28.toNat 0).toNat < v29.length then
       if (decide ((v29.getD ((a0.getD (v17.getD (0 : Int).toNat 0).toNat []).getD v28.toNat 0).toNat 0) < 0)) = true then
        if (0 : Int) ≤ (v17.getD (0 : Int).toNat 0) ∧ (v17.getD (0 : Int).toNat 0) < (v29.length : Nat) then
         if (v17.getD (0 : Int).toNat 0).toNat < v29.length then
          if (0 : Int) ≤ ((a0.getD (v17.getD (0 : Int).toNat 0).toNat []).getD v28.toNat 0) ∧ ((a0.getD (v17.getD (0 : Int).toNat 0).toNat []).getD v28.toNat 0) < (v29.length : Nat) then
           if ((a0.getD (v17.getD (0 : Int).toNat 0).toNat []).getD v28.toNat 0).toNat < v29.length then
            if v30.length + ([((a0.getD (v17.getD (0 : Int).toNat 0).toNat []).getD v28.toNat 0)]).length ≤ 1073741824 then
             F112_j45 K (Z8r K a0 v17 a2 c35 k31) v28 (v29.set ((a0.getD (v17.getD (0 : Int).toNat 0).toNat []).getD v28.toNat 0).toNat (IntKind.i64.wrap ((v29.getD (v17.getD (0 : Int).toNat 0).toNat 0) + 1))) (v30 ++ ([((a0.getD (v17.getD (0 : Int).toNat 0).toNat []).getD v28.toNat 0)]))
            else none
           else none
          else none
         else none
        else none
       else
        F112_j45 K (Z8r K a0 v17 a2 c35 k31) v28 v29 v30
      else none
     else none
    else
     F112_j39 K (Z8r K a0 v17 a2 c35 k31) v28 v29 v30
   else none
  else
   c35 v29 v30
def F112_l18 (K : Nat) (a0 : (List (List Int))) (a2 : Int) (c21 : (List Int) → Option ((List Int))) : Nat → (List Int) → (List Int) → Option ((List Int))
 | 0, _, _ => none
 | k18 + 1, v16, v17 =>
  if (decide ((v17.length : Int) > 0)) = true then
   if (0 : Int) ≤ 0 ∧ (0 : Int) < (v17.length : Nat) then
    if (0 : Int).toNat < v17.length then
     if (0 : Int) ≤ 1 ∧ 1 ≤ (v17.length : Int) ∧ (v17.length : Int) ≤ (v17.length : Nat) then
      if (0 + (1 : Int).toNat) + ((v17.length : Int).toNat - (1 : Int).toNat) ≤ v17.length then
       if (0 : Int) ≤ (v17.getD (0 : Int).toNat 0) ∧ (v17.getD (0 : Int).toNat 0) < a0.length then
        if (0 + (1 : Int).toNat) + ((v17.length : Int).toNat - (1 : Int).toNat) ≤ v17.length then
         Z8r K a0 v17 a2 (F112_c34 K (F112_l18 K a0 a2 c21 k18)) K 0 v16 ((v17.drop (0 + (1 : Int).toNat)).take ((v17.length : Int).toNat - (1 : Int).toNat))
        else none
       else none
      else none
     else none
    else none
   else none
  else
   c21 v16
def F112_c14 (K : Nat) (a0 : (List (List Int))) (a2 : Int) (v12 : (List Int)) (v13 : (List Int)) : Option ((List Int)) :=
 F112_l18 K a0 a2 (F112_c20 K) K v12 v13
def F112_j55 (K : Nat) (b52 : Int → (List Int) → (List Int) → Option ((List Int))) (v8 : Int) (v53 : (List Int)) (v54 : (List Int)) : Option ((List Int)) :=
 b52 (IntKind.i64.wrap (v8 + 1)) v53 v54
def F112_j61 (K : Nat) (b52 : Int → (List Int) → (List Int) → Option ((List Int))) (v8 : Int) (v59 : (List Int)) (v60 : (List Int)) : Option ((List Int)) :=
 F112_j55 K b52 v8 v59 v60
def Z8p (K : Nat) (a1 : (List Int)) (a2 : Int) (c15 : (List Int) → (List Int) → Option ((List Int))) : Nat → Int → (List Int) → (List Int) → Option ((List Int))
 | 0, _, _, _ => none
 | k11 + 1, v8, v9, v10 =>
  if (decide (v8 < (a1.length : Int))) = true then
   if (0 : Int) ≤ v8 ∧ v8 < a1.length then
    if ((a1.getD v8.toNat 0) != a2) = true then
     if (0 : Int) ≤ (a1.getD v8.toNat 0) ∧ (a1.getD v8.toNat 0) < (v9.length : Nat) then
      if (a1.getD v8.toNat 0).toNat < v9.length then
       if (decide ((v9.getD (a1.getD v8.toNat 0).toNat 0) < 0)) = true then
        if (0 : Int) ≤ (a1.getD v8.toNat 0) ∧ (a1.getD v8.toNat 0) < (v9.length : Nat) then
         if (a1.getD v8.toNat 0).toNat < v9.length then
          if v10.length + [(a1.getD v8.toNat 0)].length ≤ 1073741824 then
           F112_j61 K (Z8p K a1 a2 c15 k11) v8 (v9.set (a1.getD v8.toNat 0).toNat 0) (v10 ++ [(a1.getD v8.toNat 0)])
          else none
         else none
        else none
       else
        F112_j61 K (Z8p K a1 a2 c15 k11) v8 v9 v10
      else none
     else none
    else
     F112_j55 K (Z8p K a1 a2 c15 k11) v8 v9 v10
   else none
  else
   c15 v9 v10
def F112_c6 (K : Nat) (a1 : (List Int)) (a2 : Int) (a0 : (List (List Int))) (v5 : (List Int)) : Option ((List Int)) :=
 Z8p K a1 a2 (F112_c14 K a0 a2) K 0 v5 []
def F112_l4 (K : Nat) (a0 : (List (List Int))) (c7 : (List Int) → Option ((List Int))) : Nat → Int → (List Int) → Option ((List Int))
 | 0, _, _ => none
 | k4 + 1, v2, v3 =>
  if (decide (v2 < ((List.replicate (a0.length : Int).toNat (0 : Int)).length : Int))) = true then
   if (0 : Int) ≤ v2 ∧ v2 < (v3.length : Nat) then
    if v2.toNat < v3.length then
     (F112_l4 K a0 c7 k4) (IntKind.i64.wrap (v2 + 1)) (v3.set v2.toNat (Int.negSucc 0))
    else none
   else none
  else
   c7 v3
def F112 (K : Nat) (a0 : (List (List Int))) (a1 : (List Int)) (a2 : Int) : Option ((List Int)) :=
 if (0 : Int) ≤ (a0.length : Int) ∧ (a0.length : Int) ≤ (a0.length : Int) ∧ (a0.length : Int) ≤ 1073741824 then
  F112_l4 K a0 (F112_c6 K a1 a2 a0) K 0 (List.replicate (a0.length : Int).toNat (0 : Int))
 else none
end Go.AM.TopZ
