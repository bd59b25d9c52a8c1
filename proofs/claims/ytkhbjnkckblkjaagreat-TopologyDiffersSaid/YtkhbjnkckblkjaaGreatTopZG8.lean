/- What these functions compute, each with its walk: F37. -/
import Derived.Test.YtkhbjnkckblkjaaGreatTopZT
import Derived.Test.YtkhbjnkckblkjaaGreatTopZG4
namespace Go.AM.TopZ
open Go Go.AM Go.Proofs
set_option maxRecDepth 100000
set_option maxHeartbeats 2000000
def F37_c11 (K : Nat) (v10 : (List Str)) : Option ((List Str)) :=
 some v10
def F37_j18 (K : Nat) (b13 : Int → (List Str) → Option ((List Str))) (v7 : Int) (v17 : (List Str)) : Option ((List Str)) :=
 b13 (IntKind.i64.wrap (v7 + 1)) v17
def F37_l9 (K : Nat) (a0 : Zc) (v4 : (List Str)) (c12 : (List Str) → Option ((List Str))) : Nat → Int → (List Str) → Option ((List Str))
 | 0, _, _ => none
 | k9 + 1, v7, v8 =>
  if (decide (v7 < (a0.Services.length : Int))) = true then
   if (0 : Int) ≤ v7 ∧ v7 < a0.Services.length then
    (F38 K v4 (a0.Services.getD v7.toNat Z9).Name).bind fun v16 =>
     if v16 = true then
      if (0 : Int) ≤ v7 ∧ v7 < a0.Services.length then
       if v8.length + [(a0.Services.getD v7.toNat Z9).Name].length ≤ 1073741824 then
        F37_j18 K (F37_l9 K a0 v4 c12 k9) v7 (v8 ++ [(a0.Services.getD v7.toNat Z9).Name])
       else none
      else none
     else
      F37_j18 K (F37_l9 K a0 v4 c12 k9) v7 v8
   else none
  else
   c12 v8
def F37_c5 (K : Nat) (a0 : Zc) (v4 : (List Str)) : Option ((List Str)) :=
 F37_l9 K a0 v4 (F37_c11 K) K 0 []
def F37_c26 (K : Nat) (b21 : Int → (List Str) → Option ((List Str))) (v1 : Int) (v25 : (List Str)) : Option ((List Str)) :=
 b21 (IntKind.i64.wrap (v1 + 1)) v25
def F37_j37 (K : Nat) (b28 : Int → (List Str) → Option ((List Str))) (v22 : Int) (v36 : (List Str)) : Option ((List Str)) :=
 b28 (IntKind.i64.wrap (v22 + 1)) v36
def F37_j35 (K : Nat) (v23 : (List Str)) (v32 : Str) (b28 : Int → (List Str) → Option ((List Str))) (v22 : Int) (v34 : Bool) : Option ((List Str)) :=
 if v34 = true then
  if v23.length + [v32].length ≤ 1073741824 then
   F37_j37 K b28 v22 (v23 ++ [v32])
  else none
 else
  F37_j37 K b28 v22 v23
def F37_j33 (K : Nat) (a1 : Str) (v23 : (List Str)) (b28 : Int → (List Str) → Option ((List Str))) (v22 : Int) (v31 : Str) (v32 : Str) : Option ((List Str)) :=
 if (v31 == a1) = true then
  (F38 K v23 v32).bind fun v40 =>
   F37_j35 K v23 v32 b28 v22 (!v40)
 else
  (F38 K v23 v31).bind fun v42 =>
   if v42 = true then
    (F38 K v23 v32).bind fun v44 =>
     F37_j35 K v23 v32 b28 v22 (!v44)
   else
    F37_j35 K v23 v32 b28 v22 false
def F37_l24 (K : Nat) (a0 : Zc) (a2 : Bool) (a1 : Str) (c27 : (List Str) → Option ((List Str))) : Nat → Int → (List Str) → Option ((List Str))
 | 0, _, _ => none
 | k24 + 1, v22, v23 =>
  if (decide (v22 < (a0.Calls.length : Int))) = true then
   if (0 : Int) ≤ v22 ∧ v22 < a0.Calls.length then
    if (0 : Int) ≤ v22 ∧ v22 < a0.Calls.length then
     if a2 = true then
      F37_j33 K a1 v23 (F37_l24 K a0 a2 a1 c27 k24) v22 (a0.Calls.getD v22.toNat Z6).Callee (a0.Calls.getD v22.toNat Z6).Caller
     else
      F37_j33 K a1 v23 (F37_l24 K a0 a2 a1 c27 k24) v22 (a0.Calls.getD v22.toNat Z6).Caller (a0.Calls.getD v22.toNat Z6).Callee
    else none
   else none
  else
   c27 v23
def F37_l3 (K : Nat) (a0 : Zc) (a2 : Bool) (a1 : Str) (c6 : (List Str) → Option ((List Str))) : Nat → Int → (List Str) → Option ((List Str))
 | 0, _, _ => none
 | k3 + 1, v1, v2 =>
  if (decide (v1 ≤ (a0.Services.length : Int))) = true then
   F37_l24 K a0 a2 a1 (F37_c26 K (F37_l3 K a0 a2 a1 c6 k3) v1) K 0 v2
  else
   c6 v2
def F37 (K : Nat) (a0 : Zc) (a1 : Str) (a2 : Bool) : Option ((List Str)) :=
 F37_l3 K a0 a2 a1 (F37_c5 K a0) K 0 []
end Go.AM.TopZ
