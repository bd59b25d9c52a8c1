/- What these functions compute, each with its walk: F28, F29, F6. -/
import Derived.Test.YtcfcnnkaiboddaaGraT
import Derived.Test.YtcfcnnkaiboddaaGraG0
import Derived.Test.YtcfcnnkaiboddaaGraG1
import Derived.Test.YtcfcnnkaiboddaaGraG2
import Derived.Test.YtcfcnnkaiboddaaGraG4
import Derived.Test.YtcfcnnkaiboddaaGraG7
namespace Go.AM.Gra
open Go Go.AM Go.Proofs
set_option maxRecDepth 100000
set_option maxHeartbeats 2000000
def F28_c5 (K : Nat) (v4 : (List Int)) : Option ((List Int)) :=
 some v4
def F28_j10 (K : Nat) (b7 : Int → (List Int) → Option ((List Int))) (v1 : Int) (v9 : (List Int)) : Option ((List Int)) :=
 b7 (IntKind.i64.wrap (v1 + 1)) v9
def F28_l3 (K : Nat) (a0 : Za) (a1 : Int) (c6 : (List Int) → Option ((List Int))) : Nat → Int → (List Int) → Option ((List Int))
 | 0, _, _ => none
 | k3 + 1, v1, v2 =>
  if (decide (v1 < (a0.Edges.length : Int))) = true then
   if (0 : Int) ≤ v1 ∧ v1 < a0.Edges.length then
    if ((a0.Edges.getD v1.toNat Z2).From == a1) = true then
     if v2.length + [(a0.Edges.getD v1.toNat Z2).To].length ≤ 1073741824 then
      F28_j10 K (F28_l3 K a0 a1 c6 k3) v1 (v2 ++ [(a0.Edges.getD v1.toNat Z2).To])
     else none
    else
     F28_j10 K (F28_l3 K a0 a1 c6 k3) v1 v2
   else none
  else
   c6 v2
def F28 (K : Nat) (a0 : Za) (a1 : Int) : Option ((List Int)) :=
 F28_l3 K a0 a1 (F28_c5 K) K 0 []
def F29_c5 (K : Nat) (v4 : (List Int)) : Option ((List Int)) :=
 some v4
def F29_j10 (K : Nat) (b7 : Int → (List Int) → Option ((List Int))) (v1 : Int) (v9 : (List Int)) : Option ((List Int)) :=
 b7 (IntKind.i64.wrap (v1 + 1)) v9
def F29_l3 (K : Nat) (a0 : Za) (a1 : Int) (c6 : (List Int) → Option ((List Int))) : Nat → Int → (List Int) → Option ((List Int))
 | 0, _, _ => none
 | k3 + 1, v1, v2 =>
  if (decide (v1 < (a0.Edges.length : Int))) = true then
   if (0 : Int) ≤ v1 ∧ v1 < a0.Edges.length then
    if ((a0.Edges.getD v1.toNat Z2).To == a1) = true then
     if v2.length + [(a0.Edges.getD v1.toNat Z2).From].length ≤ 1073741824 then
      F29_j10 K (F29_l3 K a0 a1 c6 k3) v1 (v2 ++ [(a0.Edges.getD v1.toNat Z2).From])
     else none
    else
     F29_j10 K (F29_l3 K a0 a1 c6 k3) v1 v2
   else none
  else
   c6 v2
def F29 (K : Nat) (a0 : Za) (a1 : Int) : Option ((List Int)) :=
 F29_l3 K a0 a1 (F29_c5 K) K 0 []
def F6_j16 (K : Nat) (v15 : Bool) : Option (Bool) :=
 some v15
def F6_c13 (K : Nat) (v6 : Za) (a1 : Int) (v4 : (List (List Bool))) (v11 : (List Int)) (v12 : (List Int)) : Option (Bool) :=
 (F28 K v6 a1).bind fun v18 =>
  (F18 K v18 v11).bind fun v20 =>
   if v20 = true then
    (F29 K v6 a1).bind fun v22 =>
     (F18 K v22 v12).bind fun v24 =>
      if v24 = true then
       (F30 K v6).bind fun v26 =>
        (F31 K v4).bind fun v28 =>
         (F16 K v28).bind fun v30 =>
          (F27 K v26 v30).bind fun v32 =>
           F6_j16 K v32
      else
       F6_j16 K false
   else
    F6_j16 K false
def F6_j43 (K : Nat) (b33 : Int → (List Int) → (List Int) → Option (Bool)) (v7 : Int) (v38 : (List Int)) (v42 : (List Int)) : Option (Bool) :=
 b33 (IntKind.i64.wrap (v7 + 1)) v38 v42
def F6_j39 (K : Nat) (v7 : Int) (v4 : (List (List Bool))) (a1 : Int) (v9 : (List Int)) (b33 : Int → (List Int) → (List Int) → Option (Bool)) (v38 : (List Int)) : Option (Bool) :=
 if (0 : Int) ≤ v7 ∧ v7 < v4.length then
  if (0 : Int) ≤ a1 ∧ a1 < (v4.getD v7.toNat []).length then
   if ((v4.getD v7.toNat []).getD a1.toNat false) = true then
    if v9.length + [v7].length ≤ 1073741824 then
     F6_j43 K b33 v7 v38 (v9 ++ [v7])
    else none
   else
    F6_j43 K b33 v7 v38 v9
  else none
 else none
def F6_j35 (K : Nat) (a1 : Int) (v4 : (List (List Bool))) (v7 : Int) (v8 : (List Int)) (v9 : (List Int)) (b33 : Int → (List Int) → (List Int) → Option (Bool)) (c14 : (List Int) → (List Int) → Option (Bool)) (v34 : Bool) : Option (Bool) :=
 if v34 = true then
  if (0 : Int) ≤ a1 ∧ a1 < v4.length then
   if (0 : Int) ≤ v7 ∧ v7 < (v4.getD a1.toNat []).length then
    if ((v4.getD a1.toNat []).getD v7.toNat false) = true then
     if v8.length + [v7].length ≤ 1073741824 then
      F6_j39 K v7 v4 a1 v9 b33 (v8 ++ [v7])
     else none
    else
     F6_j39 K v7 v4 a1 v9 b33 v8
   else none
  else none
 else
  c14 v8 v9
def F6_l10 (K : Nat) (v4 : (List (List Bool))) (a1 : Int) (c14 : (List Int) → (List Int) → Option (Bool)) : Nat → Int → (List Int) → (List Int) → Option (Bool)
 | 0, _, _, _ => none
 | k10 + 1, v7, v8, v9 =>
  if (decide (v7 < (v4.length : Int))) = true then
   if (decide (a1 ≥ 0)) = true then
    F6_j35 K a1 v4 v7 v8 v9 (F6_l10 K v4 a1 c14 k10) c14 (decide (a1 < (v4.length : Int)))
   else
    F6_j35 K a1 v4 v7 v8 v9 (F6_l10 K v4 a1 c14 k10) c14 false
  else
   F6_j35 K a1 v4 v7 v8 v9 (F6_l10 K v4 a1 c14 k10) c14 false
def F6 (K : Nat) (a0 : Z11) (a1 : Int) : Option (Bool) :=
 (F13 K).bind fun v2 =>
  if (!v2) = true then
   some false
  else
   (F14 K a0).bind fun v4 =>
    (F16 K v4).bind fun v6 =>
     F6_l10 K v4 a1 (F6_c13 K v6 a1 v4) K 0 [] []
end Go.AM.Gra
