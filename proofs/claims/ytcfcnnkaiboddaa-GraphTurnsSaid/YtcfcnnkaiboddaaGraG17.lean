/- What these functions compute, each with its walk: F34, F7. -/
import Derived.Test.YtcfcnnkaiboddaaGraT
import Derived.Test.YtcfcnnkaiboddaaGraG0
import Derived.Test.YtcfcnnkaiboddaaGraG1
import Derived.Test.YtcfcnnkaiboddaaGraG2
import Derived.Test.YtcfcnnkaiboddaaGraG5
import Derived.Test.YtcfcnnkaiboddaaGraG11
namespace Go.AM.Gra
open Go Go.AM Go.Proofs
set_option maxRecDepth 100000
set_option maxHeartbeats 2000000
def F34_c13 (K : Nat) (v12 : (List Int)) : Option ((List Int) × Int) :=
 some (v12, 0)
def F34_j18 (K : Nat) (b15 : Int → (List Int) → Option ((List Int) × Int)) (v9 : Int) (v17 : (List Int)) : Option ((List Int) × Int) :=
 b15 (IntKind.i64.wrap (v9 + 1)) v17
def F34_l11 (K : Nat) (v8 : (List Int)) (c14 : (List Int) → Option ((List Int) × Int)) : Nat → Int → (List Int) → Option ((List Int) × Int)
 | 0, _, _ => none
 | k11 + 1, v9, v10 =>
  if (decide (v9 < (v8.length : Int))) = true then
   if (0 : Int) ≤ v9 ∧ v9 < v8.length then
    if (decide ((v8.getD v9.toNat 0) ≥ 0)) = true then
     if v10.length + [v9].length ≤ 1073741824 then
      F34_j18 K (F34_l11 K v8 c14 k11) v9 (v10 ++ [v9])
     else none
    else
     F34_j18 K (F34_l11 K v8 c14 k11) v9 v10
   else none
  else
   c14 v10
def F34_c3 (K : Nat) (a0 : Za) (a1 : (List Int)) : Option ((List Int) × Int) :=
 (F47 K a0).bind fun v6 =>
  (F46 K v6 a1 (Int.negSucc 0)).bind fun v8 =>
   F34_l11 K v8 (F34_c13 K) K 0 []
def F34_l2 (K : Nat) (a1 : (List Int)) (a0 : Za) (c4 : Option ((List Int) × Int)) : Nat → Int → Option ((List Int) × Int)
 | 0, _ => none
 | k2 + 1, v1 =>
  if (decide (v1 < (a1.length : Int))) = true then
   if (0 : Int) ≤ v1 ∧ v1 < a1.length then
    (F45 K a0 (a1.getD v1.toNat 0)).bind fun v23 =>
     if (!v23) = true then
      some ([], 10)
     else
      (F34_l2 K a1 a0 c4 k2) (IntKind.i64.wrap (v1 + 1))
   else none
  else
   c4
def F34 (K : Nat) (a0 : Za) (a1 : (List Int)) : Option ((List Int) × Int) :=
 F34_l2 K a1 a0 (F34_c3 K a0 a1) K 0
def F7_c21 (K : Nat) (v10 : Za) (a1 : (List Int)) (v14 : (List Int)) (v20 : Bool) : Option (Bool) :=
 (F34 K v10 a1).bind fun v24 =>
  if v20 = true then
   if ((v24.1.length : Int) == 0) = true then
    some (v24.2 == 10)
   else
    some false
  else
   if (v24.2 == 0) = true then
    (F18 K v24.1 v14).bind fun v26 =>
     some v26
   else
    some false
def F7_j29 (K : Nat) (b27 : Bool → Int → Option (Bool)) (v18 : Int) (v28 : Bool) : Option (Bool) :=
 b27 v28 (IntKind.i64.wrap (v18 + 1))
def F7_j36 (K : Nat) (b27 : Bool → Int → Option (Bool)) (v18 : Int) (v35 : Bool) : Option (Bool) :=
 F7_j29 K b27 v18 v35
def F7_l19 (K : Nat) (a1 : (List Int)) (v10 : Za) (v8 : (List (List Bool))) (c22 : Bool → Option (Bool)) : Nat → Bool → Int → Option (Bool)
 | 0, _, _ => none
 | k19 + 1, v17, v18 =>
  if (decide (v18 < (a1.length : Int))) = true then
   if (0 : Int) ≤ v18 ∧ v18 < a1.length then
    (F33 K v10 (a1.getD v18.toNat 0)).bind fun v32 =>
     if (0 : Int) ≤ v18 ∧ v18 < a1.length then
      if (decide ((a1.getD v18.toNat 0) < 0)) = true then
       if (decide ((v32.1.length : Int) > 0)) = true then
        some false
       else
        if (v32.2 != 10) = true then
         some false
        else
         F7_j29 K (F7_l19 K a1 v10 v8 c22 k19) v18 true
      else
       if (0 : Int) ≤ v18 ∧ v18 < a1.length then
        if (decide ((a1.getD v18.toNat 0) ≥ (v8.length : Int))) = true then
         if (decide ((v32.1.length : Int) > 0)) = true then
          some false
         else
          if (v32.2 != 10) = true then
           some false
          else
           F7_j36 K (F7_l19 K a1 v10 v8 c22 k19) v18 true
        else
         if (v32.2 != 0) = true then
          some false
         else
          if (0 : Int) ≤ v18 ∧ v18 < a1.length then
           (F32 K v8 (a1.getD v18.toNat 0)).bind fun v39 =>
            (F18 K v32.1 v39).bind fun v41 =>
             if (!v41) = true then
              some false
             else
              F7_j36 K (F7_l19 K a1 v10 v8 c22 k19) v18 v17
          else none
       else none
     else none
   else none
  else
   c22 v17
def F7_c15 (K : Nat) (a1 : (List Int)) (v10 : Za) (v8 : (List (List Bool))) (v14 : (List Int)) : Option (Bool) :=
 F7_l19 K a1 v10 v8 (F7_c21 K v10 a1 v14) K false 0
def F7_j50 (K : Nat) (b42 : Int → (List Int) → Option (Bool)) (v11 : Int) (v49 : (List Int)) : Option (Bool) :=
 b42 (IntKind.i64.wrap (v11 + 1)) v49
def F7_c47 (K : Nat) (v12 : (List Int)) (v11 : Int) (b42 : Int → (List Int) → Option (Bool)) (v46 : Bool) : Option (Bool) :=
 if v46 = true then
  if v12.length + [v11].length ≤ 1073741824 then
   F7_j50 K b42 v11 (v12 ++ [v11])
  else none
 else
  F7_j50 K b42 v11 v12
def F7_j54 (K : Nat) (b52 : Bool → Int → Option (Bool)) (v44 : Int) (v53 : Bool) : Option (Bool) :=
 b52 v53 (IntKind.i64.wrap (v44 + 1))
def F7_l45 (K : Nat) (a1 : (List Int)) (v8 : (List (List Bool))) (v11 : Int) (c48 : Bool → Option (Bool)) : Nat → Bool → Int → Option (Bool)
 | 0, _, _ => none
 | k45 + 1, v43, v44 =>
  if (decide (v44 < (a1.length : Int))) = true then
   if v43 = true then
    F7_j54 K (F7_l45 K a1 v8 v11 c48 k45) v44 true
   else
    if (0 : Int) ≤ v44 ∧ v44 < a1.length then
     if (decide ((a1.getD v44.toNat 0) ≥ 0)) = true then
      if (0 : Int) ≤ v44 ∧ v44 < a1.length then
       if (decide ((a1.getD v44.toNat 0) < (v8.length : Int))) = true then
        if (0 : Int) ≤ v44 ∧ v44 < a1.length then
         (F32 K v8 (a1.getD v44.toNat 0)).bind fun v59 =>
          if (0 : Int) ≤ v11 ∧ v11 < v59.length then
           F7_j54 K (F7_l45 K a1 v8 v11 c48 k45) v44 (decide ((v59.getD v11.toNat 0) ≥ 0))
          else none
        else none
       else
        F7_j54 K (F7_l45 K a1 v8 v11 c48 k45) v44 false
      else none
     else
      F7_j54 K (F7_l45 K a1 v8 v11 c48 k45) v44 false
    else none
  else
   c48 v43
def F7_l13 (K : Nat) (v8 : (List (List Bool))) (a1 : (List Int)) (c16 : (List Int) → Option (Bool)) : Nat → Int → (List Int) → Option (Bool)
 | 0, _, _ => none
 | k13 + 1, v11, v12 =>
  if (decide (v11 < (v8.length : Int))) = true then
   F7_l45 K a1 v8 v11 (F7_c47 K v12 v11 (F7_l13 K v8 a1 c16 k13)) K false 0
  else
   c16 v12
def F7 (K : Nat) (a0 : Z11) (a1 : (List Int)) : Option (Bool) :=
 (F13 K).bind fun v2 =>
  if (!v2) = true then
   (F13 K).bind fun v4 =>
    some v4
  else
   if (decide ((a1.length : Int) > 12)) = true then
    (F13 K).bind fun v6 =>
     some v6
   else
    (F14 K a0).bind fun v8 =>
     (F16 K v8).bind fun v10 =>
      F7_l13 K v8 a1 (F7_c15 K a1 v10 v8) K 0 []
end Go.AM.Gra
