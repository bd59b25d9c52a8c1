/- What these functions compute, each with its walk: F120, F78, F34, F121, F80, F79, F35, F81, F36, F8. -/
import Derived.Test.YtkhbjnkckblkjaaGreatTopZT
import Derived.Test.YtkhbjnkckblkjaaGreatTopZG1
import Derived.Test.YtkhbjnkckblkjaaGreatTopZG2
import Derived.Test.YtkhbjnkckblkjaaGreatTopZG3
import Derived.Test.YtkhbjnkckblkjaaGreatTopZG4
import Derived.Test.YtkhbjnkckblkjaaGreatTopZG7
import Derived.Test.YtkhbjnkckblkjaaGreatTopZG8
namespace Go.AM.TopZ
open Go Go.AM Go.Proofs
set_option maxRecDepth 100000
set_option maxHeartbeats 2000000
def F120_c3 (K : Nat) : Option (Bool) :=
 some true
def F120_l2 (K : Nat) (a0 : (List Z19)) (a1 : (List Z19)) (c4 : Option (Bool)) : Nat → Int → Option (Bool)
 | 0, _ => none
 | k2 + 1, v1 =>
  if (decide (v1 < (a0.length : Int))) = true then
   if (0 : Int) ≤ v1 ∧ v1 < a0.length then
    if (0 : Int) ≤ v1 ∧ v1 < a1.length then
     if (!(((a0.getD v1.toNat Z11).From == (a1.getD v1.toNat Z11).From) && (((a0.getD v1.toNat Z11).To == (a1.getD v1.toNat Z11).To) && true))) = true then
      some false
     else
      (F120_l2 K a0 a1 c4 k2) (IntKind.i64.wrap (v1 + 1))
    else none
   else none
  else
   c4
def F120 (K : Nat) (a0 : (List Z19)) (a1 : (List Z19)) : Option (Bool) :=
 if ((a0.length : Int) != (a1.length : Int)) = true then
  some false
 else
  F120_l2 K a0 a1 (F120_c3 K) K 0
def F78 (K : Nat) (a0 : Z1c) (a1 : Z1c) : Option (Bool) :=
 if (a0.Count == a1.Count) = true then
  (F120 K a0.Edges a1.Edges).bind fun v2 =>
   some v2
 else
  some false
def F34 (K : Nat) (a0 : Z1c) : Option (Int) :=
 (F77 K a0.Count a0.Edges).bind fun v2 =>
  if (v2.2 != 0) = true then
   some v2.2
  else
   (F78 K v2.1 a0).bind fun v4 =>
    if (!v4) = true then
     some 8
    else
     some 0
def F121_c8 (K : Nat) (v7 : (List (List Bool))) : Option ((List (List Bool))) :=
 some v7
def F121_c21 (K : Nat) (b10 : Int → (List (List Bool)) → Option ((List (List Bool)))) (v4 : Int) (v20 : (List (List Bool))) : Option ((List (List Bool))) :=
 b10 (IntKind.i64.wrap (v4 + 1)) v20
def F121_l19 (K : Nat) (v16 : (List Int)) (v4 : Int) (c22 : (List (List Bool)) → Option ((List (List Bool)))) : Nat → Int → (List (List Bool)) → Option ((List (List Bool)))
 | 0, _, _ => none
 | k19 + 1, v17, v18 =>
  if (decide (v17 < (v16.length : Int))) = true then
   if (0 : Int) ≤ v17 ∧ v17 < v16.length then
    if (0 : Int) ≤ v4 ∧ v4 < v18.length then
     if v4.toNat < v18.length then
      if v4.toNat < v18.length then
       if (0 : Int) ≤ v17 ∧ v17 < (v18.getD v4.toNat []).length then
        if v4.toNat < v18.length then
         if v17.toNat < (v18.getD v4.toNat []).length then
          (F121_l19 K v16 v4 c22 k19) (IntKind.i64.wrap (v17 + 1)) (v18.set v4.toNat ((v18.getD v4.toNat []).set v17.toNat (decide ((v16.getD v17.toNat 0) ≥ 0))))
         else none
        else none
       else none
      else none
     else none
    else none
   else none
  else
   c22 v18
def F121_l6 (K : Nat) (a0 : Z1c) (v2 : (List (List Int))) (c9 : (List (List Bool)) → Option ((List (List Bool)))) : Nat → Int → (List (List Bool)) → Option ((List (List Bool)))
 | 0, _, _ => none
 | k6 + 1, v4, v5 =>
  if (decide (v4 < a0.Count)) = true then
   if (0 : Int) ≤ a0.Count ∧ a0.Count ≤ a0.Count ∧ a0.Count ≤ 1073741824 then
    if (0 : Int) ≤ v4 ∧ v4 < v5.length then
     if v4.toNat < v5.length then
      if (0 : Int) ≤ v4 ∧ v4 < v2.length then
       (F112 K v2 (v2.getD v4.toNat []) (Int.negSucc 0)).bind fun v16 =>
        F121_l19 K v16 v4 (F121_c21 K (F121_l6 K a0 v2 c9 k6) v4) K 0 (v5.set v4.toNat (List.replicate a0.Count.toNat (false : Bool)))
      else none
     else none
    else none
   else none
  else
   c9 v5
def F121 (K : Nat) (a0 : Z1c) : Option ((List (List Bool))) :=
 (F113 K a0).bind fun v2 =>
  if (0 : Int) ≤ a0.Count ∧ a0.Count ≤ a0.Count ∧ a0.Count ≤ 1073741824 then
   F121_l6 K a0 v2 (F121_c8 K) K 0 (List.replicate a0.Count.toNat ([] : List Bool))
  else none
def F80_c7 (K : Nat) (a0 : Z1c) (v6 : (List Z19)) : Option (Z1c) :=
 some (⟨a0.Count, v6⟩ : Z1c)
def F80_c15 (K : Nat) (b9 : Int → (List Z19) → Option (Z1c)) (v3 : Int) (v14 : (List Z19)) : Option (Z1c) :=
 b9 (IntKind.i64.wrap (v3 + 1)) v14
def F80_j20 (K : Nat) (b17 : Int → (List Z19) → Option (Z1c)) (v11 : Int) (v19 : (List Z19)) : Option (Z1c) :=
 b17 (IntKind.i64.wrap (v11 + 1)) v19
def F80_l13 (K : Nat) (v2 : (List (List Bool))) (v3 : Int) (c16 : (List Z19) → Option (Z1c)) : Nat → Int → (List Z19) → Option (Z1c)
 | 0, _, _ => none
 | k13 + 1, v11, v12 =>
  if (decide (v11 < ((v2.getD v3.toNat []).length : Int))) = true then
   if (0 : Int) ≤ v11 ∧ v11 < (v2.getD v3.toNat []).length then
    if ((v2.getD v3.toNat []).getD v11.toNat false) = true then
     if v12.length + [(⟨v3, v11⟩ : Z19)].length ≤ 1073741824 then
      F80_j20 K (F80_l13 K v2 v3 c16 k13) v11 (v12 ++ [(⟨v3, v11⟩ : Z19)])
     else none
    else
     F80_j20 K (F80_l13 K v2 v3 c16 k13) v11 v12
   else none
  else
   c16 v12
def F80_l5 (K : Nat) (v2 : (List (List Bool))) (c8 : (List Z19) → Option (Z1c)) : Nat → Int → (List Z19) → Option (Z1c)
 | 0, _, _ => none
 | k5 + 1, v3, v4 =>
  if (decide (v3 < (v2.length : Int))) = true then
   if (0 : Int) ≤ v3 ∧ v3 < v2.length then
    F80_l13 K v2 v3 (F80_c15 K (F80_l5 K v2 c8 k5) v3) K 0 v4
   else none
  else
   c8 v4
def F80 (K : Nat) (a0 : Z1c) : Option (Z1c) :=
 (F121 K a0).bind fun v2 =>
  F80_l5 K v2 (F80_c7 K a0) K 0 []
def F79_c5 (K : Nat) (v4 : (List Int)) : Option ((List Int)) :=
 some v4
def F79_j10 (K : Nat) (b7 : Int → (List Int) → Option ((List Int))) (v1 : Int) (v9 : (List Int)) : Option ((List Int)) :=
 b7 (IntKind.i64.wrap (v1 + 1)) v9
def F79_l3 (K : Nat) (a0 : Z1c) (a1 : Int) (c6 : (List Int) → Option ((List Int))) : Nat → Int → (List Int) → Option ((List Int))
 | 0, _, _ => none
 | k3 + 1, v1, v2 =>
  if (decide (v1 < (a0.Edges.length : Int))) = true then
   if (0 : Int) ≤ v1 ∧ v1 < a0.Edges.length then
    if ((a0.Edges.getD v1.toNat Z11).To == a1) = true then
     if v2.length + [(a0.Edges.getD v1.toNat Z11).From].length ≤ 1073741824 then
      F79_j10 K (F79_l3 K a0 a1 c6 k3) v1 (v2 ++ [(a0.Edges.getD v1.toNat Z11).From])
     else none
    else
     F79_j10 K (F79_l3 K a0 a1 c6 k3) v1 v2
   else none
  else
   c6 v2
def F79 (K : Nat) (a0 : Z1c) (a1 : Int) : Option ((List Int)) :=
 F79_l3 K a0 a1 (F79_c5 K) K 0 []
def F35 (K : Nat) (a0 : Zc) (a1 : Str) : Option ((List Str) × Int) :=
 (F58 K a0 a1).bind fun v2 =>
  if (!v2.2) = true then
   some ([], 10)
  else
   (F33 K a0).bind fun v4 =>
    (F80 K v4).bind fun v6 =>
     (F79 K v6 v2.1).bind fun v8 =>
      (F75 K a0 v8).bind fun v10 =>
       some (v10, 0)
def F81_c5 (K : Nat) (v4 : (List Int)) : Option ((List Int)) :=
 some v4
def F81_j10 (K : Nat) (b7 : Int → (List Int) → Option ((List Int))) (v1 : Int) (v9 : (List Int)) : Option ((List Int)) :=
 b7 (IntKind.i64.wrap (v1 + 1)) v9
def F81_l3 (K : Nat) (a0 : Z1c) (a1 : Int) (c6 : (List Int) → Option ((List Int))) : Nat → Int → (List Int) → Option ((List Int))
 | 0, _, _ => none
 | k3 + 1, v1, v2 =>
  if (decide (v1 < (a0.Edges.length : Int))) = true then
   if (0 : Int) ≤ v1 ∧ v1 < a0.Edges.length then
    if ((a0.Edges.getD v1.toNat Z11).From == a1) = true then
     if v2.length + [(a0.Edges.getD v1.toNat Z11).To].length ≤ 1073741824 then
      F81_j10 K (F81_l3 K a0 a1 c6 k3) v1 (v2 ++ [(a0.Edges.getD v1.toNat Z11).To])
     else none
    else
     F81_j10 K (F81_l3 K a0 a1 c6 k3) v1 v2
   else none
  else
   c6 v2
def F81 (K : Nat) (a0 : Z1c) (a1 : Int) : Option ((List Int)) :=
 F81_l3 K a0 a1 (F81_c5 K) K 0 []
def F36 (K : Nat) (a0 : Zc) (a1 : Str) : Option ((List Str) × Int) :=
 (F58 K a0 a1).bind fun v2 =>
  if (!v2.2) = true then
   some ([], 10)
  else
   (F33 K a0).bind fun v4 =>
    (F80 K v4).bind fun v6 =>
     (F81 K v6 v2.1).bind fun v8 =>
      (F75 K a0 v8).bind fun v10 =>
       some (v10, 0)
def F8_j20 (K : Nat) (v19 : Bool) : Option (Bool) :=
 some v19
def F8_j22 (K : Nat) (v4 : Zc) (a2 : Int) (v14 : (List Str) × Int) (a1 : Int) (v21 : Bool) : Option (Bool) :=
 if v21 = true then
  some false
 else
  (F36 K v4 (List.map (fun n : Int => UInt8.ofNat n.toNat) [(IntKind.u8.wrap (97 + (a2.tmod 7)))])).bind fun v24 =>
   if (v24.2 != 0) = true then
    some true
   else
    (F38 K v14.1 (List.map (fun n : Int => UInt8.ofNat n.toNat) [(IntKind.u8.wrap (97 + (a2.tmod 7)))])).bind fun v26 =>
     (F38 K v24.1 (List.map (fun n : Int => UInt8.ofNat n.toNat) [(IntKind.u8.wrap (97 + (a1.tmod 7)))])).bind fun v28 =>
      some (v26 == v28)
def F8_c11 (K : Nat) (v4 : Zc) (a1 : Int) (a2 : Int) : Option (Bool) :=
 (F35 K v4 (List.map (fun n : Int => UInt8.ofNat n.toNat) [(IntKind.u8.wrap (97 + (a1.tmod 7)))])).bind fun v14 =>
  (F36 K v4 (List.map (fun n : Int => UInt8.ofNat n.toNat) [(IntKind.u8.wrap (97 + (a1.tmod 7)))])).bind fun v16 =>
   (F31 K v4 (List.map (fun n : Int => UInt8.ofNat n.toNat) [(IntKind.u8.wrap (97 + (a1.tmod 7)))])).bind fun v18 =>
    if (v18.Spans == 0) = true then
     if ((v14.1.length : Int) == 0) = true then
      if (v14.2 == 10) = true then
       if ((v16.1.length : Int) == 0) = true then
        F8_j20 K (v16.2 == 10)
       else
        F8_j20 K false
      else
       F8_j20 K false
     else
      F8_j20 K false
    else
     (F37 K v4 (List.map (fun n : Int => UInt8.ofNat n.toNat) [(IntKind.u8.wrap (97 + (a1.tmod 7)))]) true).bind fun v30 =>
      (F32 K v14.1 v30).bind fun v32 =>
       if (!v32) = true then
        F8_j22 K v4 a2 v14 a1 true
       else
        if (v14.2 != 0) = true then
         F8_j22 K v4 a2 v14 a1 true
        else
         (F37 K v4 (List.map (fun n : Int => UInt8.ofNat n.toNat) [(IntKind.u8.wrap (97 + (a1.tmod 7)))]) false).bind fun v34 =>
          (F32 K v16.1 v34).bind fun v36 =>
           if (!v36) = true then
            F8_j22 K v4 a2 v14 a1 true
           else
            F8_j22 K v4 a2 v14 a1 (v16.2 != 0)
def Zbh (K : Nat) (b37 : Int → Option (Bool)) (v9 : Int) (v39 : Bool) : Option (Bool) :=
 if v39 = true then
  some false
 else
  b37 (IntKind.i64.wrap (v9 + 1))
def Z9n (K : Nat) (v4 : Zc) (v6 : Z1c) (c12 : Option (Bool)) : Nat → Int → Option (Bool)
 | 0, _ => none
 | k10 + 1, v9 =>
  if (decide (v9 < (v4.Calls.length : Int))) = true then
   if (0 : Int) ≤ v9 ∧ v9 < v6.Edges.length then
    if (decide ((v6.Edges.getD v9.toNat Z11).From < 0)) = true then
     Zbh K (Z9n K v4 v6 c12 k10) v9 true
    else
     if (decide ((v6.Edges.getD v9.toNat Z11).From ≥ (v4.Services.length : Int))) = true then
      Zbh K (Z9n K v4 v6 c12 k10) v9 true
     else
      if (decide ((v6.Edges.getD v9.toNat Z11).To < 0)) = true then
       Zbh K (Z9n K v4 v6 c12 k10) v9 true
      else
       if (decide ((v6.Edges.getD v9.toNat Z11).To ≥ (v4.Services.length : Int))) = true then
        Zbh K (Z9n K v4 v6 c12 k10) v9 true
       else
        if (0 : Int) ≤ (v6.Edges.getD v9.toNat Z11).From ∧ (v6.Edges.getD v9.toNat Z11).From < v4.Services.length then
         if (0 : Int) ≤ v9 ∧ v9 < v4.Calls.length then
          if (!((v4.Services.getD (v6.Edges.getD v9.toNat Z11).From.toNat Z9).Name == (v4.Calls.getD v9.toNat Z6).Caller)) = true then
           Zbh K (Z9n K v4 v6 c12 k10) v9 true
          else
           if (0 : Int) ≤ (v6.Edges.getD v9.toNat Z11).To ∧ (v6.Edges.getD v9.toNat Z11).To < v4.Services.length then
            if (0 : Int) ≤ v9 ∧ v9 < v4.Calls.length then
             Zbh K (Z9n K v4 v6 c12 k10) v9 (!((v4.Services.getD (v6.Edges.getD v9.toNat Z11).To.toNat Z9).Name == (v4.Calls.getD v9.toNat Z6).Callee))
            else none
           else none
         else none
        else none
   else none
  else
   c12
def F8_j8 (K : Nat) (v4 : Zc) (v6 : Z1c) (a1 : Int) (a2 : Int) (v7 : Bool) : Option (Bool) :=
 if v7 = true then
  some false
 else
  Z9n K v4 v6 (F8_c11 K v4 a1 a2) K 0
noncomputable def F8 (K : Nat) (a0 : (List Z18)) (a1 : Int) (a2 : Int) : Option (Bool) :=
 (F11 K).bind fun v2 =>
  if (!v2) = true then
   some false
  else
   (F22 K a0).bind fun v4 =>
    (F33 K v4).bind fun v6 =>
     if (v6.Count != (v4.Services.length : Int)) = true then
      F8_j8 K v4 v6 a1 a2 true
     else
      if ((v6.Edges.length : Int) != (v4.Calls.length : Int)) = true then
       F8_j8 K v4 v6 a1 a2 true
      else
       (F34 K v6).bind fun v46 =>
        F8_j8 K v4 v6 a1 a2 (v46 != 0)
end Go.AM.TopZ
