/- What these functions compute, each with its walk: F130, F131, F129, F133, F88, F43, F44, F10. -/
import Derived.Test.YtkhbjnkckblkjaaGreatTopZT
import Derived.Test.YtkhbjnkckblkjaaGreatTopZG1
import Derived.Test.YtkhbjnkckblkjaaGreatTopZG3
import Derived.Test.YtkhbjnkckblkjaaGreatTopZG4
import Derived.Test.YtkhbjnkckblkjaaGreatTopZG8
namespace Go.AM.TopZ
open Go Go.AM Go.Proofs
set_option maxRecDepth 100000
set_option maxHeartbeats 2000000
def F130_c3 (K : Nat) : Option (Int) :=
 some (Int.negSucc 0)
def F130_l2 (K : Nat) (a0 : (List Int)) (a1 : Int) (c4 : Option (Int)) : Nat → Int → Option (Int)
 | 0, _ => none
 | k2 + 1, v1 =>
  if (decide (v1 < (a0.length : Int))) = true then
   if (0 : Int) ≤ v1 ∧ v1 < a0.length then
    if (a1 == (a0.getD v1.toNat 0)) = true then
     some v1
    else
     (F130_l2 K a0 a1 c4 k2) (IntKind.i64.wrap (v1 + 1))
   else none
  else
   c4
def F130 (K : Nat) (a0 : (List Int)) (a1 : Int) : Option (Int) :=
 F130_l2 K a0 a1 (F130_c3 K) K 0
def F131 (K : Nat) (a0 : (List Int)) : Option ((List Int)) :=
 if ([] : List Int).length + a0.length ≤ 1073741824 then
  some a0
 else none
def F129_c51 (K : Nat) (v43 : (List Int)) (v25 : (List (List Int))) (v30 : Int) (v31 : (List (List Int))) (v29 : (List Int)) (v28 : (List Int)) (v27 : (List Int)) (v39 : Int) (v50 : (List Bool)) : Option (Int × (List (List Int)) × (List Int) × (List Int) × (List Int) × (List Bool) × (List (List Int))) :=
 (sortI v43).bind fun v54 =>
  if v25.length + [v54].length ≤ 1073741824 then
   some (v30, v31, v29, v28, ((v27.drop (0 + (0 : Int).toNat)).take (v39.toNat - (0 : Int).toNat)), v50, (v25 ++ [v54]))
  else none
def F129_l49 (K : Nat) (v43 : (List Int)) (c52 : (List Bool) → Option (Int × (List (List Int)) × (List Int) × (List Int) × (List Int) × (List Bool) × (List (List Int)))) : Nat → Int → (List Bool) → Option (Int × (List (List Int)) × (List Int) × (List Int) × (List Int) × (List Bool) × (List (List Int)))
 | 0, _, _ => none
 | k49 + 1, v47, v48 =>
  if (decide (v47 < (v43.length : Int))) = true then
   if (0 : Int) ≤ v47 ∧ v47 < (v43.length : Nat) then
    if v47.toNat < v43.length then
     if (0 : Int) ≤ (v43.getD v47.toNat 0) ∧ (v43.getD v47.toNat 0) < (v48.length : Nat) then
      if (v43.getD v47.toNat 0).toNat < v48.length then
       (F129_l49 K v43 c52 k49) (IntKind.i64.wrap (v47 + 1)) (v48.set (v43.getD v47.toNat 0).toNat false)
      else none
     else none
    else none
   else none
  else
   c52 v48
def F129_c32 (K : Nat) (a0 : Int) (v25 : (List (List Int))) (v26 : (List Bool)) (v27 : (List Int)) (v28 : (List Int)) (v29 : (List Int)) (v30 : Int) (v31 : (List (List Int))) : Option (Int × (List (List Int)) × (List Int) × (List Int) × (List Int) × (List Bool) × (List (List Int))) :=
 if (0 : Int) ≤ a0 ∧ a0 < (v28.length : Nat) then
  if a0.toNat < v28.length then
   if (0 : Int) ≤ a0 ∧ a0 < (v29.length : Nat) then
    if a0.toNat < v29.length then
     if ((v28.getD a0.toNat 0) != (v29.getD a0.toNat 0)) = true then
      some (v30, v31, v29, v28, v27, v26, v25)
     else
      (F130 K v27 a0).bind fun v39 =>
       if (0 : Int) ≤ v39 ∧ v39 ≤ (v27.length : Int) ∧ (v27.length : Int) ≤ (v27.length : Nat) then
        if (0 + v39.toNat) + ((v27.length : Int).toNat - v39.toNat) ≤ v27.length then
         (F131 K ((v27.drop (0 + v39.toNat)).take ((v27.length : Int).toNat - v39.toNat))).bind fun v43 =>
          if (0 : Int) ≤ 0 ∧ 0 ≤ v39 ∧ v39 ≤ (v27.length : Nat) then
           if (0 + (0 : Int).toNat) + (v39.toNat - (0 : Int).toNat) ≤ v27.length then
            if (0 + (0 : Int).toNat) + (v39.toNat - (0 : Int).toNat) ≤ v27.length then
             F129_l49 K v43 (F129_c51 K v43 v25 v30 v31 v29 v28 v27 v39) K 0 v26
            else none
           else none
          else none
        else none
       else none
    else none
   else none
  else none
 else none
def F129_j72 (K : Nat) (b61 : Int → (List (List Int)) → (List Bool) → (List Int) → (List Int) → (List Int) → Int → (List (List Int)) → Option (Int × (List (List Int)) × (List Int) × (List Int) × (List Int) × (List Bool) × (List (List Int)))) (v16 : Int) (v65 : (List (List Int))) (v66 : (List Bool)) (v67 : (List Int)) (v68 : (List Int)) (v69 : (List Int)) (v70 : Int) (v71 : (List (List Int))) : Option (Int × (List (List Int)) × (List Int) × (List Int) × (List Int) × (List Bool) × (List (List Int))) :=
 b61 (IntKind.i64.wrap (v16 + 1)) v65 v66 v67 v68 v69 v70 v71
def Z8m (K : Nat) (a2 : (List (List Int))) (a0 : Int) (b900 : Int → Int → (List (List Int)) → (List Int) → (List Int) → (List Int) → (List Bool) → (List (List Int)) → Option (Int × (List (List Int)) × (List Int) × (List Int) × (List Int) × (List Bool) × (List (List Int)))) (c33 : (List (List Int)) → (List Bool) → (List Int) → (List Int) → (List Int) → Int → (List (List Int)) → Option (Int × (List (List Int)) × (List Int) × (List Int) × (List Int) × (List Bool) × (List (List Int)))) : Nat → Int → (List (List Int)) → (List Bool) → (List Int) → (List Int) → (List Int) → Int → (List (List Int)) → Option (Int × (List (List Int)) × (List Int) × (List Int) × (List Int) × (List Bool) × (List (List Int)))
 | 0, _, _, _, _, _, _, _, _ => none
 | k24 + 1, v16, v17, v18, v19, v20, v21, v22, v23 =>
  if (decide (v16 < ((a2.getD a0.toNat []).length : Int))) = true then
   if (0 : Int) ≤ v16 ∧ v16 < (a2.getD a0.toNat []).length then
    if (0 : Int) ≤ ((a2.getD a0.toNat []).getD v16.toNat 0) ∧ ((a2.getD a0.toNat []).getD v16.toNat 0) < (v21.length : Nat) then
     if ((a2.getD a0.toNat []).getD v16.toNat 0).toNat < v21.length then
      if ((v21.getD ((a2.getD a0.toNat []).getD v16.toNat 0).toNat 0) == 0) = true then
       (b900 ((a2.getD a0.toNat []).getD v16.toNat 0) v22 v23 v21 v20 v19 v18 v17).bind fun v74 =>
        if (0 : Int) ≤ a0 ∧ a0 < (v74.2.2.2.1.length : Nat) then
         if a0.toNat < v74.2.2.2.1.length then
          if (0 : Int) ≤ ((a2.getD a0.toNat []).getD v16.toNat 0) ∧ ((a2.getD a0.toNat []).getD v16.toNat 0) < (v74.2.2.2.1.length : Nat) then
           if ((a2.getD a0.toNat []).getD v16.toNat 0).toNat < v74.2.2.2.1.length then
            if (0 : Int) ≤ a0 ∧ a0 < (v74.2.2.2.1.length : Nat) then
             if a0.toNat < v74.2.2.2.1.length then
              F129_j72 K (Z8m K a2 a0 b900 c33 k24) v16 v74.2.2.2.2.2.2 v74.2.2.2.2.2.1 v74.2.2.2.2.1 (v74.2.2.2.1.set a0.toNat (if (v74.2.2.2.1.getD ((a2.getD a0.toNat []).getD v16.toNat 0).toNat 0) < (v74.2.2.2.1.getD a0.toNat 0) then (v74.2.2.2.1.getD ((a2.getD a0.toNat []).getD v16.toNat 0).toNat 0) else (v74.2.2.2.1.getD a0.toNat 0))) v74.2.2.1 v74.1 v74.2.1
             else none
            else none
           else none
          else none
         else none
        else none
      else
       if (0 : Int) ≤ ((a2.getD a0.toNat []).getD v16.toNat 0) ∧ ((a2.getD a0.toNat []).getD v16.toNat 0) < (v18.length : Nat) then
        if ((a2.getD a0.toNat []).getD v16.toNat 0).toNat < v18.length then
         if (v18.getD ((a2.getD a0.toNat []).getD v16.toNat 0).toNat false) = true then
          if (0 : Int) ≤ a0 ∧ a0 < (v20.length : Nat) then
           if a0.toNat < v20.length then
            if (0 : Int) ≤ ((a2.getD a0.toNat []).getD v16.toNat 0) ∧ ((a2.getD a0.toNat []).getD v16.toNat 0) < (v21.length : Nat) then
             if ((a2.getD a0.toNat []).getD v16.toNat 0).toNat < v21.length then
              if (0 : Int) ≤ a0 ∧ a0 < (v20.length : Nat) then
               if a0.toNat < v20.length then
                F129_j72 K (Z8m K a2 a0 b900 c33 k24) v16 v17 v18 v19 (v20.set a0.toNat (if (v21.getD ((a2.getD a0.toNat []).getD v16.toNat 0).toNat 0) < (v20.getD a0.toNat 0) then (v21.getD ((a2.getD a0.toNat []).getD v16.toNat 0).toNat 0) else (v20.getD a0.toNat 0))) v21 v22 v23
               else none
              else none
             else none
            else none
           else none
          else none
         else
          F129_j72 K (Z8m K a2 a0 b900 c33 k24) v16 v17 v18 v19 v20 v21 v22 v23
        else none
       else none
     else none
    else none
   else none
  else
   c33 v17 v18 v19 v20 v21 v22 v23
def F129 : Nat → Int → Int → (List (List Int)) → (List Int) → (List Int) → (List Int) → (List Bool) → (List (List Int)) → Option (Int × (List (List Int)) × (List Int) × (List Int) × (List Int) × (List Bool) × (List (List Int)))
 | 0, _, _, _, _, _, _, _, _ => none
 | K + 1, a0, a1, a2, a3, a4, a5, a6, a7 =>
  if (0 : Int) ≤ a0 ∧ a0 < (a3.length : Nat) then
   if a0.toNat < a3.length then
    if (0 : Int) ≤ a0 ∧ a0 < (a4.length : Nat) then
     if a0.toNat < a4.length then
      if a5.length + [a0].length ≤ 1073741824 then
       if (0 : Int) ≤ a0 ∧ a0 < (a6.length : Nat) then
        if a0.toNat < a6.length then
         if (0 : Int) ≤ a0 ∧ a0 < a2.length then
          Z8m K a2 a0 (F129 K) (F129_c32 K a0) K 0 a7 (a6.set a0.toNat true) (a5 ++ [a0]) (a4.set a0.toNat (IntKind.i64.wrap (a1 + 1))) (a3.set a0.toNat (IntKind.i64.wrap (a1 + 1))) (IntKind.i64.wrap (a1 + 1)) a2
         else none
        else none
       else none
      else none
     else none
    else none
   else none
  else none
def F133 (K : Nat) (a0 : (List Int)) (a1 : (List Int)) : Option (Int) :=
 if (0 : Int) ≤ 0 ∧ (0 : Int) < a0.length then
  if (0 : Int) ≤ 0 ∧ (0 : Int) < a1.length then
   some (IntKind.i64.wrap ((a0.getD (0 : Int).toNat 0) - (a1.getD (0 : Int).toNat 0)))
  else none
 else none
def F88_c16 (K : Nat) (v15 : (List (List Int))) : Option ((List (List Int))) :=
 (sortF (fun a b => F133 K a b) v15).bind fun v19 =>
  some v19
def F88_j30 (K : Nat) (b20 : Int → (List Int) → (List (List Int)) → (List (List Int)) → Int → (List Int) → (List Bool) → (List Int) → Option ((List (List Int)))) (v6 : Int) (v23 : (List Int)) (v24 : (List (List Int))) (v25 : (List (List Int))) (v26 : Int) (v27 : (List Int)) (v28 : (List Bool)) (v29 : (List Int)) : Option ((List (List Int))) :=
 b20 (IntKind.i64.wrap (v6 + 1)) v23 v24 v25 v26 v27 v28 v29
def F88_l14 (K : Nat) (a0 : Z1c) (c17 : (List (List Int)) → Option ((List (List Int)))) : Nat → Int → (List Int) → (List (List Int)) → (List (List Int)) → Int → (List Int) → (List Bool) → (List Int) → Option ((List (List Int)))
 | 0, _, _, _, _, _, _, _, _ => none
 | k14 + 1, v6, v7, v8, v9, v10, v11, v12, v13 =>
  if (decide (v6 < a0.Count)) = true then
   if (0 : Int) ≤ v6 ∧ v6 < (v7.length : Nat) then
    if v6.toNat < v7.length then
     if ((v7.getD v6.toNat 0) == 0) = true then
      (F129 K v6 v10 v9 v7 v11 v13 v12 v8).bind fun v32 =>
       F88_j30 K (F88_l14 K a0 c17 k14) v6 v32.2.2.1 v32.2.2.2.2.2.2 v32.2.1 v32.1 v32.2.2.2.1 v32.2.2.2.2.2.1 v32.2.2.2.2.1
     else
      F88_j30 K (F88_l14 K a0 c17 k14) v6 v7 v8 v9 v10 v11 v12 v13
    else none
   else none
  else
   c17 v8
def F88 (K : Nat) (a0 : Z1c) : Option ((List (List Int))) :=
 (F113 K a0).bind fun v2 =>
  if (0 : Int) ≤ a0.Count ∧ a0.Count ≤ a0.Count ∧ a0.Count ≤ 1073741824 then
   if (0 : Int) ≤ a0.Count ∧ a0.Count ≤ a0.Count ∧ a0.Count ≤ 1073741824 then
    if (0 : Int) ≤ a0.Count ∧ a0.Count ≤ a0.Count ∧ a0.Count ≤ 1073741824 then
     F88_l14 K a0 (F88_c16 K) K 0 (List.replicate a0.Count.toNat (0 : Int)) [] v2 0 (List.replicate a0.Count.toNat (0 : Int)) (List.replicate a0.Count.toNat (false : Bool)) []
    else none
   else none
  else none
def F43_c9 (K : Nat) (v8 : (List (List Str))) : Option ((List (List Str))) :=
 some v8
def F43_j14 (K : Nat) (b11 : Int → (List (List Str)) → Option ((List (List Str)))) (v5 : Int) (v13 : (List (List Str))) : Option ((List (List Str))) :=
 b11 (IntKind.i64.wrap (v5 + 1)) v13
def F43_l7 (K : Nat) (v4 : (List (List Int))) (a0 : Zc) (c10 : (List (List Str)) → Option ((List (List Str)))) : Nat → Int → (List (List Str)) → Option ((List (List Str)))
 | 0, _, _ => none
 | k7 + 1, v5, v6 =>
  if (decide (v5 < (v4.length : Int))) = true then
   if (0 : Int) ≤ v5 ∧ v5 < v4.length then
    if (decide (((v4.getD v5.toNat []).length : Int) > 1)) = true then
     (F75 K a0 (v4.getD v5.toNat [])).bind fun v16 =>
      if v6.length + [v16].length ≤ 1073741824 then
       F43_j14 K (F43_l7 K v4 a0 c10 k7) v5 (v6 ++ [v16])
      else none
    else
     F43_j14 K (F43_l7 K v4 a0 c10 k7) v5 v6
   else none
  else
   c10 v6
def F43 (K : Nat) (a0 : Zc) : Option ((List (List Str))) :=
 (F33 K a0).bind fun v2 =>
  (F88 K v2).bind fun v4 =>
   F43_l7 K v4 a0 (F43_c9 K) K 0 []
def F44_c6 (K : Nat) (v5 : (List (List Str))) : Option ((List (List Str))) :=
 some v5
def F44_j11 (K : Nat) (b8 : Int → (List (List Str)) → (List Str) → Option ((List (List Str)))) (v1 : Int) (v9 : (List (List Str))) (v10 : (List Str)) : Option ((List (List Str))) :=
 b8 (IntKind.i64.wrap (v1 + 1)) v9 v10
def F44_j27 (K : Nat) (b8 : Int → (List (List Str)) → (List Str) → Option ((List (List Str)))) (v1 : Int) (v3 : (List Str)) (v22 : (List Str)) (v26 : (List (List Str))) : Option ((List (List Str))) :=
 F44_j11 K b8 v1 v26 (v3 ++ v22)
def F44_c23 (K : Nat) (v3 : (List Str)) (v2 : (List (List Str))) (b8 : Int → (List (List Str)) → (List Str) → Option ((List (List Str)))) (v1 : Int) (v22 : (List Str)) : Option ((List (List Str))) :=
 if v3.length + v22.length ≤ 1073741824 then
  if (decide ((v22.length : Int) > 1)) = true then
   if v2.length + [v22].length ≤ 1073741824 then
    F44_j27 K b8 v1 v3 v22 (v2 ++ [v22])
   else none
  else
   F44_j27 K b8 v1 v3 v22 v2
 else none
def F44_j31 (K : Nat) (b29 : Int → (List Str) → Option ((List (List Str)))) (v19 : Int) (v30 : (List Str)) : Option ((List (List Str))) :=
 b29 (IntKind.i64.wrap (v19 + 1)) v30
def F44_j38 (K : Nat) (b29 : Int → (List Str) → Option ((List (List Str)))) (v19 : Int) (v37 : (List Str)) : Option ((List (List Str))) :=
 F44_j31 K b29 v19 v37
def F44_l21 (K : Nat) (a0 : Zc) (v16 : (List Str)) (v18 : (List Str)) (c24 : (List Str) → Option ((List (List Str)))) : Nat → Int → (List Str) → Option ((List (List Str)))
 | 0, _, _ => none
 | k21 + 1, v19, v20 =>
  if (decide (v19 < (a0.Services.length : Int))) = true then
   if (0 : Int) ≤ v19 ∧ v19 < a0.Services.length then
    (F38 K v16 (a0.Services.getD v19.toNat Z9).Name).bind fun v34 =>
     if v34 = true then
      (F38 K v18 (a0.Services.getD v19.toNat Z9).Name).bind fun v36 =>
       if v36 = true then
        if v20.length + [(a0.Services.getD v19.toNat Z9).Name].length ≤ 1073741824 then
         F44_j38 K (F44_l21 K a0 v16 v18 c24 k21) v19 (v20 ++ [(a0.Services.getD v19.toNat Z9).Name])
        else none
       else
        F44_j38 K (F44_l21 K a0 v16 v18 c24 k21) v19 v20
     else
      F44_j31 K (F44_l21 K a0 v16 v18 c24 k21) v19 v20
   else none
  else
   c24 v20
def F44_l4 (K : Nat) (a0 : Zc) (c7 : (List (List Str)) → Option ((List (List Str)))) : Nat → Int → (List (List Str)) → (List Str) → Option ((List (List Str)))
 | 0, _, _, _ => none
 | k4 + 1, v1, v2, v3 =>
  if (decide (v1 < (a0.Services.length : Int))) = true then
   if (0 : Int) ≤ v1 ∧ v1 < a0.Services.length then
    (F38 K v3 (a0.Services.getD v1.toNat Z9).Name).bind fun v14 =>
     if v14 = true then
      F44_j11 K (F44_l4 K a0 c7 k4) v1 v2 v3
     else
      (F37 K a0 (a0.Services.getD v1.toNat Z9).Name false).bind fun v16 =>
       (F37 K a0 (a0.Services.getD v1.toNat Z9).Name true).bind fun v18 =>
        F44_l21 K a0 v16 v18 (F44_c23 K v3 v2 (F44_l4 K a0 c7 k4) v1) K (IntKind.i64.wrap (v1 + 1)) [(a0.Services.getD v1.toNat Z9).Name]
   else none
  else
   c7 v2
def F44 (K : Nat) (a0 : Zc) : Option ((List (List Str))) :=
 F44_l4 K a0 (F44_c6 K) K 0 [] []
def F10_c13 (K : Nat) : Option (Bool) :=
 some true
def F10_l12 (K : Nat) (v6 : (List (List Str))) (v10 : (List (List Str))) (c14 : Option (Bool)) : Nat → Int → Option (Bool)
 | 0, _ => none
 | k12 + 1, v11 =>
  if (decide (v11 < (v6.length : Int))) = true then
   if (0 : Int) ≤ v11 ∧ v11 < v6.length then
    if (0 : Int) ≤ v11 ∧ v11 < v10.length then
     (F32 K (v6.getD v11.toNat []) (v10.getD v11.toNat [])).bind fun v19 =>
      if (!v19) = true then
       some false
      else
       (F10_l12 K v6 v10 c14 k12) (IntKind.i64.wrap (v11 + 1))
    else none
   else none
  else
   c14
noncomputable def F10 (K : Nat) (a0 : (List Z18)) : Option (Bool) :=
 (F11 K).bind fun v2 =>
  if (!v2) = true then
   some false
  else
   (F22 K a0).bind fun v4 =>
    (F43 K v4).bind fun v6 =>
     (F22 K a0).bind fun v8 =>
      (F44 K v8).bind fun v10 =>
       if ((v6.length : Int) != (v10.length : Int)) = true then
        some false
       else
        F10_l12 K v6 v10 (F10_c13 K) K 0
end Go.AM.TopZ
