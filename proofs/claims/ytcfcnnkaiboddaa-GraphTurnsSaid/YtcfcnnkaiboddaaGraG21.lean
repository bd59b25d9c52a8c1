/- What these functions compute, each with its walk: F41, F62, F42, F11. -/
import Derived.Test.YtcfcnnkaiboddaaGraT
import Derived.Test.YtcfcnnkaiboddaaGraG0
import Derived.Test.YtcfcnnkaiboddaaGraG1
import Derived.Test.YtcfcnnkaiboddaaGraG2
import Derived.Test.YtcfcnnkaiboddaaGraG3
import Derived.Test.YtcfcnnkaiboddaaGraG5
namespace Go.AM.Gra
open Go Go.AM Go.Proofs
set_option maxRecDepth 100000
set_option maxHeartbeats 2000000
def F41_c22 (K : Nat) (v21 : (List Int)) : Option ((List Int) × Int) :=
 some (v21, 0)
def F41_c31 (K : Nat) (b24 : Int → (List Int) → Option ((List Int) × Int)) (v18 : Int) (v30 : (List Int)) : Option ((List Int) × Int) :=
 b24 (IntKind.i64.wrap (v18 + 1)) v30
def F41_j37 (K : Nat) (b33 : Int → (List Int) → Option ((List Int) × Int)) (v27 : Int) (v36 : (List Int)) : Option ((List Int) × Int) :=
 b33 (IntKind.i64.wrap (v27 + 1)) v36
def F41_j35 (K : Nat) (v18 : Int) (v28 : (List Int)) (b33 : Int → (List Int) → Option ((List Int) × Int)) (v27 : Int) (v34 : Bool) : Option ((List Int) × Int) :=
 if v34 = true then
  if (0 : Int) ≤ v18 ∧ v18 < (v28.length : Nat) then
   if v18.toNat < v28.length then
    F41_j37 K b33 v27 (v28.set v18.toNat v27)
   else none
  else none
 else
  F41_j37 K b33 v27 v28
def F41_l29 (K : Nat) (a0 : Za) (v18 : Int) (v13 : (List (List Bool))) (v14 : (List Int)) (c32 : (List Int) → Option ((List Int) × Int)) : Nat → Int → (List Int) → Option ((List Int) × Int)
 | 0, _, _ => none
 | k29 + 1, v27, v28 =>
  if (decide (v27 < a0.Count)) = true then
   if (v27 != v18) = true then
    if (0 : Int) ≤ v27 ∧ v27 < v13.length then
     if v27.toNat < v13.length then
      if v27.toNat < v13.length then
       if (0 : Int) ≤ v18 ∧ v18 < (v13.getD v27.toNat []).length then
        if v27.toNat < v13.length then
         if v18.toNat < (v13.getD v27.toNat []).length then
          if ((v13.getD v27.toNat []).getD v18.toNat false) = true then
           if (0 : Int) ≤ v18 ∧ v18 < (v28.length : Nat) then
            if v18.toNat < v28.length then
             if (decide ((v28.getD v18.toNat 0) < 0)) = true then
              F41_j35 K v18 v28 (F41_l29 K a0 v18 v13 v14 c32 k29) v27 true
             else
              if (0 : Int) ≤ v27 ∧ v27 < (v14.length : Nat) then
               if v27.toNat < v14.length then
                if (0 : Int) ≤ v18 ∧ v18 < (v28.length : Nat) then
                 if v18.toNat < v28.length then
                  if (0 : Int) ≤ (v28.getD v18.toNat 0) ∧ (v28.getD v18.toNat 0) < (v14.length : Nat) then
                   if (v28.getD v18.toNat 0).toNat < v14.length then
                    F41_j35 K v18 v28 (F41_l29 K a0 v18 v13 v14 c32 k29) v27 (decide ((v14.getD v27.toNat 0) > (v14.getD (v28.getD v18.toNat 0).toNat 0)))
                   else none
                  else none
                 else none
                else none
               else none
              else none
            else none
           else none
          else
           F41_j35 K v18 v28 (F41_l29 K a0 v18 v13 v14 c32 k29) v27 false
         else none
        else none
       else none
      else none
     else none
    else none
   else
    F41_j35 K v18 v28 (F41_l29 K a0 v18 v13 v14 c32 k29) v27 false
  else
   c32 v28
def F41_l20 (K : Nat) (a0 : Za) (v13 : (List (List Bool))) (v14 : (List Int)) (c23 : (List Int) → Option ((List Int) × Int)) : Nat → Int → (List Int) → Option ((List Int) × Int)
 | 0, _, _ => none
 | k20 + 1, v18, v19 =>
  if (decide (v18 < a0.Count)) = true then
   if (0 : Int) ≤ v18 ∧ v18 < (v19.length : Nat) then
    if v18.toNat < v19.length then
     F41_l29 K a0 v18 v13 v14 (F41_c31 K (F41_l20 K a0 v13 v14 c23 k20) v18) K 0 (v19.set v18.toNat (Int.negSucc 0))
    else none
   else none
  else
   c23 v19
def F41_c15 (K : Nat) (a0 : Za) (v13 : (List (List Bool))) (v14 : (List Int)) : Option ((List Int) × Int) :=
 if (0 : Int) ≤ a0.Count ∧ a0.Count ≤ a0.Count ∧ a0.Count ≤ 1073741824 then
  F41_l20 K a0 v13 v14 (F41_c22 K) K 0 (List.replicate a0.Count.toNat (0 : Int))
 else none
def F41_j57 (K : Nat) (b54 : Int → (List (List Bool)) → (List Int) → Option ((List Int) × Int)) (v9 : Int) (v55 : (List (List Bool))) (v56 : (List Int)) : Option ((List Int) × Int) :=
 b54 (IntKind.i64.wrap (v9 + 1)) v55 v56
def F41_c70 (K : Nat) (b54 : Int → (List (List Bool)) → (List Int) → Option ((List Int) × Int)) (v9 : Int) (v68 : (List (List Bool))) (v69 : (List Int)) : Option ((List Int) × Int) :=
 F41_j57 K b54 v9 v68 v69
def F41_j75 (K : Nat) (b72 : Int → (List (List Bool)) → (List Int) → Option ((List Int) × Int)) (v64 : Int) (v73 : (List (List Bool))) (v74 : (List Int)) : Option ((List Int) × Int) :=
 b72 (IntKind.i64.wrap (v64 + 1)) v73 v74
def F41_j80 (K : Nat) (b72 : Int → (List (List Bool)) → (List Int) → Option ((List Int) × Int)) (v64 : Int) (v78 : (List (List Bool))) (v79 : (List Int)) : Option ((List Int) × Int) :=
 F41_j75 K b72 v64 v78 v79
def F41_l67 (K : Nat) (a0 : Za) (v6 : (List Int)) (v63 : (List Int)) (v9 : Int) (c71 : (List (List Bool)) → (List Int) → Option ((List Int) × Int)) : Nat → Int → (List (List Bool)) → (List Int) → Option ((List Int) × Int)
 | 0, _, _, _ => none
 | k67 + 1, v64, v65, v66 =>
  if (decide (v64 < a0.Count)) = true then
   if (0 : Int) ≤ v64 ∧ v64 < v6.length then
    if (decide ((v6.getD v64.toNat 0) ≥ 0)) = true then
     if (0 : Int) ≤ v64 ∧ v64 < v63.length then
      if (decide ((v63.getD v64.toNat 0) < 0)) = true then
       if (0 : Int) ≤ v9 ∧ v9 < v65.length then
        if v9.toNat < v65.length then
         if v9.toNat < v65.length then
          if (0 : Int) ≤ v64 ∧ v64 < (v65.getD v9.toNat []).length then
           if v9.toNat < v65.length then
            if v64.toNat < (v65.getD v9.toNat []).length then
             if (0 : Int) ≤ v64 ∧ v64 < (v66.length : Nat) then
              if v64.toNat < v66.length then
               if (0 : Int) ≤ v64 ∧ v64 < (v66.length : Nat) then
                if v64.toNat < v66.length then
                 F41_j80 K (F41_l67 K a0 v6 v63 v9 c71 k67) v64 (v65.set v9.toNat ((v65.getD v9.toNat []).set v64.toNat true)) (v66.set v64.toNat (IntKind.i64.wrap ((v66.getD v64.toNat 0) + 1)))
                else none
               else none
              else none
             else none
            else none
           else none
          else none
         else none
        else none
       else none
      else
       F41_j80 K (F41_l67 K a0 v6 v63 v9 c71 k67) v64 v65 v66
     else none
    else
     F41_j75 K (F41_l67 K a0 v6 v63 v9 c71 k67) v64 v65 v66
   else none
  else
   c71 v65 v66
def F41_l12 (K : Nat) (a0 : Za) (v6 : (List Int)) (v4 : (List (List Int))) (a1 : Int) (c16 : (List (List Bool)) → (List Int) → Option ((List Int) × Int)) : Nat → Int → (List (List Bool)) → (List Int) → Option ((List Int) × Int)
 | 0, _, _, _ => none
 | k12 + 1, v9, v10, v11 =>
  if (decide (v9 < a0.Count)) = true then
   if (0 : Int) ≤ a0.Count ∧ a0.Count ≤ a0.Count ∧ a0.Count ≤ 1073741824 then
    if (0 : Int) ≤ v9 ∧ v9 < v10.length then
     if v9.toNat < v10.length then
      if (0 : Int) ≤ v9 ∧ v9 < v6.length then
       if (decide ((v6.getD v9.toNat 0) < 0)) = true then
        F41_j57 K (F41_l12 K a0 v6 v4 a1 c16 k12) v9 (v10.set v9.toNat (List.replicate a0.Count.toNat (false : Bool))) v11
       else
        (F46 K v4 [a1] v9).bind fun v63 =>
         F41_l67 K a0 v6 v63 v9 (F41_c70 K (F41_l12 K a0 v6 v4 a1 c16 k12) v9) K 0 (v10.set v9.toNat (List.replicate a0.Count.toNat (false : Bool))) v11
      else none
     else none
    else none
   else none
  else
   c16 v10 v11
def F41 (K : Nat) (a0 : Za) (a1 : Int) : Option ((List Int) × Int) :=
 (F45 K a0 a1).bind fun v2 =>
  if (!v2) = true then
   some ([], 10)
  else
   (F47 K a0).bind fun v4 =>
    (F46 K v4 [a1] (Int.negSucc 0)).bind fun v6 =>
     if (0 : Int) ≤ a0.Count ∧ a0.Count ≤ a0.Count ∧ a0.Count ≤ 1073741824 then
      if (0 : Int) ≤ a0.Count ∧ a0.Count ≤ a0.Count ∧ a0.Count ≤ 1073741824 then
       F41_l12 K a0 v6 v4 a1 (F41_c15 K a0) K 0 (List.replicate a0.Count.toNat ([] : List Bool)) (List.replicate a0.Count.toNat (0 : Int))
      else none
     else none
def F62_c7 (K : Nat) (a1 : Int) (a3 : Int) (v6 : (List (List Bool))) : Option (Bool) :=
 (F32 K v6 a1).bind fun v10 =>
  if (0 : Int) ≤ a3 ∧ a3 < v10.length then
   some (decide ((v10.getD a3.toNat 0) < 0))
  else none
def F62_l5 (K : Nat) (a0 : (List (List Bool))) (a2 : Int) (c8 : (List (List Bool)) → Option (Bool)) : Nat → Int → (List (List Bool)) → Option (Bool)
 | 0, _, _ => none
 | k5 + 1, v3, v4 =>
  if (decide (v3 < (a0.length : Int))) = true then
   if (0 : Int) ≤ a2 ∧ a2 < v4.length then
    if a2.toNat < v4.length then
     if (0 : Int) ≤ v3 ∧ v3 < v4.length then
      if v3.toNat < v4.length then
       if a2.toNat < v4.length then
        if (0 : Int) ≤ v3 ∧ v3 < (v4.getD a2.toNat []).length then
         if a2.toNat < v4.length then
          if v3.toNat < (v4.getD a2.toNat []).length then
           if v3.toNat < (v4.set a2.toNat ((v4.getD a2.toNat []).set v3.toNat false)).length then
            if (0 : Int) ≤ a2 ∧ a2 < ((v4.set a2.toNat ((v4.getD a2.toNat []).set v3.toNat false)).getD v3.toNat []).length then
             if v3.toNat < (v4.set a2.toNat ((v4.getD a2.toNat []).set v3.toNat false)).length then
              if a2.toNat < ((v4.set a2.toNat ((v4.getD a2.toNat []).set v3.toNat false)).getD v3.toNat []).length then
               (F62_l5 K a0 a2 c8 k5) (IntKind.i64.wrap (v3 + 1)) ((v4.set a2.toNat ((v4.getD a2.toNat []).set v3.toNat false)).set v3.toNat (((v4.set a2.toNat ((v4.getD a2.toNat []).set v3.toNat false)).getD v3.toNat []).set a2.toNat false))
              else none
             else none
            else none
           else none
          else none
         else none
        else none
       else none
      else none
     else none
    else none
   else none
  else
   c8 v4
def F62 (K : Nat) (a0 : (List (List Bool))) (a1 : Int) (a2 : Int) (a3 : Int) : Option (Bool) :=
 if (a2 == a3) = true then
  some true
 else
  if (a2 == a1) = true then
   some true
  else
   (F61 K a0).bind fun v2 =>
    F62_l5 K a0 a2 (F62_c7 K a1 a3) K 0 v2
def F42_c8 (K : Nat) (v7 : (List Int)) : Option ((List Int)) :=
 some v7
def F42_j12 (K : Nat) (b10 : Int → (List Int) → Option ((List Int))) (v4 : Int) (v11 : (List Int)) : Option ((List Int)) :=
 b10 (IntKind.i64.wrap (v4 + 1)) v11
def F42_c20 (K : Nat) (b10 : Int → (List Int) → Option ((List Int))) (v4 : Int) (v19 : (List Int)) : Option ((List Int)) :=
 F42_j12 K b10 v4 v19
def F42_j24 (K : Nat) (b22 : Int → (List Int) → Option ((List Int))) (v16 : Int) (v23 : (List Int)) : Option ((List Int)) :=
 b22 (IntKind.i64.wrap (v16 + 1)) v23
def F42_j36 (K : Nat) (b22 : Int → (List Int) → Option ((List Int))) (v16 : Int) (v35 : (List Int)) : Option ((List Int)) :=
 F42_j24 K b22 v16 v35
def F42_j26 (K : Nat) (b22 : Int → (List Int) → Option ((List Int))) (v16 : Int) (v17 : (List Int)) (v4 : Int) (a0 : (List (List Bool))) (a1 : Int) (v25 : Bool) : Option ((List Int)) :=
 if v25 = true then
  F42_j24 K b22 v16 v17
 else
  if (0 : Int) ≤ v4 ∧ v4 < (v17.length : Nat) then
   if v4.toNat < v17.length then
    if (decide ((v17.getD v4.toNat 0) < 0)) = true then
     if (0 : Int) ≤ v4 ∧ v4 < (v17.length : Nat) then
      if v4.toNat < v17.length then
       F42_j24 K b22 v16 (v17.set v4.toNat v16)
      else none
     else none
    else
     if (0 : Int) ≤ v4 ∧ v4 < (v17.length : Nat) then
      if v4.toNat < v17.length then
       (F62 K a0 a1 (v17.getD v4.toNat 0) v16).bind fun v34 =>
        if v34 = true then
         if (0 : Int) ≤ v4 ∧ v4 < (v17.length : Nat) then
          if v4.toNat < v17.length then
           F42_j36 K b22 v16 (v17.set v4.toNat v16)
          else none
         else none
        else
         F42_j36 K b22 v16 v17
      else none
     else none
   else none
  else none
def F42_l18 (K : Nat) (a0 : (List (List Bool))) (v4 : Int) (a1 : Int) (v3 : (List Int)) (c21 : (List Int) → Option ((List Int))) : Nat → Int → (List Int) → Option ((List Int))
 | 0, _, _ => none
 | k18 + 1, v16, v17 =>
  if (decide (v16 < (a0.length : Int))) = true then
   if (v16 == v4) = true then
    F42_j26 K (F42_l18 K a0 v4 a1 v3 c21 k18) v16 v17 v4 a0 a1 true
   else
    if (0 : Int) ≤ v16 ∧ v16 < v3.length then
     if (decide ((v3.getD v16.toNat 0) < 0)) = true then
      F42_j26 K (F42_l18 K a0 v4 a1 v3 c21 k18) v16 v17 v4 a0 a1 true
     else
      (F62 K a0 a1 v16 v4).bind fun v41 =>
       F42_j26 K (F42_l18 K a0 v4 a1 v3 c21 k18) v16 v17 v4 a0 a1 (!v41)
    else none
  else
   c21 v17
def F42_l6 (K : Nat) (a0 : (List (List Bool))) (a1 : Int) (v3 : (List Int)) (c9 : (List Int) → Option ((List Int))) : Nat → Int → (List Int) → Option ((List Int))
 | 0, _, _ => none
 | k6 + 1, v4, v5 =>
  if (decide (v4 < (a0.length : Int))) = true then
   if (0 : Int) ≤ v4 ∧ v4 < (v5.length : Nat) then
    if v4.toNat < v5.length then
     if (v4 == a1) = true then
      F42_j12 K (F42_l6 K a0 a1 v3 c9 k6) v4 (v5.set v4.toNat (Int.negSucc 0))
     else
      if (0 : Int) ≤ v4 ∧ v4 < v3.length then
       if (decide ((v3.getD v4.toNat 0) < 0)) = true then
        F42_j12 K (F42_l6 K a0 a1 v3 c9 k6) v4 (v5.set v4.toNat (Int.negSucc 0))
       else
        F42_l18 K a0 v4 a1 v3 (F42_c20 K (F42_l6 K a0 a1 v3 c9 k6) v4) K 0 (v5.set v4.toNat (Int.negSucc 0))
      else none
    else none
   else none
  else
   c9 v5
def F42 (K : Nat) (a0 : (List (List Bool))) (a1 : Int) : Option ((List Int)) :=
 if (0 : Int) ≤ (a0.length : Int) ∧ (a0.length : Int) ≤ (a0.length : Int) ∧ (a0.length : Int) ≤ 1073741824 then
  (F32 K a0 a1).bind fun v3 =>
   F42_l6 K a0 a1 v3 (F42_c8 K) K 0 (List.replicate (a0.length : Int).toNat (0 : Int))
 else none
def F11 (K : Nat) (a0 : Z11) (a1 : Int) : Option (Bool) :=
 (F13 K).bind fun v2 =>
  if (!v2) = true then
   some false
  else
   (F14 K a0).bind fun v4 =>
    (F16 K v4).bind fun v6 =>
     (F41 K v6 a1).bind fun v8 =>
      if (decide (a1 < 0)) = true then
       if ((v8.1.length : Int) == 0) = true then
        some (v8.2 == 10)
       else
        some false
      else
       if (decide (a1 ≥ (v4.length : Int))) = true then
        if ((v8.1.length : Int) == 0) = true then
         some (v8.2 == 10)
        else
         some false
       else
        if (v8.2 == 0) = true then
         (F42 K v4 a1).bind fun v10 =>
          (F18 K v8.1 v10).bind fun v12 =>
           some v12
        else
         some false
end Go.AM.Gra
