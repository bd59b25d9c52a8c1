/- What these functions compute, each with its walk: F23, F5. -/
import Derived.Test.YtcfcnnkaiboddaaGraT
import Derived.Test.YtcfcnnkaiboddaaGraG0
import Derived.Test.YtcfcnnkaiboddaaGraG1
import Derived.Test.YtcfcnnkaiboddaaGraG2
import Derived.Test.YtcfcnnkaiboddaaGraG4
import Derived.Test.YtcfcnnkaiboddaaGraG6
import Derived.Test.YtcfcnnkaiboddaaGraG10
namespace Go.AM.Gra
open Go Go.AM Go.Proofs
set_option maxRecDepth 100000
set_option maxHeartbeats 2000000
def F23_c9 (K : Nat) (v8 : (List Int)) : Option ((List Int)) :=
 some v8
def F23_j22 (K : Nat) (b11 : Int → Int → (List Int) → Option ((List Int))) (v5 : Int) (v16 : (List Int)) (v21 : Int) : Option ((List Int)) :=
 b11 v21 (IntKind.i64.wrap (v5 + 1)) v16
def F23_c17 (K : Nat) (v5 : Int) (v4 : Int) (b11 : Int → Int → (List Int) → Option ((List Int))) (v16 : (List Int)) : Option ((List Int)) :=
 if (0 : Int) ≤ v5 ∧ v5 < (v16.length : Nat) then
  if v5.toNat < v16.length then
   if ((v16.getD v5.toNat 0) == v4) = true then
    F23_j22 K b11 v5 v16 (IntKind.i64.wrap (v4 + 1))
   else
    F23_j22 K b11 v5 v16 v4
  else none
 else none
def F23_j24 (K : Nat) (b23 : Int → Option ((List Int))) (v14 : Int) : Option ((List Int)) :=
 b23 (IntKind.i64.wrap (v14 + 1))
def F23_l15 (K : Nat) (v5 : Int) (v2 : (List (List Bool))) (v6 : (List Int)) (v4 : Int) (c18 : (List Int) → Option ((List Int))) : Nat → Int → Option ((List Int))
 | 0, _ => none
 | k15 + 1, v14 =>
  if (decide (v14 < v5)) = true then
   if (0 : Int) ≤ v5 ∧ v5 < v2.length then
    if (0 : Int) ≤ v14 ∧ v14 < (v2.getD v5.toNat []).length then
     if ((v2.getD v5.toNat []).getD v14.toNat false) = true then
      if (0 : Int) ≤ v14 ∧ v14 < v2.length then
       if (0 : Int) ≤ v5 ∧ v5 < (v2.getD v14.toNat []).length then
        if ((v2.getD v14.toNat []).getD v5.toNat false) = true then
         if (0 : Int) ≤ v14 ∧ v14 < ((v6.set v5.toNat v4).length : Nat) then
          if v14.toNat < (v6.set v5.toNat v4).length then
           if (0 : Int) ≤ v5 ∧ v5 < ((v6.set v5.toNat v4).length : Nat) then
            if v5.toNat < (v6.set v5.toNat v4).length then
             c18 ((v6.set v5.toNat v4).set v5.toNat ((v6.set v5.toNat v4).getD v14.toNat 0))
            else none
           else none
          else none
         else none
        else
         F23_j24 K (F23_l15 K v5 v2 v6 v4 c18 k15) v14
       else none
      else none
     else
      F23_j24 K (F23_l15 K v5 v2 v6 v4 c18 k15) v14
    else none
   else none
  else
   c18 (v6.set v5.toNat v4)
def F23_l7 (K : Nat) (a0 : (List (List Bool))) (v2 : (List (List Bool))) (c10 : (List Int) → Option ((List Int))) : Nat → Int → Int → (List Int) → Option ((List Int))
 | 0, _, _, _ => none
 | k7 + 1, v4, v5, v6 =>
  if (decide (v5 < (a0.length : Int))) = true then
   if (0 : Int) ≤ v5 ∧ v5 < (v6.length : Nat) then
    if v5.toNat < v6.length then
     F23_l15 K v5 v2 v6 v4 (F23_c17 K v5 v4 (F23_l7 K a0 v2 c10 k7)) K 0
    else none
   else none
  else
   c10 v6
def F23 (K : Nat) (a0 : (List (List Bool))) : Option ((List Int)) :=
 (F40 K a0).bind fun v2 =>
  if (0 : Int) ≤ (a0.length : Int) ∧ (a0.length : Int) ≤ (a0.length : Int) ∧ (a0.length : Int) ≤ 1073741824 then
   F23_l7 K a0 v2 (F23_c9 K) K 0 0 (List.replicate (a0.length : Int).toNat (0 : Int))
  else none
def F5_j30 (K : Nat) (v29 : Bool) : Option (Bool) :=
 some v29
def F5_c23 (K : Nat) (v6 : Za) (v8 : (List Int)) (v22 : (List (List Bool))) : Option (Bool) :=
 (F26 K v6).bind fun v26 =>
  (F20 K v26.1).bind fun v28 =>
   (F16 K v22).bind fun v32 =>
    (F27 K v26.1 v32).bind fun v34 =>
     if v34 = true then
      (F18 K v26.2 v8).bind fun v36 =>
       if v36 = true then
        F5_j30 K (!v28.2)
       else
        F5_j30 K false
     else
      F5_j30 K false
def F5_c42 (K : Nat) (b37 : Int → (List (List Bool)) → Option (Bool)) (v19 : Int) (v41 : (List (List Bool))) : Option (Bool) :=
 b37 (IntKind.i64.wrap (v19 + 1)) v41
def F5_j46 (K : Nat) (b44 : Int → (List (List Bool)) → Option (Bool)) (v38 : Int) (v45 : (List (List Bool))) : Option (Bool) :=
 b44 (IntKind.i64.wrap (v38 + 1)) v45
def F5_j52 (K : Nat) (b44 : Int → (List (List Bool)) → Option (Bool)) (v38 : Int) (v51 : (List (List Bool))) : Option (Bool) :=
 F5_j46 K b44 v38 v51
def F5_l40 (K : Nat) (v4 : (List (List Bool))) (v19 : Int) (v8 : (List Int)) (c43 : (List (List Bool)) → Option (Bool)) : Nat → Int → (List (List Bool)) → Option (Bool)
 | 0, _, _ => none
 | k40 + 1, v38, v39 =>
  if (decide (v38 < (v4.length : Int))) = true then
   if (0 : Int) ≤ v19 ∧ v19 < v4.length then
    if (0 : Int) ≤ v38 ∧ v38 < (v4.getD v19.toNat []).length then
     if ((v4.getD v19.toNat []).getD v38.toNat false) = true then
      if (0 : Int) ≤ v19 ∧ v19 < v8.length then
       if (0 : Int) ≤ v38 ∧ v38 < v8.length then
        if ((v8.getD v19.toNat 0) != (v8.getD v38.toNat 0)) = true then
         if (0 : Int) ≤ v19 ∧ v19 < v8.length then
          if (0 : Int) ≤ (v8.getD v19.toNat 0) ∧ (v8.getD v19.toNat 0) < v39.length then
           if (v8.getD v19.toNat 0).toNat < v39.length then
            if (0 : Int) ≤ v38 ∧ v38 < v8.length then
             if (v8.getD v19.toNat 0).toNat < v39.length then
              if (0 : Int) ≤ (v8.getD v38.toNat 0) ∧ (v8.getD v38.toNat 0) < (v39.getD (v8.getD v19.toNat 0).toNat []).length then
               if (v8.getD v19.toNat 0).toNat < v39.length then
                if (v8.getD v38.toNat 0).toNat < (v39.getD (v8.getD v19.toNat 0).toNat []).length then
                 F5_j52 K (F5_l40 K v4 v19 v8 c43 k40) v38 (v39.set (v8.getD v19.toNat 0).toNat ((v39.getD (v8.getD v19.toNat 0).toNat []).set (v8.getD v38.toNat 0).toNat true))
                else none
               else none
              else none
             else none
            else none
           else none
          else none
         else none
        else
         F5_j52 K (F5_l40 K v4 v19 v8 c43 k40) v38 v39
       else none
      else none
     else
      F5_j46 K (F5_l40 K v4 v19 v8 c43 k40) v38 v39
    else none
   else none
  else
   c43 v39
def F5_l21 (K : Nat) (v4 : (List (List Bool))) (v8 : (List Int)) (c24 : (List (List Bool)) → Option (Bool)) : Nat → Int → (List (List Bool)) → Option (Bool)
 | 0, _, _ => none
 | k21 + 1, v19, v20 =>
  if (decide (v19 < (v4.length : Int))) = true then
   F5_l40 K v4 v19 v8 (F5_c42 K (F5_l21 K v4 v8 c24 k21) v19) K 0 v20
  else
   c24 v20
def F5_c15 (K : Nat) (v10 : (List (List Int))) (v4 : (List (List Bool))) (v8 : (List Int)) (v6 : Za) (v14 : Int) : Option (Bool) :=
 (F25 K (v10.length : Int)).bind fun v18 =>
  if (v14 != (v4.length : Int)) = true then
   some false
  else
   F5_l21 K v4 v8 (F5_c23 K v6 v8) K 0 v18
def F5_c66 (K : Nat) (b61 : Int → Int → Option (Bool)) (v12 : Int) (v65 : Int) : Option (Bool) :=
 b61 v65 (IntKind.i64.wrap (v12 + 1))
def F5_j73 (K : Nat) (b68 : Int → Int → Option (Bool)) (v62 : Int) (v63 : Int) (v72 : Bool) : Option (Bool) :=
 if v72 = true then
  some false
 else
  b68 (IntKind.i64.wrap (v62 + 1)) (IntKind.i64.wrap (v63 + 1))
def F5_l64 (K : Nat) (v12 : Int) (v10 : (List (List Int))) (v4 : (List (List Bool))) (v8 : (List Int)) (c67 : Int → Option (Bool)) : Nat → Int → Int → Option (Bool)
 | 0, _, _ => none
 | k64 + 1, v62, v63 =>
  if (0 : Int) ≤ v12 ∧ v12 < v10.length then
   if (decide (v63 < ((v10.getD v12.toNat []).length : Int))) = true then
    if (0 : Int) ≤ v12 ∧ v12 < v10.length then
     if (0 : Int) ≤ v63 ∧ v63 < (v10.getD v12.toNat []).length then
      if (decide (((v10.getD v12.toNat []).getD v63.toNat 0) < 0)) = true then
       F5_j73 K (F5_l64 K v12 v10 v4 v8 c67 k64) v62 v63 true
      else
       if (decide (((v10.getD v12.toNat []).getD v63.toNat 0) ≥ (v4.length : Int))) = true then
        F5_j73 K (F5_l64 K v12 v10 v4 v8 c67 k64) v62 v63 true
       else
        if (0 : Int) ≤ ((v10.getD v12.toNat []).getD v63.toNat 0) ∧ ((v10.getD v12.toNat []).getD v63.toNat 0) < v8.length then
         if ((v8.getD ((v10.getD v12.toNat []).getD v63.toNat 0).toNat 0) != v12) = true then
          F5_j73 K (F5_l64 K v12 v10 v4 v8 c67 k64) v62 v63 true
         else
          if (decide (v63 > 0)) = true then
           if (0 : Int) ≤ v12 ∧ v12 < v10.length then
            if (0 : Int) ≤ (IntKind.i64.wrap (v63 - 1)) ∧ (IntKind.i64.wrap (v63 - 1)) < (v10.getD v12.toNat []).length then
             F5_j73 K (F5_l64 K v12 v10 v4 v8 c67 k64) v62 v63 (decide (((v10.getD v12.toNat []).getD v63.toNat 0) ≤ ((v10.getD v12.toNat []).getD (IntKind.i64.wrap (v63 - 1)).toNat 0)))
            else none
           else none
          else
           F5_j73 K (F5_l64 K v12 v10 v4 v8 c67 k64) v62 v63 false
        else none
     else none
    else none
   else
    c67 v62
  else none
def F5_l13 (K : Nat) (v10 : (List (List Int))) (v4 : (List (List Bool))) (v8 : (List Int)) (c16 : Int → Option (Bool)) : Nat → Int → Int → Option (Bool)
 | 0, _, _ => none
 | k13 + 1, v11, v12 =>
  if (decide (v12 < (v10.length : Int))) = true then
   F5_l64 K v12 v10 v4 v8 (F5_c66 K (F5_l13 K v10 v4 v8 c16 k13) v12) K v11 0
  else
   c16 v11
def F5 (K : Nat) (a0 : Z11) : Option (Bool) :=
 (F13 K).bind fun v2 =>
  if (!v2) = true then
   some false
  else
   (F14 K a0).bind fun v4 =>
    (F16 K v4).bind fun v6 =>
     (F23 K v4).bind fun v8 =>
      (F24 K v6).bind fun v10 =>
       F5_l13 K v10 v4 v8 (F5_c15 K v10 v4 v8 v6) K 0 0
end Go.AM.Gra
