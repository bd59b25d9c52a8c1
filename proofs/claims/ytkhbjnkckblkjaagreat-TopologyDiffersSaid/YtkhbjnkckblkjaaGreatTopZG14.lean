/- What these functions compute, each with its walk: F111, F114, F115, F74, F29, F28, F76, F30, F7. -/
import Derived.Test.YtkhbjnkckblkjaaGreatTopZT
import Derived.Test.YtkhbjnkckblkjaaGreatTopZG1
import Derived.Test.YtkhbjnkckblkjaaGreatTopZG2
import Derived.Test.YtkhbjnkckblkjaaGreatTopZG3
import Derived.Test.YtkhbjnkckblkjaaGreatTopZG4
import Derived.Test.YtkhbjnkckblkjaaGreatTopZG7
namespace Go.AM.TopZ
open Go Go.AM Go.Proofs
set_option maxRecDepth 100000
set_option maxHeartbeats 2000000
def F111 (K : Nat) (a0 : Z1c) (a1 : Int) : Option (Bool) :=
 if (decide (a1 ≥ 0)) = true then
  some (decide (a1 < a0.Count))
 else
  some false
def F114_c6 (K : Nat) (a0 : Z1c) (v5 : (List Z19)) : Option (Z1c) :=
 (F77 K a0.Count v5).bind fun v9 =>
  some v9.1
def F114_l4 (K : Nat) (a0 : Z1c) (c7 : (List Z19) → Option (Z1c)) : Nat → Int → (List Z19) → Option (Z1c)
 | 0, _, _ => none
 | k4 + 1, v2, v3 =>
  if (decide (v2 < (a0.Edges.length : Int))) = true then
   if (0 : Int) ≤ v2 ∧ v2 < a0.Edges.length then
    if v3.length + [(⟨(a0.Edges.getD v2.toNat Z11).To, (a0.Edges.getD v2.toNat Z11).From⟩ : Z19)].length ≤ 1073741824 then
     (F114_l4 K a0 c7 k4) (IntKind.i64.wrap (v2 + 1)) (v3 ++ [(⟨(a0.Edges.getD v2.toNat Z11).To, (a0.Edges.getD v2.toNat Z11).From⟩ : Z19)])
    else none
   else none
  else
   c7 v3
def F114 (K : Nat) (a0 : Z1c) : Option (Z1c) :=
 if (0 : Int) ≤ 0 ∧ 0 ≤ (a0.Edges.length : Int) ∧ (a0.Edges.length : Int) ≤ 1073741824 then
  F114_l4 K a0 (F114_c6 K a0) K 0 (List.replicate (0 : Int).toNat (Z11 : Z19))
 else none
def F115_c4 (K : Nat) (v3 : (List Int)) : Option ((List Int)) :=
 some v3
def F115_c13 (K : Nat) (b6 : (List Int) → Option ((List Int))) (v12 : (List Int)) : Option ((List Int)) :=
 b6 v12
def F115_l11 (K : Nat) (a0 : (List (List Int))) (v1 : (List Int)) (a1 : (List Int)) (a3 : Int) (c14 : (List Int) → Option ((List Int))) : Nat → Int → Option ((List Int))
 | 0, _ => none
 | k11 + 1, v10 =>
  if (decide (v10 < ((a0.getD (v1.getD (IntKind.i64.wrap ((v1.length : Int) - 1)).toNat 0).toNat []).length : Int))) = true then
   if (0 : Int) ≤ v10 ∧ v10 < (a0.getD (v1.getD (IntKind.i64.wrap ((v1.length : Int) - 1)).toNat 0).toNat []).length then
    if (0 : Int) ≤ ((a0.getD (v1.getD (IntKind.i64.wrap ((v1.length : Int) - 1)).toNat 0).toNat []).getD v10.toNat 0) ∧ ((a0.getD (v1.getD (IntKind.i64.wrap ((v1.length : Int) - 1)).toNat 0).toNat []).getD v10.toNat 0) < a1.length then
     if ((a1.getD ((a0.getD (v1.getD (IntKind.i64.wrap ((v1.length : Int) - 1)).toNat 0).toNat []).getD v10.toNat 0).toNat 0) == (IntKind.i64.wrap ((IntKind.i64.wrap (a3 - (v1.length : Int))) - 1))) = true then
      if v1.length + ([((a0.getD (v1.getD (IntKind.i64.wrap ((v1.length : Int) - 1)).toNat 0).toNat []).getD v10.toNat 0)]).length ≤ 1073741824 then
       c14 (v1 ++ ([((a0.getD (v1.getD (IntKind.i64.wrap ((v1.length : Int) - 1)).toNat 0).toNat []).getD v10.toNat 0)]))
      else none
     else
      (F115_l11 K a0 v1 a1 a3 c14 k11) (IntKind.i64.wrap (v10 + 1))
    else none
   else none
  else
   c14 v1
def F115_l2 (K : Nat) (a3 : Int) (a0 : (List (List Int))) (a1 : (List Int)) (c5 : (List Int) → Option ((List Int))) : Nat → (List Int) → Option ((List Int))
 | 0, _ => none
 | k2 + 1, v1 =>
  if (decide ((v1.length : Int) < a3)) = true then
   if (0 : Int) ≤ (IntKind.i64.wrap ((v1.length : Int) - 1)) ∧ (IntKind.i64.wrap ((v1.length : Int) - 1)) < (v1.length : Nat) then
    if (IntKind.i64.wrap ((v1.length : Int) - 1)).toNat < v1.length then
     if (0 : Int) ≤ (v1.getD (IntKind.i64.wrap ((v1.length : Int) - 1)).toNat 0) ∧ (v1.getD (IntKind.i64.wrap ((v1.length : Int) - 1)).toNat 0) < a0.length then
      F115_l11 K a0 v1 a1 a3 (F115_c13 K (F115_l2 K a3 a0 a1 c5 k2)) K 0
     else none
    else none
   else none
  else
   c5 v1
def F115 (K : Nat) (a0 : (List (List Int))) (a1 : (List Int)) (a2 : Int) (a3 : Int) : Option ((List Int)) :=
 F115_l2 K a3 a0 a1 (F115_c4 K) K [a2]
def F74 (K : Nat) (a0 : Z1c) (a1 : Int) (a2 : Int) : Option ((List Int) × Int) :=
 (F111 K a0 a1).bind fun v2 =>
  if (!v2) = true then
   some ([], 10)
  else
   (F111 K a0 a2).bind fun v4 =>
    if (!v4) = true then
     some ([], 10)
    else
     (F114 K a0).bind fun v6 =>
      (F113 K v6).bind fun v8 =>
       (F112 K v8 [a2] (Int.negSucc 0)).bind fun v10 =>
        if (0 : Int) ≤ a1 ∧ a1 < v10.length then
         if (decide ((v10.getD a1.toNat 0) < 0)) = true then
          some ([], 22)
         else
          (F113 K a0).bind fun v13 =>
           if (0 : Int) ≤ a1 ∧ a1 < v10.length then
            (F115 K v13 v10 a1 (IntKind.i64.wrap ((v10.getD a1.toNat 0) + 1))).bind fun v16 =>
             some (v16, 0)
           else none
        else none
def F29 (K : Nat) (a0 : Zc) (a1 : Str) (a2 : Str) : Option ((List Str) × Int) :=
 (F58 K a0 a1).bind fun v2 =>
  (F58 K a0 a2).bind fun v4 =>
   if (!v2.2) = true then
    some ([], 10)
   else
    if (!v4.2) = true then
     some ([], 10)
    else
     (F33 K a0).bind fun v6 =>
      (F74 K v6 v2.1 v4.1).bind fun v8 =>
       if (v8.2 != 0) = true then
        some ([], v8.2)
       else
        (F75 K a0 v8.1).bind fun v10 =>
         some (v10, 0)
def F28 (K : Nat) (a0 : Zc) (a1 : Str) (a2 : Str) : Option (Int × Int) :=
 (F29 K a0 a1 a2).bind fun v2 =>
  some ((if 0 > (IntKind.i64.wrap ((v2.1.length : Int) - 1)) then 0 else (IntKind.i64.wrap ((v2.1.length : Int) - 1))), v2.2)
def F76_c7 (K : Nat) : Option (Bool) :=
 some false
def F76_l6 (K : Nat) (a1 : (List (List Str))) (a2 : Str) (c8 : Option (Bool)) : Nat → Int → Option (Bool)
 | 0, _ => none
 | k6 + 1, v5 =>
  if (decide (v5 < (a1.length : Int))) = true then
   if (0 : Int) ≤ v5 ∧ v5 < a1.length then
    if (0 : Int) ≤ v5 ∧ v5 < a1.length then
     if (0 : Int) ≤ (IntKind.i64.wrap (((a1.getD v5.toNat []).length : Int) - 1)) ∧ (IntKind.i64.wrap (((a1.getD v5.toNat []).length : Int) - 1)) < (a1.getD v5.toNat []).length then
      if (((a1.getD v5.toNat []).getD (IntKind.i64.wrap (((a1.getD v5.toNat []).length : Int) - 1)).toNat []) == a2) = true then
       some true
      else
       (F76_l6 K a1 a2 c8 k6) (IntKind.i64.wrap (v5 + 1))
     else none
    else none
   else none
  else
   c8
def F76_c3 (K : Nat) (a1 : (List (List Str))) (a2 : Str) : Option (Bool) :=
 F76_l6 K a1 a2 (F76_c7 K) K 0
def F76_l2 (K : Nat) (a0 : (List (List Str))) (a2 : Str) (c4 : Option (Bool)) : Nat → Int → Option (Bool)
 | 0, _ => none
 | k2 + 1, v1 =>
  if (decide (v1 < (a0.length : Int))) = true then
   if (0 : Int) ≤ v1 ∧ v1 < a0.length then
    (F38 K (a0.getD v1.toNat []) a2).bind fun v16 =>
     if v16 = true then
      some true
     else
      (F76_l2 K a0 a2 c4 k2) (IntKind.i64.wrap (v1 + 1))
   else none
  else
   c4
def F76 (K : Nat) (a0 : (List (List Str))) (a1 : (List (List Str))) (a2 : Str) : Option (Bool) :=
 F76_l2 K a0 a2 (F76_c3 K a1 a2) K 0
def F30_c4 (K : Nat) : Option ((List Str) × Bool) :=
 some ([], false)
def F30_c11 (K : Nat) (b6 : Int → (List (List Str)) → Option ((List Str) × Bool)) (v1 : Int) (v10 : (List (List Str))) : Option ((List Str) × Bool) :=
 b6 (IntKind.i64.wrap (v1 + 1)) v10
def F30_c25 (K : Nat) (b13 : Int → (List (List Str)) → Option ((List Str) × Bool)) (v7 : Int) (v24 : (List (List Str))) : Option ((List Str) × Bool) :=
 b13 (IntKind.i64.wrap (v7 + 1)) v24
def F30_j29 (K : Nat) (b27 : Int → (List (List Str)) → Option ((List Str) × Bool)) (v21 : Int) (v28 : (List (List Str))) : Option ((List Str) × Bool) :=
 b27 (IntKind.i64.wrap (v21 + 1)) v28
def F30_j35 (K : Nat) (b27 : Int → (List (List Str)) → Option ((List Str) × Bool)) (v21 : Int) (v34 : (List (List Str))) : Option ((List Str) × Bool) :=
 F30_j29 K b27 v21 v34
def F30_l23 (K : Nat) (a0 : Zc) (v2 : (List (List Str))) (v7 : Int) (c26 : (List (List Str)) → Option ((List Str) × Bool)) : Nat → Int → (List (List Str)) → Option ((List Str) × Bool)
 | 0, _, _ => none
 | k23 + 1, v21, v22 =>
  if (decide (v21 < (a0.Calls.length : Int))) = true then
   if (0 : Int) ≤ v21 ∧ v21 < a0.Calls.length then
    if ((a0.Calls.getD v21.toNat Z6).Caller == ((v2.getD v7.toNat []).getD (IntKind.i64.wrap (((v2.getD v7.toNat []).length : Int) - 1)).toNat [])) = true then
     if (0 : Int) ≤ v21 ∧ v21 < a0.Calls.length then
      (F76 K v2 v22 (a0.Calls.getD v21.toNat Z6).Callee).bind fun v33 =>
       if (!v33) = true then
        if (0 : Int) ≤ v7 ∧ v7 < (v2.length : Nat) then
         if v7.toNat < v2.length then
          if ([] : List Str).length + (v2.getD v7.toNat []).length ≤ 1073741824 then
           if (0 : Int) ≤ v21 ∧ v21 < a0.Calls.length then
            if (v2.getD v7.toNat []).length + [(a0.Calls.getD v21.toNat Z6).Callee].length ≤ 1073741824 then
             if v22.length + ([((v2.getD v7.toNat []) ++ [(a0.Calls.getD v21.toNat Z6).Callee])]).length ≤ 1073741824 then
              F30_j35 K (F30_l23 K a0 v2 v7 c26 k23) v21 (v22 ++ ([((v2.getD v7.toNat []) ++ [(a0.Calls.getD v21.toNat Z6).Callee])]))
             else none
            else none
           else none
          else none
         else none
        else none
       else
        F30_j35 K (F30_l23 K a0 v2 v7 c26 k23) v21 v22
     else none
    else
     F30_j29 K (F30_l23 K a0 v2 v7 c26 k23) v21 v22
   else none
  else
   c26 v22
def F30_l9 (K : Nat) (v2 : (List (List Str))) (a2 : Str) (a0 : Zc) (c12 : (List (List Str)) → Option ((List Str) × Bool)) : Nat → Int → (List (List Str)) → Option ((List Str) × Bool)
 | 0, _, _ => none
 | k9 + 1, v7, v8 =>
  if (decide (v7 < (v2.length : Int))) = true then
   if (0 : Int) ≤ v7 ∧ v7 < (v2.length : Nat) then
    if v7.toNat < v2.length then
     if (0 : Int) ≤ v7 ∧ v7 < (v2.length : Nat) then
      if v7.toNat < v2.length then
       if (0 : Int) ≤ (IntKind.i64.wrap (((v2.getD v7.toNat []).length : Int) - 1)) ∧ (IntKind.i64.wrap (((v2.getD v7.toNat []).length : Int) - 1)) < (v2.getD v7.toNat []).length then
        if (((v2.getD v7.toNat []).getD (IntKind.i64.wrap (((v2.getD v7.toNat []).length : Int) - 1)).toNat []) == a2) = true then
         if (0 : Int) ≤ v7 ∧ v7 < (v2.length : Nat) then
          if v7.toNat < v2.length then
           some ((v2.getD v7.toNat []), true)
          else none
         else none
        else
         F30_l23 K a0 v2 v7 (F30_c25 K (F30_l9 K v2 a2 a0 c12 k9) v7) K 0 v8
       else none
      else none
     else none
    else none
   else none
  else
   c12 v8
def F30_l3 (K : Nat) (a0 : Zc) (a2 : Str) (c5 : Option ((List Str) × Bool)) : Nat → Int → (List (List Str)) → Option ((List Str) × Bool)
 | 0, _, _ => none
 | k3 + 1, v1, v2 =>
  if (decide (v1 ≤ (a0.Services.length : Int))) = true then
   F30_l9 K v2 a2 a0 (F30_c11 K (F30_l3 K a0 a2 c5 k3) v1) K 0 []
  else
   c5
def F30 (K : Nat) (a0 : Zc) (a1 : Str) (a2 : Str) : Option ((List Str) × Bool) :=
 F30_l3 K a0 a2 (F30_c4 K) K 0 ([[a1]])
def F7_j14 (K : Nat) (v13 : Bool) : Option (Bool) :=
 some v13
def F7_j16 (K : Nat) (v15 : Bool) : Option (Bool) :=
 some v15
def F7_j12 (K : Nat) (v6 : Int × Int) (v8 : (List Str) × Int) (v10 : (List Str) × Bool) (v11 : Int) : Option (Bool) :=
 if (v11 != 0) = true then
  if (v6.1 == 0) = true then
   if ((v8.1.length : Int) == 0) = true then
    if (v6.2 == v11) = true then
     F7_j14 K (v8.2 == v11)
    else
     F7_j14 K false
   else
    F7_j14 K false
  else
   F7_j14 K false
 else
  if (v6.1 == (IntKind.i64.wrap ((v10.1.length : Int) - 1))) = true then
   (F32 K v8.1 v10.1).bind fun v18 =>
    if v18 = true then
     if (v6.2 == 0) = true then
      F7_j16 K (v8.2 == 0)
     else
      F7_j16 K false
    else
     F7_j16 K false
  else
   F7_j16 K false
def F7_j24 (K : Nat) (v6 : Int × Int) (v8 : (List Str) × Int) (v10 : (List Str) × Bool) (v23 : Int) : Option (Bool) :=
 F7_j12 K v6 v8 v10 v23
noncomputable def F7 (K : Nat) (a0 : (List Z18)) (a1 : Int) (a2 : Int) : Option (Bool) :=
 (F11 K).bind fun v2 =>
  if (!v2) = true then
   some false
  else
   (F22 K a0).bind fun v4 =>
    (F28 K v4 (List.map (fun n : Int => UInt8.ofNat n.toNat) [(IntKind.u8.wrap (97 + (a1.tmod 7)))]) (List.map (fun n : Int => UInt8.ofNat n.toNat) [(IntKind.u8.wrap (97 + (a2.tmod 7)))])).bind fun v6 =>
     (F29 K v4 (List.map (fun n : Int => UInt8.ofNat n.toNat) [(IntKind.u8.wrap (97 + (a1.tmod 7)))]) (List.map (fun n : Int => UInt8.ofNat n.toNat) [(IntKind.u8.wrap (97 + (a2.tmod 7)))])).bind fun v8 =>
      (F30 K v4 (List.map (fun n : Int => UInt8.ofNat n.toNat) [(IntKind.u8.wrap (97 + (a1.tmod 7)))]) (List.map (fun n : Int => UInt8.ofNat n.toNat) [(IntKind.u8.wrap (97 + (a2.tmod 7)))])).bind fun v10 =>
       (F31 K v4 (List.map (fun n : Int => UInt8.ofNat n.toNat) [(IntKind.u8.wrap (97 + (a1.tmod 7)))])).bind fun v20 =>
        if (v20.Spans == 0) = true then
         F7_j12 K v6 v8 v10 10
        else
         (F31 K v4 (List.map (fun n : Int => UInt8.ofNat n.toNat) [(IntKind.u8.wrap (97 + (a2.tmod 7)))])).bind fun v22 =>
          if (v22.Spans == 0) = true then
           F7_j24 K v6 v8 v10 10
          else
           if (!v10.2) = true then
            F7_j24 K v6 v8 v10 22
           else
            F7_j24 K v6 v8 v10 0
end Go.AM.TopZ
