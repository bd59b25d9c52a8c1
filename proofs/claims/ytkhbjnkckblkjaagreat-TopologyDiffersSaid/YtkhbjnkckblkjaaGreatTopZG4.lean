/- What these functions compute, each with its walk: F116, F118, F119, F77, F33, F113, F75, F38, F32. -/
import Derived.Test.YtkhbjnkckblkjaaGreatTopZT
import Derived.Test.YtkhbjnkckblkjaaGreatTopZG2
namespace Go.AM.TopZ
open Go Go.AM Go.Proofs
set_option maxRecDepth 100000
set_option maxHeartbeats 2000000
def F116 (K : Nat) (a0 : (List Z19)) : Option ((List Z19)) :=
 if ([] : List Z19).length + a0.length ≤ 1073741824 then
  some a0
 else none
def F118 (K : Nat) (a0 : Z19) (a1 : Z19) : Option (Int) :=
 if (a0.From != a1.From) = true then
  some (IntKind.i64.wrap (a0.From - a1.From))
 else
  some (IntKind.i64.wrap (a0.To - a1.To))
def F119_c3 (K : Nat) (a0 : (List Z19)) : Option ((List Z19)) :=
 some a0
def F119_c18 (K : Nat) (v16 : Int) (v17 : (List Z19)) : Option ((List Z19)) :=
 if (0 : Int) ≤ v16 ∧ v16 ≤ (v17.length : Int) ∧ (v17.length : Int) ≤ (v17.length : Nat) then
  if (0 + v16.toNat) + ((v17.length : Int).toNat - v16.toNat) ≤ v17.length then
   if (0 + v16.toNat) + ((v17.length : Int).toNat - v16.toNat) ≤ v17.length then
    if (0 : Int) ≤ 0 ∧ 0 ≤ v16 ∧ v16 ≤ ((v17.take (0 + v16.toNat) ++ List.replicate ((v17.length : Int).toNat - v16.toNat) Z11 ++ v17.drop ((0 + v16.toNat) + ((v17.length : Int).toNat - v16.toNat))).length : Nat) then
     if (0 + (0 : Int).toNat) + (v16.toNat - (0 : Int).toNat) ≤ (v17.take (0 + v16.toNat) ++ List.replicate ((v17.length : Int).toNat - v16.toNat) Z11 ++ v17.drop ((0 + v16.toNat) + ((v17.length : Int).toNat - v16.toNat))).length then
      some (((v17.take (0 + v16.toNat) ++ List.replicate ((v17.length : Int).toNat - v16.toNat) Z11 ++ v17.drop ((0 + v16.toNat) + ((v17.length : Int).toNat - v16.toNat))).drop (0 + (0 : Int).toNat)).take (v16.toNat - (0 : Int).toNat))
     else none
    else none
   else none
  else none
 else none
def F119_j35 (K : Nat) (b25 : Int → Int → (List Z19) → Option ((List Z19))) (v13 : Int) (v33 : Int) (v34 : (List Z19)) : Option ((List Z19)) :=
 b25 v33 (IntKind.i64.wrap (v13 + 1)) v34
def F119_l15 (K : Nat) (v1 : Int) (a0 : (List Z19)) (c19 : Int → (List Z19) → Option ((List Z19))) : Nat → Int → Int → (List Z19) → Option ((List Z19))
 | 0, _, _, _ => none
 | k15 + 1, v12, v13, v14 =>
  if (0 + v1.toNat) + ((a0.length : Int).toNat - v1.toNat) ≤ v14.length then
   if (decide (v13 < ((((a0.length : Int).toNat - v1.toNat) : Nat) : Int))) = true then
    if (0 + v1.toNat) + ((a0.length : Int).toNat - v1.toNat) ≤ v14.length then
     if (0 : Int) ≤ v13 ∧ v13 < (((a0.length : Int).toNat - v1.toNat) : Nat) then
      if ((0 + v1.toNat) + v13.toNat) < v14.length then
       if (0 + v1.toNat) + ((a0.length : Int).toNat - v1.toNat) ≤ v14.length then
        if (0 : Int) ≤ (IntKind.i64.wrap (v13 - 1)) ∧ (IntKind.i64.wrap (v13 - 1)) < (((a0.length : Int).toNat - v1.toNat) : Nat) then
         if ((0 + v1.toNat) + (IntKind.i64.wrap (v13 - 1)).toNat) < v14.length then
          if (!(((v14.getD ((0 + v1.toNat) + v13.toNat) Z11).From == (v14.getD ((0 + v1.toNat) + (IntKind.i64.wrap (v13 - 1)).toNat) Z11).From) && (((v14.getD ((0 + v1.toNat) + v13.toNat) Z11).To == (v14.getD ((0 + v1.toNat) + (IntKind.i64.wrap (v13 - 1)).toNat) Z11).To) && true))) = true then
           if (0 + v1.toNat) + ((a0.length : Int).toNat - v1.toNat) ≤ v14.length then
            if (0 : Int) ≤ v13 ∧ v13 < (((a0.length : Int).toNat - v1.toNat) : Nat) then
             if ((0 + v1.toNat) + v13.toNat) < v14.length then
              if (0 : Int) ≤ v12 ∧ v12 < (v14.length : Nat) then
               if v12.toNat < v14.length then
                F119_j35 K (F119_l15 K v1 a0 c19 k15) v13 (IntKind.i64.wrap (v12 + 1)) (v14.set v12.toNat (v14.getD ((0 + v1.toNat) + v13.toNat) Z11))
               else none
              else none
             else none
            else none
           else none
          else
           F119_j35 K (F119_l15 K v1 a0 c19 k15) v13 v12 v14
         else none
        else none
       else none
      else none
     else none
    else none
   else
    c19 v12 v14
  else none
def F119_l2 (K : Nat) (a0 : (List Z19)) (c4 : Option ((List Z19))) : Nat → Int → Option ((List Z19))
 | 0, _ => none
 | k2 + 1, v1 =>
  if (decide (v1 < (a0.length : Int))) = true then
   if (0 : Int) ≤ v1 ∧ v1 < (a0.length : Nat) then
    if v1.toNat < a0.length then
     if (0 : Int) ≤ (IntKind.i64.wrap (v1 - 1)) ∧ (IntKind.i64.wrap (v1 - 1)) < (a0.length : Nat) then
      if (IntKind.i64.wrap (v1 - 1)).toNat < a0.length then
       if (((a0.getD v1.toNat Z11).From == (a0.getD (IntKind.i64.wrap (v1 - 1)).toNat Z11).From) && (((a0.getD v1.toNat Z11).To == (a0.getD (IntKind.i64.wrap (v1 - 1)).toNat Z11).To) && true)) = true then
        if (0 : Int) ≤ v1 ∧ v1 ≤ (a0.length : Int) ∧ (a0.length : Int) ≤ (a0.length : Nat) then
         if (0 + v1.toNat) + ((a0.length : Int).toNat - v1.toNat) ≤ a0.length then
          F119_l15 K v1 a0 (F119_c18 K) K v1 1 a0
         else none
        else none
       else
        (F119_l2 K a0 c4 k2) (IntKind.i64.wrap (v1 + 1))
      else none
     else none
    else none
   else none
  else
   c4
def F119 (K : Nat) (a0 : (List Z19)) : Option ((List Z19)) :=
 if (decide ((a0.length : Int) < 2)) = true then
  some a0
 else
  F119_l2 K a0 (F119_c3 K a0) K 1
def F77_c3 (K : Nat) (a1 : (List Z19)) (a0 : Int) : Option (Z1c × Int) :=
 (F116 K a1).bind fun v6 =>
  (sortF (fun a b => F118 K a b) v6).bind fun v8 =>
   (F119 K v8).bind fun v10 =>
    some ((⟨a0, v10⟩ : Z1c), 0)
def F77_j14 (K : Nat) (b11 : Int → Option (Z1c × Int)) (v1 : Int) (v13 : Bool) : Option (Z1c × Int) :=
 if v13 = true then
  some (Z4h, 10)
 else
  b11 (IntKind.i64.wrap (v1 + 1))
def F77_l2 (K : Nat) (a1 : (List Z19)) (a0 : Int) (c4 : Option (Z1c × Int)) : Nat → Int → Option (Z1c × Int)
 | 0, _ => none
 | k2 + 1, v1 =>
  if (decide (v1 < (a1.length : Int))) = true then
   if (0 : Int) ≤ v1 ∧ v1 < a1.length then
    if (decide ((a1.getD v1.toNat Z11).From < 0)) = true then
     F77_j14 K (F77_l2 K a1 a0 c4 k2) v1 true
    else
     if (decide ((a1.getD v1.toNat Z11).From ≥ a0)) = true then
      F77_j14 K (F77_l2 K a1 a0 c4 k2) v1 true
     else
      if (decide ((a1.getD v1.toNat Z11).To < 0)) = true then
       F77_j14 K (F77_l2 K a1 a0 c4 k2) v1 true
      else
       F77_j14 K (F77_l2 K a1 a0 c4 k2) v1 (decide ((a1.getD v1.toNat Z11).To ≥ a0))
   else none
  else
   c4
def F77 (K : Nat) (a0 : Int) (a1 : (List Z19)) : Option (Z1c × Int) :=
 if (decide (a0 < 0)) = true then
  some (Z4h, 2)
 else
  if (decide (a0 > 256)) = true then
   some (Z4h, 2)
  else
   F77_l2 K a1 a0 (F77_c3 K a1 a0) K 0
def F33_c5 (K : Nat) (a0 : Zc) (v4 : (List Z19)) : Option (Z1c) :=
 (F77 K (a0.Services.length : Int) v4).bind fun v8 =>
  some v8.1
def F33_l3 (K : Nat) (a0 : Zc) (c6 : (List Z19) → Option (Z1c)) : Nat → Int → (List Z19) → Option (Z1c)
 | 0, _, _ => none
 | k3 + 1, v1, v2 =>
  if (decide (v1 < (a0.Calls.length : Int))) = true then
   if (0 : Int) ≤ v1 ∧ v1 < a0.Calls.length then
    (F58 K a0 (a0.Calls.getD v1.toNat Z6).Caller).bind fun v12 =>
     (F58 K a0 (a0.Calls.getD v1.toNat Z6).Callee).bind fun v14 =>
      if v2.length + [(⟨v12.1, v14.1⟩ : Z19)].length ≤ 1073741824 then
       (F33_l3 K a0 c6 k3) (IntKind.i64.wrap (v1 + 1)) (v2 ++ [(⟨v12.1, v14.1⟩ : Z19)])
      else none
   else none
  else
   c6 v2
def F33 (K : Nat) (a0 : Zc) : Option (Z1c) :=
 F33_l3 K a0 (F33_c5 K a0) K 0 []
def F113_c6 (K : Nat) (v5 : (List (List Int))) : Option ((List (List Int))) :=
 some v5
def F113_l4 (K : Nat) (a0 : Z1c) (c7 : (List (List Int)) → Option ((List (List Int)))) : Nat → Int → (List (List Int)) → Option ((List (List Int)))
 | 0, _, _ => none
 | k4 + 1, v2, v3 =>
  if (decide (v2 < (a0.Edges.length : Int))) = true then
   if (0 : Int) ≤ v2 ∧ v2 < a0.Edges.length then
    if (0 : Int) ≤ (a0.Edges.getD v2.toNat Z11).From ∧ (a0.Edges.getD v2.toNat Z11).From < v3.length then
     if (a0.Edges.getD v2.toNat Z11).From.toNat < v3.length then
      if (a0.Edges.getD v2.toNat Z11).From.toNat < v3.length then
       if (v3.getD (a0.Edges.getD v2.toNat Z11).From.toNat []).length + [(a0.Edges.getD v2.toNat Z11).To].length ≤ 1073741824 then
        if (0 : Int) ≤ (a0.Edges.getD v2.toNat Z11).From ∧ (a0.Edges.getD v2.toNat Z11).From < (v3.set (a0.Edges.getD v2.toNat Z11).From.toNat ((v3.getD (a0.Edges.getD v2.toNat Z11).From.toNat []) ++ [(a0.Edges.getD v2.toNat Z11).To])).length then
         if (a0.Edges.getD v2.toNat Z11).From.toNat < (v3.set (a0.Edges.getD v2.toNat Z11).From.toNat ((v3.getD (a0.Edges.getD v2.toNat Z11).From.toNat []) ++ [(a0.Edges.getD v2.toNat Z11).To])).length then
          (F113_l4 K a0 c7 k4) (IntKind.i64.wrap (v2 + 1)) (v3.set (a0.Edges.getD v2.toNat Z11).From.toNat ((v3.getD (a0.Edges.getD v2.toNat Z11).From.toNat []) ++ [(a0.Edges.getD v2.toNat Z11).To]))
         else none
        else none
       else none
      else none
     else none
    else none
   else none
  else
   c7 v3
def F113 (K : Nat) (a0 : Z1c) : Option ((List (List Int))) :=
 if (0 : Int) ≤ a0.Count ∧ a0.Count ≤ a0.Count ∧ a0.Count ≤ 1073741824 then
  F113_l4 K a0 (F113_c6 K) K 0 (List.replicate a0.Count.toNat ([] : List Int))
 else none
def F75_c5 (K : Nat) (v4 : (List Str)) : Option ((List Str)) :=
 some v4
def F75_l3 (K : Nat) (a1 : (List Int)) (a0 : Zc) (c6 : (List Str) → Option ((List Str))) : Nat → Int → (List Str) → Option ((List Str))
 | 0, _, _ => none
 | k3 + 1, v1, v2 =>
  if (decide (v1 < (a1.length : Int))) = true then
   if (0 : Int) ≤ v1 ∧ v1 < a1.length then
    if (0 : Int) ≤ (a1.getD v1.toNat 0) ∧ (a1.getD v1.toNat 0) < a0.Services.length then
     if v2.length + [(a0.Services.getD (a1.getD v1.toNat 0).toNat Z9).Name].length ≤ 1073741824 then
      (F75_l3 K a1 a0 c6 k3) (IntKind.i64.wrap (v1 + 1)) (v2 ++ [(a0.Services.getD (a1.getD v1.toNat 0).toNat Z9).Name])
     else none
    else none
   else none
  else
   c6 v2
def F75 (K : Nat) (a0 : Zc) (a1 : (List Int)) : Option ((List Str)) :=
 F75_l3 K a1 a0 (F75_c5 K) K 0 []
def F38_c3 (K : Nat) : Option (Bool) :=
 some false
def F38_l2 (K : Nat) (a0 : (List Str)) (a1 : Str) (c4 : Option (Bool)) : Nat → Int → Option (Bool)
 | 0, _ => none
 | k2 + 1, v1 =>
  if (decide (v1 < (a0.length : Int))) = true then
   if (0 : Int) ≤ v1 ∧ v1 < a0.length then
    if ((a0.getD v1.toNat []) == a1) = true then
     some true
    else
     (F38_l2 K a0 a1 c4 k2) (IntKind.i64.wrap (v1 + 1))
   else none
  else
   c4
def F38 (K : Nat) (a0 : (List Str)) (a1 : Str) : Option (Bool) :=
 F38_l2 K a0 a1 (F38_c3 K) K 0
def F32_c3 (K : Nat) : Option (Bool) :=
 some true
def F32_l2 (K : Nat) (a0 : (List Str)) (a1 : (List Str)) (c4 : Option (Bool)) : Nat → Int → Option (Bool)
 | 0, _ => none
 | k2 + 1, v1 =>
  if (decide (v1 < (a0.length : Int))) = true then
   if (0 : Int) ≤ v1 ∧ v1 < a0.length then
    if (0 : Int) ≤ v1 ∧ v1 < a1.length then
     if (!((a0.getD v1.toNat []) == (a1.getD v1.toNat []))) = true then
      some false
     else
      (F32_l2 K a0 a1 c4 k2) (IntKind.i64.wrap (v1 + 1))
    else none
   else none
  else
   c4
def F32 (K : Nat) (a0 : (List Str)) (a1 : (List Str)) : Option (Bool) :=
 if ((a0.length : Int) != (a1.length : Int)) = true then
  some false
 else
  F32_l2 K a0 a1 (F32_c3 K) K 0
end Go.AM.TopZ
