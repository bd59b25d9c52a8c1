/- What these functions compute, each with its walk: F60, F39. -/
import Derived.Test.YtcfcnnkaiboddaaGraT
import Derived.Test.YtcfcnnkaiboddaaGraG0
namespace Go.AM.Gra
open Go Go.AM Go.Proofs
set_option maxRecDepth 100000
set_option maxHeartbeats 2000000
def F60_c8 (K : Nat) (v7 : (List (List Bool))) : Option ((List (List Bool))) :=
 some v7
def F60_c21 (K : Nat) (b10 : Int → (List (List Bool)) → Option ((List (List Bool)))) (v4 : Int) (v20 : (List (List Bool))) : Option ((List (List Bool))) :=
 b10 (IntKind.i64.wrap (v4 + 1)) v20
def F60_l19 (K : Nat) (v16 : (List Int)) (v4 : Int) (c22 : (List (List Bool)) → Option ((List (List Bool)))) : Nat → Int → (List (List Bool)) → Option ((List (List Bool)))
 | 0, _, _ => none
 | k19 + 1, v17, v18 =>
  if (decide (v17 < (v16.length : Int))) = true then
   if (0 : Int) ≤ v17 ∧ v17 < v16.length then
    if (0 : Int) ≤ v4 ∧ v4 < v18.length then
     if v4.toNat < v18.length then
      if v4.toNat < v18.length then
       if (0 : Int) ≤ v17 ∧ v17 < (v18.getD v4.toNat []).length then
        if v4.toNat < v18.length then
         if v17.toNat < (v18.getD v4.toNat []).length then
          (F60_l19 K v16 v4 c22 k19) (IntKind.i64.wrap (v17 + 1)) (v18.set v4.toNat ((v18.getD v4.toNat []).set v17.toNat (decide ((v16.getD v17.toNat 0) ≥ 0))))
         else none
        else none
       else none
      else none
     else none
    else none
   else none
  else
   c22 v18
def F60_l6 (K : Nat) (a0 : Za) (v2 : (List (List Int))) (c9 : (List (List Bool)) → Option ((List (List Bool)))) : Nat → Int → (List (List Bool)) → Option ((List (List Bool)))
 | 0, _, _ => none
 | k6 + 1, v4, v5 =>
  if (decide (v4 < a0.Count)) = true then
   if (0 : Int) ≤ a0.Count ∧ a0.Count ≤ a0.Count ∧ a0.Count ≤ 1073741824 then
    if (0 : Int) ≤ v4 ∧ v4 < v5.length then
     if v4.toNat < v5.length then
      if (0 : Int) ≤ v4 ∧ v4 < v2.length then
       (F46 K v2 (v2.getD v4.toNat []) (Int.negSucc 0)).bind fun v16 =>
        F60_l19 K v16 v4 (F60_c21 K (F60_l6 K a0 v2 c9 k6) v4) K 0 (v5.set v4.toNat (List.replicate a0.Count.toNat (false : Bool)))
      else none
     else none
    else none
   else none
  else
   c9 v5
def F60 (K : Nat) (a0 : Za) : Option ((List (List Bool))) :=
 (F47 K a0).bind fun v2 =>
  if (0 : Int) ≤ a0.Count ∧ a0.Count ≤ a0.Count ∧ a0.Count ≤ 1073741824 then
   F60_l6 K a0 v2 (F60_c8 K) K 0 (List.replicate a0.Count.toNat ([] : List Bool))
  else none
def F39_c7 (K : Nat) (a0 : Za) (v6 : (List Z7)) : Option (Za) :=
 some (⟨a0.Count, v6⟩ : Za)
def F39_c15 (K : Nat) (b9 : Int → (List Z7) → Option (Za)) (v3 : Int) (v14 : (List Z7)) : Option (Za) :=
 b9 (IntKind.i64.wrap (v3 + 1)) v14
def F39_j20 (K : Nat) (b17 : Int → (List Z7) → Option (Za)) (v11 : Int) (v19 : (List Z7)) : Option (Za) :=
 b17 (IntKind.i64.wrap (v11 + 1)) v19
def F39_l13 (K : Nat) (v2 : (List (List Bool))) (v3 : Int) (c16 : (List Z7) → Option (Za)) : Nat → Int → (List Z7) → Option (Za)
 | 0, _, _ => none
 | k13 + 1, v11, v12 =>
  if (decide (v11 < ((v2.getD v3.toNat []).length : Int))) = true then
   if (0 : Int) ≤ v11 ∧ v11 < (v2.getD v3.toNat []).length then
    if ((v2.getD v3.toNat []).getD v11.toNat false) = true then
     if v12.length + [(⟨v3, v11⟩ : Z7)].length ≤ 1073741824 then
      F39_j20 K (F39_l13 K v2 v3 c16 k13) v11 (v12 ++ [(⟨v3, v11⟩ : Z7)])
     else none
    else
     F39_j20 K (F39_l13 K v2 v3 c16 k13) v11 v12
   else none
  else
   c16 v12
def F39_l5 (K : Nat) (v2 : (List (List Bool))) (c8 : (List Z7) → Option (Za)) : Nat → Int → (List Z7) → Option (Za)
 | 0, _, _ => none
 | k5 + 1, v3, v4 =>
  if (decide (v3 < (v2.length : Int))) = true then
   if (0 : Int) ≤ v3 ∧ v3 < v2.length then
    F39_l13 K v2 v3 (F39_c15 K (F39_l5 K v2 c8 k5) v3) K 0 v4
   else none
  else
   c8 v4
def F39 (K : Nat) (a0 : Za) : Option (Za) :=
 (F60 K a0).bind fun v2 =>
  F39_l5 K v2 (F39_c7 K a0) K 0 []
end Go.AM.Gra
