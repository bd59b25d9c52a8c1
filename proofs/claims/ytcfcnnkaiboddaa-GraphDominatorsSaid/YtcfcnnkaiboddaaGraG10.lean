/- What these functions compute, each with its walk: F26. -/
import Derived.Test.YtcfcnnkaiboddaaGraT
import Derived.Test.YtcfcnnkaiboddaaGraG0
namespace Go.AM.Gra
open Go Go.AM Go.Proofs
set_option maxRecDepth 100000
set_option maxHeartbeats 2000000
def F26_c14 (K : Nat) (v2 : (List (List Int))) (v7 : (List Int)) (v13 : (List Zd)) : Option (Zc × (List Int)) :=
 (F35 K (v2.length : Int) v13).bind fun v17 =>
  some (v17.1, v7)
def F26_j25 (K : Nat) (b18 : Int → (List Zd) → Option (Zc × (List Int))) (v10 : Int) (v24 : (List Zd)) : Option (Zc × (List Int)) :=
 b18 (IntKind.i64.wrap (v10 + 1)) v24
def F26_l12 (K : Nat) (a0 : Zc) (v7 : (List Int)) (c15 : (List Zd) → Option (Zc × (List Int))) : Nat → Int → (List Zd) → Option (Zc × (List Int))
 | 0, _, _ => none
 | k12 + 1, v10, v11 =>
  if (decide (v10 < (a0.Edges.length : Int))) = true then
   if (0 : Int) ≤ v10 ∧ v10 < a0.Edges.length then
    if (0 : Int) ≤ (a0.Edges.getD v10.toNat Z2).From ∧ (a0.Edges.getD v10.toNat Z2).From < (v7.length : Nat) then
     if (a0.Edges.getD v10.toNat Z2).From.toNat < v7.length then
      if (0 : Int) ≤ (a0.Edges.getD v10.toNat Z2).To ∧ (a0.Edges.getD v10.toNat Z2).To < (v7.length : Nat) then
       if (a0.Edges.getD v10.toNat Z2).To.toNat < v7.length then
        if ((v7.getD (a0.Edges.getD v10.toNat Z2).From.toNat 0) != (v7.getD (a0.Edges.getD v10.toNat Z2).To.toNat 0)) = true then
         if (0 : Int) ≤ (a0.Edges.getD v10.toNat Z2).From ∧ (a0.Edges.getD v10.toNat Z2).From < (v7.length : Nat) then
          if (a0.Edges.getD v10.toNat Z2).From.toNat < v7.length then
           if (0 : Int) ≤ (a0.Edges.getD v10.toNat Z2).To ∧ (a0.Edges.getD v10.toNat Z2).To < (v7.length : Nat) then
            if (a0.Edges.getD v10.toNat Z2).To.toNat < v7.length then
             if v11.length + [(⟨(v7.getD (a0.Edges.getD v10.toNat Z2).From.toNat 0), (v7.getD (a0.Edges.getD v10.toNat Z2).To.toNat 0)⟩ : Zd)].length ≤ 1073741824 then
              F26_j25 K (F26_l12 K a0 v7 c15 k12) v10 (v11 ++ [(⟨(v7.getD (a0.Edges.getD v10.toNat Z2).From.toNat 0), (v7.getD (a0.Edges.getD v10.toNat Z2).To.toNat 0)⟩ : Zd)])
             else none
            else none
           else none
          else none
         else none
        else
         F26_j25 K (F26_l12 K a0 v7 c15 k12) v10 v11
       else none
      else none
     else none
    else none
   else none
  else
   c15 v11
def F26_c8 (K : Nat) (a0 : Zc) (v2 : (List (List Int))) (v7 : (List Int)) : Option (Zc × (List Int)) :=
 F26_l12 K a0 v7 (F26_c14 K v2 v7) K 0 []
def F26_c37 (K : Nat) (b31 : Int → (List Int) → Option (Zc × (List Int))) (v4 : Int) (v36 : (List Int)) : Option (Zc × (List Int)) :=
 b31 (IntKind.i64.wrap (v4 + 1)) v36
def F26_l35 (K : Nat) (v2 : (List (List Int))) (v4 : Int) (c38 : (List Int) → Option (Zc × (List Int))) : Nat → Int → (List Int) → Option (Zc × (List Int))
 | 0, _, _ => none
 | k35 + 1, v33, v34 =>
  if (decide (v33 < ((v2.getD v4.toNat []).length : Int))) = true then
   if (0 : Int) ≤ v33 ∧ v33 < (v2.getD v4.toNat []).length then
    if (0 : Int) ≤ ((v2.getD v4.toNat []).getD v33.toNat 0) ∧ ((v2.getD v4.toNat []).getD v33.toNat 0) < (v34.length : Nat) then
     if ((v2.getD v4.toNat []).getD v33.toNat 0).toNat < v34.length then
      (F26_l35 K v2 v4 c38 k35) (IntKind.i64.wrap (v33 + 1)) (v34.set ((v2.getD v4.toNat []).getD v33.toNat 0).toNat v4)
     else none
    else none
   else none
  else
   c38 v34
def F26_l6 (K : Nat) (v2 : (List (List Int))) (c9 : (List Int) → Option (Zc × (List Int))) : Nat → Int → (List Int) → Option (Zc × (List Int))
 | 0, _, _ => none
 | k6 + 1, v4, v5 =>
  if (decide (v4 < (v2.length : Int))) = true then
   if (0 : Int) ≤ v4 ∧ v4 < v2.length then
    F26_l35 K v2 v4 (F26_c37 K (F26_l6 K v2 c9 k6) v4) K 0 v5
   else none
  else
   c9 v5
def F26 (K : Nat) (a0 : Zc) : Option (Zc × (List Int)) :=
 (F24 K a0).bind fun v2 =>
  if (0 : Int) ≤ a0.Count ∧ a0.Count ≤ a0.Count ∧ a0.Count ≤ 1073741824 then
   F26_l6 K v2 (F26_c8 K a0 v2) K 0 (List.replicate a0.Count.toNat (0 : Int))
  else none
end Go.AM.Gra
