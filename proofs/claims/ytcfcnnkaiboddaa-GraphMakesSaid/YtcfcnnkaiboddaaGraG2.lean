/- What these functions compute, each with its walk: F25, F14, F16. -/
import Derived.Test.YtcfcnnkaiboddaaGraT
namespace Go.AM.Gra
open Go Go.AM Go.Proofs
set_option maxRecDepth 100000
set_option maxHeartbeats 2000000
def F25_c6 (K : Nat) (v5 : (List (List Bool))) : Option ((List (List Bool))) :=
 some v5
def F25_l4 (K : Nat) (a0 : Int) (c7 : (List (List Bool)) → Option ((List (List Bool)))) : Nat → Int → (List (List Bool)) → Option ((List (List Bool)))
 | 0, _, _ => none
 | k4 + 1, v2, v3 =>
  if (decide (v2 < a0)) = true then
   if (0 : Int) ≤ a0 ∧ a0 ≤ a0 ∧ a0 ≤ 1073741824 then
    if (0 : Int) ≤ v2 ∧ v2 < v3.length then
     if v2.toNat < v3.length then
      (F25_l4 K a0 c7 k4) (IntKind.i64.wrap (v2 + 1)) (v3.set v2.toNat (List.replicate a0.toNat (false : Bool)))
     else none
    else none
   else none
  else
   c7 v3
def F25 (K : Nat) (a0 : Int) : Option ((List (List Bool))) :=
 if (0 : Int) ≤ a0 ∧ a0 ≤ a0 ∧ a0 ≤ 1073741824 then
  F25_l4 K a0 (F25_c6 K) K 0 (List.replicate a0.toNat ([] : List Bool))
 else none
def F14_c7 (K : Nat) (v6 : (List (List Bool))) : Option ((List (List Bool))) :=
 some v6
def F14_j13 (K : Nat) (b9 : Int → (List (List Bool)) → Option ((List (List Bool)))) (v3 : Int) (v12 : (List (List Bool))) : Option ((List (List Bool))) :=
 b9 (IntKind.i64.wrap (v3 + 1)) v12
def F14_j27 (K : Nat) (b9 : Int → (List (List Bool)) → Option ((List (List Bool)))) (v3 : Int) (v26 : (List (List Bool))) : Option ((List (List Bool))) :=
 F14_j13 K b9 v3 v26
def F14_j11 (K : Nat) (v3 : Int) (a0 : Tsleuthlaw08_Plan) (v4 : (List (List Bool))) (b9 : Int → (List (List Bool)) → Option ((List (List Bool)))) (c8 : (List (List Bool)) → Option ((List (List Bool)))) (v10 : Bool) : Option ((List (List Bool))) :=
 if v10 = true then
  if (0 : Int) ≤ v3 ∧ v3 < a0.Edges.length then
   if (0 : Int) ≤ 0 ∧ (0 : Int) < (2 : Nat) then
    if (IntKind.i64.wrap (a0.Count.tmod 10)) ≠ 0 then
     if (0 : Int) ≤ v3 ∧ v3 < a0.Edges.length then
      if (0 : Int) ≤ 1 ∧ (1 : Int) < (2 : Nat) then
       if (IntKind.i64.wrap (a0.Count.tmod 10)) ≠ 0 then
        if (!a0.Flat) = true then
         if (0 : Int) ≤ ((IntKind.i64.wrap (([(a0.Edges.getD v3.toNat z_A2_Int).e0, (a0.Edges.getD v3.toNat z_A2_Int).e1] : List Int).getD (0 : Int).toNat 0)).tmod (IntKind.i64.wrap (a0.Count.tmod 10))) ∧ ((IntKind.i64.wrap (([(a0.Edges.getD v3.toNat z_A2_Int).e0, (a0.Edges.getD v3.toNat z_A2_Int).e1] : List Int).getD (0 : Int).toNat 0)).tmod (IntKind.i64.wrap (a0.Count.tmod 10))) < v4.length then
          if ((IntKind.i64.wrap (([(a0.Edges.getD v3.toNat z_A2_Int).e0, (a0.Edges.getD v3.toNat z_A2_Int).e1] : List Int).getD (0 : Int).toNat 0)).tmod (IntKind.i64.wrap (a0.Count.tmod 10))).toNat < v4.length then
           if ((IntKind.i64.wrap (([(a0.Edges.getD v3.toNat z_A2_Int).e0, (a0.Edges.getD v3.toNat z_A2_Int).e1] : List Int).getD (0 : Int).toNat 0)).tmod (IntKind.i64.wrap (a0.Count.tmod 10))).toNat < v4.length then
            if (0 : Int) ≤ ((IntKind.i64.wrap (([(a0.Edges.getD v3.toNat z_A2_Int).e0, (a0.Edges.getD v3.toNat z_A2_Int).e1] : List Int).getD (1 : Int).toNat 0)).tmod (IntKind.i64.wrap (a0.Count.tmod 10))) ∧ ((IntKind.i64.wrap (([(a0.Edges.getD v3.toNat z_A2_Int).e0, (a0.Edges.getD v3.toNat z_A2_Int).e1] : List Int).getD (1 : Int).toNat 0)).tmod (IntKind.i64.wrap (a0.Count.tmod 10))) < (v4.getD ((IntKind.i64.wrap (([(a0.Edges.getD v3.toNat z_A2_Int).e0, (a0.Edges.getD v3.toNat z_A2_Int).e1] : List Int).getD (0 : Int).toNat 0)).tmod (IntKind.i64.wrap (a0.Count.tmod 10))).toNat []).length then
             if ((IntKind.i64.wrap (([(a0.Edges.getD v3.toNat z_A2_Int).e0, (a0.Edges.getD v3.toNat z_A2_Int).e1] : List Int).getD (0 : Int).toNat 0)).tmod (IntKind.i64.wrap (a0.Count.tmod 10))).toNat < v4.length then
              if ((IntKind.i64.wrap (([(a0.Edges.getD v3.toNat z_A2_Int).e0, (a0.Edges.getD v3.toNat z_A2_Int).e1] : List Int).getD (1 : Int).toNat 0)).tmod (IntKind.i64.wrap (a0.Count.tmod 10))).toNat < (v4.getD ((IntKind.i64.wrap (([(a0.Edges.getD v3.toNat z_A2_Int).e0, (a0.Edges.getD v3.toNat z_A2_Int).e1] : List Int).getD (0 : Int).toNat 0)).tmod (IntKind.i64.wrap (a0.Count.tmod 10))).toNat []).length then
               F14_j13 K b9 v3 (v4.set ((IntKind.i64.wrap (([(a0.Edges.getD v3.toNat z_A2_Int).e0, (a0.Edges.getD v3.toNat z_A2_Int).e1] : List Int).getD (0 : Int).toNat 0)).tmod (IntKind.i64.wrap (a0.Count.tmod 10))).toNat ((v4.getD ((IntKind.i64.wrap (([(a0.Edges.getD v3.toNat z_A2_Int).e0, (a0.Edges.getD v3.toNat z_A2_Int).e1] : List Int).getD (0 : Int).toNat 0)).tmod (IntKind.i64.wrap (a0.Count.tmod 10))).toNat []).set ((IntKind.i64.wrap (([(a0.Edges.getD v3.toNat z_A2_Int).e0, (a0.Edges.getD v3.toNat z_A2_Int).e1] : List Int).getD (1 : Int).toNat 0)).tmod (IntKind.i64.wrap (a0.Count.tmod 10))).toNat true))
              else none
             else none
            else none
           else none
          else none
         else none
        else
         if (decide (((IntKind.i64.wrap (([(a0.Edges.getD v3.toNat z_A2_Int).e0, (a0.Edges.getD v3.toNat z_A2_Int).e1] : List Int).getD (0 : Int).toNat 0)).tmod (IntKind.i64.wrap (a0.Count.tmod 10))) < ((IntKind.i64.wrap (([(a0.Edges.getD v3.toNat z_A2_Int).e0, (a0.Edges.getD v3.toNat z_A2_Int).e1] : List Int).getD (1 : Int).toNat 0)).tmod (IntKind.i64.wrap (a0.Count.tmod 10))))) = true then
          if (0 : Int) ≤ ((IntKind.i64.wrap (([(a0.Edges.getD v3.toNat z_A2_Int).e0, (a0.Edges.getD v3.toNat z_A2_Int).e1] : List Int).getD (0 : Int).toNat 0)).tmod (IntKind.i64.wrap (a0.Count.tmod 10))) ∧ ((IntKind.i64.wrap (([(a0.Edges.getD v3.toNat z_A2_Int).e0, (a0.Edges.getD v3.toNat z_A2_Int).e1] : List Int).getD (0 : Int).toNat 0)).tmod (IntKind.i64.wrap (a0.Count.tmod 10))) < v4.length then
           if ((IntKind.i64.wrap (([(a0.Edges.getD v3.toNat z_A2_Int).e0, (a0.Edges.getD v3.toNat z_A2_Int).e1] : List Int).getD (0 : Int).toNat 0)).tmod (IntKind.i64.wrap (a0.Count.tmod 10))).toNat < v4.length then
            if ((IntKind.i64.wrap (([(a0.Edges.getD v3.toNat z_A2_Int).e0, (a0.Edges.getD v3.toNat z_A2_Int).e1] : List Int).getD (0 : Int).toNat 0)).tmod (IntKind.i64.wrap (a0.Count.tmod 10))).toNat < v4.length then
             if (0 : Int) ≤ ((IntKind.i64.wrap (([(a0.Edges.getD v3.toNat z_A2_Int).e0, (a0.Edges.getD v3.toNat z_A2_Int).e1] : List Int).getD (1 : Int).toNat 0)).tmod (IntKind.i64.wrap (a0.Count.tmod 10))) ∧ ((IntKind.i64.wrap (([(a0.Edges.getD v3.toNat z_A2_Int).e0, (a0.Edges.getD v3.toNat z_A2_Int).e1] : List Int).getD (1 : Int).toNat 0)).tmod (IntKind.i64.wrap (a0.Count.tmod 10))) < (v4.getD ((IntKind.i64.wrap (([(a0.Edges.getD v3.toNat z_A2_Int).e0, (a0.Edges.getD v3.toNat z_A2_Int).e1] : List Int).getD (0 : Int).toNat 0)).tmod (IntKind.i64.wrap (a0.Count.tmod 10))).toNat []).length then
              if ((IntKind.i64.wrap (([(a0.Edges.getD v3.toNat z_A2_Int).e0, (a0.Edges.getD v3.toNat z_A2_Int).e1] : List Int).getD (0 : Int).toNat 0)).tmod (IntKind.i64.wrap (a0.Count.tmod 10))).toNat < v4.length then
               if ((IntKind.i64.wrap (([(a0.Edges.getD v3.toNat z_A2_Int).e0, (a0.Edges.getD v3.toNat z_A2_Int).e1] : List Int).getD (1 : Int).toNat 0)).tmod (IntKind.i64.wrap (a0.Count.tmod 10))).toNat < (v4.getD ((IntKind.i64.wrap (([(a0.Edges.getD v3.toNat z_A2_Int).e0, (a0.Edges.getD v3.toNat z_A2_Int).e1] : List Int).getD (0 : Int).toNat 0)).tmod (IntKind.i64.wrap (a0.Count.tmod 10))).toNat []).length then
                F14_j27 K b9 v3 (v4.set ((IntKind.i64.wrap (([(a0.Edges.getD v3.toNat z_A2_Int).e0, (a0.Edges.getD v3.toNat z_A2_Int).e1] : List Int).getD (0 : Int).toNat 0)).tmod (IntKind.i64.wrap (a0.Count.tmod 10))).toNat ((v4.getD ((IntKind.i64.wrap (([(a0.Edges.getD v3.toNat z_A2_Int).e0, (a0.Edges.getD v3.toNat z_A2_Int).e1] : List Int).getD (0 : Int).toNat 0)).tmod (IntKind.i64.wrap (a0.Count.tmod 10))).toNat []).set ((IntKind.i64.wrap (([(a0.Edges.getD v3.toNat z_A2_Int).e0, (a0.Edges.getD v3.toNat z_A2_Int).e1] : List Int).getD (1 : Int).toNat 0)).tmod (IntKind.i64.wrap (a0.Count.tmod 10))).toNat true))
               else none
              else none
             else none
            else none
           else none
          else none
         else
          F14_j27 K b9 v3 v4
       else none
      else none
     else none
    else none
   else none
  else none
 else
  c8 v4
def F14_l5 (K : Nat) (a0 : Tsleuthlaw08_Plan) (c8 : (List (List Bool)) → Option ((List (List Bool)))) : Nat → Int → (List (List Bool)) → Option ((List (List Bool)))
 | 0, _, _ => none
 | k5 + 1, v3, v4 =>
  if (decide (v3 < (a0.Edges.length : Int))) = true then
   if (decide (v3 < 40)) = true then
    F14_j11 K v3 a0 v4 (F14_l5 K a0 c8 k5) c8 (decide ((IntKind.i64.wrap (a0.Count.tmod 10)) > 0))
   else
    F14_j11 K v3 a0 v4 (F14_l5 K a0 c8 k5) c8 false
  else
   F14_j11 K v3 a0 v4 (F14_l5 K a0 c8 k5) c8 false
def F14 (K : Nat) (a0 : Tsleuthlaw08_Plan) : Option ((List (List Bool))) :=
 (F25 K (IntKind.i64.wrap (a0.Count.tmod 10))).bind fun v2 =>
  F14_l5 K a0 (F14_c7 K) K 0 v2
def F16_c5 (K : Nat) (a0 : (List (List Bool))) (v4 : (List Z9)) : Option (Z7) :=
 some (⟨(a0.length : Int), v4⟩ : Z7)
def F16_c12 (K : Nat) (b7 : Int → (List Z9) → Option (Z7)) (v1 : Int) (v11 : (List Z9)) : Option (Z7) :=
 b7 (IntKind.i64.wrap (v1 + 1)) v11
def F16_j18 (K : Nat) (b14 : Int → (List Z9) → Option (Z7)) (v8 : Int) (v17 : (List Z9)) : Option (Z7) :=
 b14 (IntKind.i64.wrap (v8 + 1)) v17
def F16_l10 (K : Nat) (a0 : (List (List Bool))) (v1 : Int) (c13 : (List Z9) → Option (Z7)) : Nat → Int → (List Z9) → Option (Z7)
 | 0, _, _ => none
 | k10 + 1, v8, v9 =>
  if (decide (v8 < (a0.length : Int))) = true then
   if (0 : Int) ≤ v1 ∧ v1 < a0.length then
    if (0 : Int) ≤ v8 ∧ v8 < (a0.getD v1.toNat []).length then
     if ((a0.getD v1.toNat []).getD v8.toNat false) = true then
      if v9.length + [(⟨v1, v8⟩ : Z9)].length ≤ 1073741824 then
       F16_j18 K (F16_l10 K a0 v1 c13 k10) v8 (v9 ++ [(⟨v1, v8⟩ : Z9)])
      else none
     else
      F16_j18 K (F16_l10 K a0 v1 c13 k10) v8 v9
    else none
   else none
  else
   c13 v9
def F16_l3 (K : Nat) (a0 : (List (List Bool))) (c6 : (List Z9) → Option (Z7)) : Nat → Int → (List Z9) → Option (Z7)
 | 0, _, _ => none
 | k3 + 1, v1, v2 =>
  if (decide (v1 < (a0.length : Int))) = true then
   F16_l10 K a0 v1 (F16_c12 K (F16_l3 K a0 c6 k3) v1) K 0 v2
  else
   c6 v2
def F16 (K : Nat) (a0 : (List (List Bool))) : Option (Z7) :=
 F16_l3 K a0 (F16_c5 K a0) K 0 []
end Go.AM.Gra
