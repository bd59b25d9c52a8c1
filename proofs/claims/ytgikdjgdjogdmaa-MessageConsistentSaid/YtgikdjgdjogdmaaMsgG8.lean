/- What these functions compute, each with its walk: F24_i1, F36. -/
import Derived.Test.YtgikdjgdjogdmaaMsgT
import Derived.Test.YtgikdjgdjogdmaaMsgG6
namespace Go.AM.Msg
open Go Go.AM Go.Proofs
set_option maxRecDepth 100000
set_option maxHeartbeats 2000000
def F24_i1_c7 (K : Nat) (v6 : (List Zc)) : Option ((List Zc)) :=
 some v6
def F24_i1_l5 (K : Nat) (v2 : (List Z13)) (c8 : (List Zc) → Option ((List Zc))) : Nat → Int → (List Zc) → Option ((List Zc))
 | 0, _, _ => none
 | k5 + 1, v3, v4 =>
  if (decide (v3 < (v2.length : Int))) = true then
   if (0 : Int) ≤ v3 ∧ v3 < v2.length then
    if v4.length + (v2.getD v3.toNat z_Tapi_Trace).Spans.length ≤ 1073741824 then
     (F24_i1_l5 K v2 c8 k5) (IntKind.i64.wrap (v3 + 1)) (v4 ++ (v2.getD v3.toNat z_Tapi_Trace).Spans)
    else none
   else none
  else
   c8 v4
def F24_i1 (K : Nat) (a0 : Zi) : Option ((List Zc)) :=
 (F59 K a0).bind fun v2 =>
  F24_i1_l5 K v2 (F24_i1_c7 K) K 0 []
def F36_c7 (K : Nat) (v6 : (List Zc)) : Option ((List Zc)) :=
 some v6
def F36_c14 (K : Nat) (b9 : Int → (List Zc) → Option ((List Zc))) (v3 : Int) (v13 : (List Zc)) : Option ((List Zc)) :=
 b9 (IntKind.i64.wrap (v3 + 1)) v13
def F36_j20 (K : Nat) (b16 : Int → (List Zc) → Option ((List Zc))) (v10 : Int) (v19 : (List Zc)) : Option ((List Zc)) :=
 b16 (IntKind.i64.wrap (v10 + 1)) v19
def F36_j18 (K : Nat) (v3 : Int) (v11 : (List Zc)) (b16 : Int → (List Zc) → Option ((List Zc))) (v10 : Int) (v17 : Bool) : Option ((List Zc)) :=
 if v17 = true then
  if (0 : Int) ≤ v3 ∧ v3 < (v11.length : Nat) then
   if v3.toNat < v11.length then
    F36_j20 K b16 v10 (v11.set v3.toNat (⟨(v11.getD v3.toNat Z2).Trace, (v11.getD v3.toNat Z2).Id, (v11.getD v3.toNat Z2).Parent, 1, (v11.getD v3.toNat Z2).Clock, (v11.getD v3.toNat Z2).Kind, (v11.getD v3.toNat Z2).Service, (v11.getD v3.toNat Z2).Version, (v11.getD v3.toNat Z2).Operation, (v11.getD v3.toNat Z2).Start, (v11.getD v3.toNat Z2).End, (v11.getD v3.toNat Z2).Error, (v11.getD v3.toNat Z2).Attrs, (v11.getD v3.toNat Z2).Links⟩ : Zc))
   else none
  else none
 else
  F36_j20 K b16 v10 v11
def F36_l12 (K : Nat) (a0 : Zi) (v3 : Int) (c15 : (List Zc) → Option ((List Zc))) : Nat → Int → (List Zc) → Option ((List Zc))
 | 0, _, _ => none
 | k12 + 1, v10, v11 =>
  if (decide (v10 < (a0.Trees.length : Int))) = true then
   if (0 : Int) ≤ v10 ∧ v10 < a0.Trees.length then
    if (decide (((a0.Trees.getD v10.toNat Z4).Calls.length : Int) > 0)) = true then
     (F62 K a0 v10).bind fun v25 =>
      if (0 : Int) ≤ v3 ∧ v3 < (v11.length : Nat) then
       if v3.toNat < v11.length then
        if (v25 == (v11.getD v3.toNat Z2).Trace) = true then
         if (0 : Int) ≤ v10 ∧ v10 < a0.Trees.length then
          if (0 : Int) ≤ v3 ∧ v3 < (v11.length : Nat) then
           if v3.toNat < v11.length then
            if (0 : Int) ≤ (IntKind.i64.wrap ((v11.getD v3.toNat Z2).Id - 1)) ∧ (IntKind.i64.wrap ((v11.getD v3.toNat Z2).Id - 1)) < (a0.Trees.getD v10.toNat Z4).Calls.length then
             F36_j18 K v3 v11 (F36_l12 K a0 v3 c15 k12) v10 ((((a0.Trees.getD v10.toNat Z4).Calls.getD (IntKind.i64.wrap ((v11.getD v3.toNat Z2).Id - 1)).toNat Z3).Tag.tmod 2) == 1)
            else none
           else none
          else none
         else none
        else
         F36_j18 K v3 v11 (F36_l12 K a0 v3 c15 k12) v10 false
       else none
      else none
    else
     F36_j18 K v3 v11 (F36_l12 K a0 v3 c15 k12) v10 false
   else none
  else
   c15 v11
def F36_l5 (K : Nat) (a0 : Zi) (c8 : (List Zc) → Option ((List Zc))) : Nat → Int → (List Zc) → Option ((List Zc))
 | 0, _, _ => none
 | k5 + 1, v3, v4 =>
  if (decide (v3 < (v4.length : Int))) = true then
   F36_l12 K a0 v3 (F36_c14 K (F36_l5 K a0 c8 k5) v3) K 0 v4
  else
   c8 v4
def F36 (K : Nat) (a0 : Zi) : Option ((List Zc)) :=
 (F24_i1 K a0).bind fun v2 =>
  F36_l5 K a0 (F36_c7 K) K 0 v2
end Go.AM.Msg
