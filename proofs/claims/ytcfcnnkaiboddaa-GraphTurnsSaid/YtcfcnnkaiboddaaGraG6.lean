/- What these functions compute, each with its walk: F40. -/
import Derived.Test.YtcfcnnkaiboddaaGraT
import Derived.Test.YtcfcnnkaiboddaaGraG3
namespace Go.AM.Gra
open Go Go.AM Go.Proofs
set_option maxRecDepth 100000
set_option maxHeartbeats 2000000
def F40_c7 (K : Nat) (v6 : (List (List Bool))) : Option ((List (List Bool))) :=
 some v6
def F40_c14 (K : Nat) (b9 : Int → (List (List Bool)) → Option ((List (List Bool)))) (v3 : Int) (v13 : (List (List Bool))) : Option ((List (List Bool))) :=
 b9 (IntKind.i64.wrap (v3 + 1)) v13
def F40_c21 (K : Nat) (b16 : Int → (List (List Bool)) → Option ((List (List Bool)))) (v10 : Int) (v20 : (List (List Bool))) : Option ((List (List Bool))) :=
 b16 (IntKind.i64.wrap (v10 + 1)) v20
def F40_j25 (K : Nat) (b23 : Int → (List (List Bool)) → Option ((List (List Bool)))) (v17 : Int) (v24 : (List (List Bool))) : Option ((List (List Bool))) :=
 b23 (IntKind.i64.wrap (v17 + 1)) v24
def F40_j39 (K : Nat) (b23 : Int → (List (List Bool)) → Option ((List (List Bool)))) (v17 : Int) (v38 : (List (List Bool))) : Option ((List (List Bool))) :=
 F40_j25 K b23 v17 v38
def F40_l19 (K : Nat) (a0 : (List (List Bool))) (v10 : Int) (v3 : Int) (c22 : (List (List Bool)) → Option ((List (List Bool)))) : Nat → Int → (List (List Bool)) → Option ((List (List Bool)))
 | 0, _, _ => none
 | k19 + 1, v17, v18 =>
  if (decide (v17 < (a0.length : Int))) = true then
   if (0 : Int) ≤ v10 ∧ v10 < v18.length then
    if v10.toNat < v18.length then
     if v10.toNat < v18.length then
      if (0 : Int) ≤ v3 ∧ v3 < (v18.getD v10.toNat []).length then
       if v10.toNat < v18.length then
        if v3.toNat < (v18.getD v10.toNat []).length then
         if ((v18.getD v10.toNat []).getD v3.toNat false) = true then
          if (0 : Int) ≤ v3 ∧ v3 < v18.length then
           if v3.toNat < v18.length then
            if v3.toNat < v18.length then
             if (0 : Int) ≤ v17 ∧ v17 < (v18.getD v3.toNat []).length then
              if v3.toNat < v18.length then
               if v17.toNat < (v18.getD v3.toNat []).length then
                if ((v18.getD v3.toNat []).getD v17.toNat false) = true then
                 if (0 : Int) ≤ v10 ∧ v10 < v18.length then
                  if v10.toNat < v18.length then
                   if v10.toNat < v18.length then
                    if (0 : Int) ≤ v17 ∧ v17 < (v18.getD v10.toNat []).length then
                     if v10.toNat < v18.length then
                      if v17.toNat < (v18.getD v10.toNat []).length then
                       F40_j39 K (F40_l19 K a0 v10 v3 c22 k19) v17 (v18.set v10.toNat ((v18.getD v10.toNat []).set v17.toNat true))
                      else none
                     else none
                    else none
                   else none
                  else none
                 else none
                else
                 F40_j39 K (F40_l19 K a0 v10 v3 c22 k19) v17 v18
               else none
              else none
             else none
            else none
           else none
          else none
         else
          F40_j25 K (F40_l19 K a0 v10 v3 c22 k19) v17 v18
        else none
       else none
      else none
     else none
    else none
   else none
  else
   c22 v18
def F40_l12 (K : Nat) (a0 : (List (List Bool))) (v3 : Int) (c15 : (List (List Bool)) → Option ((List (List Bool)))) : Nat → Int → (List (List Bool)) → Option ((List (List Bool)))
 | 0, _, _ => none
 | k12 + 1, v10, v11 =>
  if (decide (v10 < (a0.length : Int))) = true then
   F40_l19 K a0 v10 v3 (F40_c21 K (F40_l12 K a0 v3 c15 k12) v10) K 0 v11
  else
   c15 v11
def F40_l5 (K : Nat) (a0 : (List (List Bool))) (c8 : (List (List Bool)) → Option ((List (List Bool)))) : Nat → Int → (List (List Bool)) → Option ((List (List Bool)))
 | 0, _, _ => none
 | k5 + 1, v3, v4 =>
  if (decide (v3 < (a0.length : Int))) = true then
   F40_l12 K a0 v3 (F40_c14 K (F40_l5 K a0 c8 k5) v3) K 0 v4
  else
   c8 v4
def F40 (K : Nat) (a0 : (List (List Bool))) : Option ((List (List Bool))) :=
 (F61 K a0).bind fun v2 =>
  F40_l5 K a0 (F40_c7 K) K 0 v2
end Go.AM.Gra
