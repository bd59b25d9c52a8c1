/- What these functions compute, each with its walk: F10. -/
import Derived.Test.YtcfcnnkaiboddaaGraT
import Derived.Test.YtcfcnnkaiboddaaGraG0
import Derived.Test.YtcfcnnkaiboddaaGraG1
import Derived.Test.YtcfcnnkaiboddaaGraG2
import Derived.Test.YtcfcnnkaiboddaaGraG10
import Derived.Test.YtcfcnnkaiboddaaGraG11
namespace Go.AM.Gra
open Go Go.AM Go.Proofs
set_option maxRecDepth 100000
set_option maxHeartbeats 2000000
def F10_j34 (K : Nat) (v33 : Bool) : Option (Bool) :=
 some v33
def F10_c31 (K : Nat) (a2 : Int) (v2 : (List (List Bool))) (v14 : (List Int) × Int) (a1 : Int) (v18 : (List Int) × Int) (v22 : Zd × (List Int)) (v20 : (List Int) × Int) : Option (Bool) :=
 if (0 : Int) ≤ ((IntKind.i64.wrap a2).tmod (v2.length : Int)) ∧ ((IntKind.i64.wrap a2).tmod (v2.length : Int)) < v14.1.length then
  if (0 : Int) ≤ ((IntKind.i64.wrap a1).tmod (v2.length : Int)) ∧ ((IntKind.i64.wrap a1).tmod (v2.length : Int)) < v18.1.length then
   if ((v14.1.getD ((IntKind.i64.wrap a2).tmod (v2.length : Int)).toNat 0) == (v18.1.getD ((IntKind.i64.wrap a1).tmod (v2.length : Int)).toNat 0)) = true then
    if (0 : Int) ≤ ((IntKind.i64.wrap a1).tmod (v2.length : Int)) ∧ ((IntKind.i64.wrap a1).tmod (v2.length : Int)) < v22.2.length then
     if (0 : Int) ≤ ((IntKind.i64.wrap a2).tmod (v2.length : Int)) ∧ ((IntKind.i64.wrap a2).tmod (v2.length : Int)) < v22.2.length then
      if (0 : Int) ≤ ((IntKind.i64.wrap a2).tmod (v2.length : Int)) ∧ ((IntKind.i64.wrap a2).tmod (v2.length : Int)) < v14.1.length then
       if (decide ((v14.1.getD ((IntKind.i64.wrap a2).tmod (v2.length : Int)).toNat 0) ≥ 0)) = true then
        if (0 : Int) ≤ ((IntKind.i64.wrap a1).tmod (v2.length : Int)) ∧ ((IntKind.i64.wrap a1).tmod (v2.length : Int)) < v20.1.length then
         F10_j34 K (((v22.2.getD ((IntKind.i64.wrap a1).tmod (v2.length : Int)).toNat 0) == (v22.2.getD ((IntKind.i64.wrap a2).tmod (v2.length : Int)).toNat 0)) == (decide ((v20.1.getD ((IntKind.i64.wrap a1).tmod (v2.length : Int)).toNat 0) ≥ 0)))
        else none
       else
        F10_j34 K (((v22.2.getD ((IntKind.i64.wrap a1).tmod (v2.length : Int)).toNat 0) == (v22.2.getD ((IntKind.i64.wrap a2).tmod (v2.length : Int)).toNat 0)) == false)
      else none
     else none
    else none
   else
    F10_j34 K false
  else none
 else none
def F10_j44 (K : Nat) (b41 : Int → Option (Bool)) (v29 : Int) (v43 : Bool) : Option (Bool) :=
 if v43 = true then
  some false
 else
  b41 (IntKind.i64.wrap (v29 + 1))
def F10_l30 (K : Nat) (v10 : Zd) (v14 : (List Int) × Int) (c32 : Option (Bool)) : Nat → Int → Option (Bool)
 | 0, _ => none
 | k30 + 1, v29 =>
  if (decide (v29 < (v10.Edges.length : Int))) = true then
   if (0 : Int) ≤ v29 ∧ v29 < v10.Edges.length then
    if (0 : Int) ≤ (v10.Edges.getD v29.toNat Z2).From ∧ (v10.Edges.getD v29.toNat Z2).From < v14.1.length then
     if (decide ((v14.1.getD (v10.Edges.getD v29.toNat Z2).From.toNat 0) ≥ 0)) = true then
      if (0 : Int) ≤ (v10.Edges.getD v29.toNat Z2).To ∧ (v10.Edges.getD v29.toNat Z2).To < v14.1.length then
       if (decide ((v14.1.getD (v10.Edges.getD v29.toNat Z2).To.toNat 0) < 0)) = true then
        F10_j44 K (F10_l30 K v10 v14 c32 k30) v29 true
       else
        if (0 : Int) ≤ (v10.Edges.getD v29.toNat Z2).To ∧ (v10.Edges.getD v29.toNat Z2).To < v14.1.length then
         if (0 : Int) ≤ (v10.Edges.getD v29.toNat Z2).From ∧ (v10.Edges.getD v29.toNat Z2).From < v14.1.length then
          F10_j44 K (F10_l30 K v10 v14 c32 k30) v29 (decide ((v14.1.getD (v10.Edges.getD v29.toNat Z2).To.toNat 0) > (IntKind.i64.wrap ((v14.1.getD (v10.Edges.getD v29.toNat Z2).From.toNat 0) + 1))))
         else none
        else none
      else none
     else
      F10_j44 K (F10_l30 K v10 v14 c32 k30) v29 false
    else none
   else none
  else
   c32
def F10_j28 (K : Nat) (v10 : Zd) (v14 : (List Int) × Int) (a2 : Int) (v2 : (List (List Bool))) (a1 : Int) (v18 : (List Int) × Int) (v22 : Zd × (List Int)) (v20 : (List Int) × Int) (v27 : Bool) : Option (Bool) :=
 if v27 = true then
  some false
 else
  F10_l30 K v10 v14 (F10_c31 K a2 v2 v14 a1 v18 v22 v20) K 0
def F10 (K : Nat) (a0 : Z11) (a1 : Int) (a2 : Int) : Option (Bool) :=
 (F14 K a0).bind fun v2 =>
  (F13 K).bind fun v4 =>
   if (!v4) = true then
    (F13 K).bind fun v6 =>
     some v6
   else
    if ((v2.length : Int) == 0) = true then
     (F13 K).bind fun v8 =>
      some v8
    else
     (F16 K v2).bind fun v10 =>
      if (v2.length : Int) ≠ 0 then
       if (v2.length : Int) ≠ 0 then
        (F33 K v10 ((IntKind.i64.wrap a1).tmod (v2.length : Int))).bind fun v14 =>
         (F30 K v10).bind fun v16 =>
          (F33 K v16 ((IntKind.i64.wrap a2).tmod (v2.length : Int))).bind fun v18 =>
           (F33 K v10 ((IntKind.i64.wrap a2).tmod (v2.length : Int))).bind fun v20 =>
            (F26 K v10).bind fun v22 =>
             (F30 K v10).bind fun v24 =>
              (F26 K v24).bind fun v26 =>
               if (v14.2 != 0) = true then
                F10_j28 K v10 v14 a2 v2 a1 v18 v22 v20 true
               else
                if (v18.2 != 0) = true then
                 F10_j28 K v10 v14 a2 v2 a1 v18 v22 v20 true
                else
                 if (v20.2 != 0) = true then
                  F10_j28 K v10 v14 a2 v2 a1 v18 v22 v20 true
                 else
                  if ((v14.1.length : Int) != (v2.length : Int)) = true then
                   F10_j28 K v10 v14 a2 v2 a1 v18 v22 v20 true
                  else
                   if ((v18.1.length : Int) != (v2.length : Int)) = true then
                    F10_j28 K v10 v14 a2 v2 a1 v18 v22 v20 true
                   else
                    if ((v20.1.length : Int) != (v2.length : Int)) = true then
                     F10_j28 K v10 v14 a2 v2 a1 v18 v22 v20 true
                    else
                     if ((v22.2.length : Int) != (v2.length : Int)) = true then
                      F10_j28 K v10 v14 a2 v2 a1 v18 v22 v20 true
                     else
                      (F18 K v22.2 v26.2).bind fun v50 =>
                       F10_j28 K v10 v14 a2 v2 a1 v18 v22 v20 (!v50)
       else none
      else none
end Go.AM.Gra
