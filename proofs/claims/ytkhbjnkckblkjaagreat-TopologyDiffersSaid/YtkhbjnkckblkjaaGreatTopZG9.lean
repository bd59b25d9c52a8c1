/- What these functions compute, each with its walk: F16, F89, F45, F14, F15, F17_i1, F18, F20. -/
import Derived.Test.YtkhbjnkckblkjaaGreatTopZT
import Derived.Test.YtkhbjnkckblkjaaGreatTopZG0
import Derived.Test.YtkhbjnkckblkjaaGreatTopZG1
namespace Go.AM.TopZ
open Go Go.AM Go.Proofs
set_option maxRecDepth 100000
set_option maxHeartbeats 2000000
def F16 (K : Nat) (a0 : Int) : Option (Int) :=
 if (0 : Int) ≤ 20 then
  some (a0.fdiv (2 ^ (min (20 : Int).toNat IntKind.i64.bits)))
 else none
def F89 (K : Nat) (a0 : (List Zm)) : Option ((List Zm)) :=
 if ([] : List Zm).length + a0.length ≤ 1073741824 then
  some a0
 else none
def F45_c7 (K : Nat) (v6 : (List Zm)) : Option ((List Zm)) :=
 some v6
def F45_l5 (K : Nat) (v2 : (List Zm)) (c8 : (List Zm) → Option ((List Zm))) : Nat → Int → (List Zm) → Option ((List Zm))
 | 0, _, _ => none
 | k5 + 1, v3, v4 =>
  if (decide (v3 < (v2.length : Int))) = true then
   if (0 : Int) ≤ v3 ∧ v3 < (v4.length : Nat) then
    if v3.toNat < v4.length then
     (F90 K (v4.getD v3.toNat Z8).Attrs).bind fun v13 =>
      (F91 K (v4.getD v3.toNat Z8).Links).bind fun v15 =>
       if (0 : Int) ≤ v3 ∧ v3 < (v4.length : Nat) then
        if v3.toNat < v4.length then
         if (0 : Int) ≤ v3 ∧ v3 < ((v4.set v3.toNat (⟨(v4.getD v3.toNat Z8).Trace, (v4.getD v3.toNat Z8).Id, (v4.getD v3.toNat Z8).Parent, (v4.getD v3.toNat Z8).Revision, (v4.getD v3.toNat Z8).Clock, (v4.getD v3.toNat Z8).Kind, (v4.getD v3.toNat Z8).Service, (v4.getD v3.toNat Z8).Version, (v4.getD v3.toNat Z8).Operation, (v4.getD v3.toNat Z8).Start, (v4.getD v3.toNat Z8).End, (v4.getD v3.toNat Z8).Error, v13, (v4.getD v3.toNat Z8).Links⟩ : Zm)).length : Nat) then
          if v3.toNat < (v4.set v3.toNat (⟨(v4.getD v3.toNat Z8).Trace, (v4.getD v3.toNat Z8).Id, (v4.getD v3.toNat Z8).Parent, (v4.getD v3.toNat Z8).Revision, (v4.getD v3.toNat Z8).Clock, (v4.getD v3.toNat Z8).Kind, (v4.getD v3.toNat Z8).Service, (v4.getD v3.toNat Z8).Version, (v4.getD v3.toNat Z8).Operation, (v4.getD v3.toNat Z8).Start, (v4.getD v3.toNat Z8).End, (v4.getD v3.toNat Z8).Error, v13, (v4.getD v3.toNat Z8).Links⟩ : Zm)).length then
           (F45_l5 K v2 c8 k5) (IntKind.i64.wrap (v3 + 1)) ((v4.set v3.toNat (⟨(v4.getD v3.toNat Z8).Trace, (v4.getD v3.toNat Z8).Id, (v4.getD v3.toNat Z8).Parent, (v4.getD v3.toNat Z8).Revision, (v4.getD v3.toNat Z8).Clock, (v4.getD v3.toNat Z8).Kind, (v4.getD v3.toNat Z8).Service, (v4.getD v3.toNat Z8).Version, (v4.getD v3.toNat Z8).Operation, (v4.getD v3.toNat Z8).Start, (v4.getD v3.toNat Z8).End, (v4.getD v3.toNat Z8).Error, v13, (v4.getD v3.toNat Z8).Links⟩ : Zm)).set v3.toNat (⟨((v4.set v3.toNat (⟨(v4.getD v3.toNat Z8).Trace, (v4.getD v3.toNat Z8).Id, (v4.getD v3.toNat Z8).Parent, (v4.getD v3.toNat Z8).Revision, (v4.getD v3.toNat Z8).Clock, (v4.getD v3.toNat Z8).Kind, (v4.getD v3.toNat Z8).Service, (v4.getD v3.toNat Z8).Version, (v4.getD v3.toNat Z8).Operation, (v4.getD v3.toNat Z8).Start, (v4.getD v3.toNat Z8).End, (v4.getD v3.toNat Z8).Error, v13, (v4.getD v3.toNat Z8).Links⟩ : Zm)).getD v3.toNat Z8).Trace, ((v4.set v3.toNat (⟨(v4.getD v3.toNat Z8).Trace, (v4.getD v3.toNat Z8).Id, (v4.getD v3.toNat Z8).Parent, (v4.getD v3.toNat Z8).Revision, (v4.getD v3.toNat Z8).Clock, (v4.getD v3.toNat Z8).Kind, (v4.getD v3.toNat Z8).Service, (v4.getD v3.toNat Z8).Version, (v4.getD v3.toNat Z8).Operation, (v4.getD v3.toNat Z8).Start, (v4.getD v3.toNat Z8).End, (v4.getD v3.toNat Z8).Error, v13, (v4.getD v3.toNat Z8).Links⟩ : Zm)).getD v3.toNat Z8).Id, ((v4.set v3.toNat (⟨(v4.getD v3.toNat Z8).Trace, (v4.getD v3.toNat Z8).Id, (v4.getD v3.toNat Z8).Parent, (v4.getD v3.toNat Z8).Revision, (v4.getD v3.toNat Z8).Clock, (v4.getD v3.toNat Z8).Kind, (v4.getD v3.toNat Z8).Service, (v4.getD v3.toNat Z8).Version, (v4.getD v3.toNat Z8).Operation, (v4.getD v3.toNat Z8).Start, (v4.getD v3.toNat Z8).End, (v4.getD v3.toNat Z8).Error, v13, (v4.getD v3.toNat Z8).Links⟩ : Zm)).getD v3.toNat Z8).Parent, ((v4.set v3.toNat (⟨(v4.getD v3.toNat Z8).Trace, (v4.getD v3.toNat Z8).Id, (v4.getD v3.toNat Z8).Parent, (v4.getD v3.toNat Z8).Revision, (v4.getD v3.toNat Z8).Clock, (v4.getD v3.toNat Z8).Kind, (v4.getD v3.toNat Z8).Service, (v4.getD v3.toNat Z8).Version, (v4.getD v3.toNat Z8).Operation, (v4.getD v3.toNat Z8).Start, (v4.getD v3.toNat Z8).End, (v4.getD v3.toNat Z8).Error, v13, (v4.getD v3.toNat Z8).Links⟩ : Zm)).getD v3.toNat Z8).Revision, ((v4.set v3.toNat (⟨(v4.getD v3.toNat Z8).Trace, (v4.getD v3.toNat Z8).Id, (v4.getD v3.toNat Z8).Parent, (v4.getD v3.toNat Z8).Revision, (v4.getD v3.toNat Z8).Clock, (v4.getD v3.toNat Z8).Kind, (v4.getD v3.toNat Z8).Service, (v4.getD v3.toNat Z8).Version, (v4.getD v3.toNat Z8).Operation, (v4.getD v3.toNat Z8).Start, (v4.getD v3.toNat Z8).End, (v4.getD v3.toNat Z8).Error, v13, (v4.getD v3.toNat Z8).Links⟩ : Zm)).getD v3.toNat Z8).Clock, ((v4.set v3.toNat (⟨(v4.getD v3.toNat Z8).Trace, (v4.getD v3.toNat Z8).Id, (v4.getD v3.toNat Z8).Parent, (v4.getD v3.toNat Z8).Revision, (v4.getD v3.toNat Z8).Clock, (v4.getD v3.toNat Z8).Kind, (v4.getD v3.toNat Z8).Service, (v4.getD v3.toNat Z8).Version, (v4.getD v3.toNat Z8).Operation, (v4.getD v3.toNat Z8).Start, (v4.getD v3.toNat Z8).End, (v4.getD v3.toNat Z8).Error, v13, (v4.getD v3.toNat Z8).Links⟩ : Zm)).getD v3.toNat Z8).Kind, ((v4.set v3.toNat (⟨(v4.getD v3.toNat Z8).Trace, (v4.getD v3.toNat Z8).Id, (v4.getD v3.toNat Z8).Parent, (v4.getD v3.toNat Z8).Revision, (v4.getD v3.toNat Z8).Clock, (v4.getD v3.toNat Z8).Kind, (v4.getD v3.toNat Z8).Service, (v4.getD v3.toNat Z8).Version, (v4.getD v3.toNat Z8).Operation, (v4.getD v3.toNat Z8).Start, (v4.getD v3.toNat Z8).End, (v4.getD v3.toNat Z8).Error, v13, (v4.getD v3.toNat Z8).Links⟩ : Zm)).getD v3.toNat Z8).Service, ((v4.set v3.toNat (⟨(v4.getD v3.toNat Z8).Trace, (v4.getD v3.toNat Z8).Id, (v4.getD v3.toNat Z8).Parent, (v4.getD v3.toNat Z8).Revision, (v4.getD v3.toNat Z8).Clock, (v4.getD v3.toNat Z8).Kind, (v4.getD v3.toNat Z8).Service, (v4.getD v3.toNat Z8).Version, (v4.getD v3.toNat Z8).Operation, (v4.getD v3.toNat Z8).Start, (v4.getD v3.toNat Z8).End, (v4.getD v3.toNat Z8).Error, v13, (v4.getD v3.toNat Z8).Links⟩ : Zm)).getD v3.toNat Z8).Version, ((v4.set v3.toNat (⟨(v4.getD v3.toNat Z8).Trace, (v4.getD v3.toNat Z8).Id, (v4.getD v3.toNat Z8).Parent, (v4.getD v3.toNat Z8).Revision, (v4.getD v3.toNat Z8).Clock, (v4.getD v3.toNat Z8).Kind, (v4.getD v3.toNat Z8).Service, (v4.getD v3.toNat Z8).Version, (v4.getD v3.toNat Z8).Operation, (v4.getD v3.toNat Z8).Start, (v4.getD v3.toNat Z8).End, (v4.getD v3.toNat Z8).Error, v13, (v4.getD v3.toNat Z8).Links⟩ : Zm)).getD v3.toNat Z8).Operation, ((v4.set v3.toNat (⟨(v4.getD v3.toNat Z8).Trace, (v4.getD v3.toNat Z8).Id, (v4.getD v3.toNat Z8).Parent, (v4.getD v3.toNat Z8).Revision, (v4.getD v3.toNat Z8).Clock, (v4.getD v3.toNat Z8).Kind, (v4.getD v3.toNat Z8).Service, (v4.getD v3.toNat Z8).Version, (v4.getD v3.toNat Z8).Operation, (v4.getD v3.toNat Z8).Start, (v4.getD v3.toNat Z8).End, (v4.getD v3.toNat Z8).Error, v13, (v4.getD v3.toNat Z8).Links⟩ : Zm)).getD v3.toNat Z8).Start, ((v4.set v3.toNat (⟨(v4.getD v3.toNat Z8).Trace, (v4.getD v3.toNat Z8).Id, (v4.getD v3.toNat Z8).Parent, (v4.getD v3.toNat Z8).Revision, (v4.getD v3.toNat Z8).Clock, (v4.getD v3.toNat Z8).Kind, (v4.getD v3.toNat Z8).Service, (v4.getD v3.toNat Z8).Version, (v4.getD v3.toNat Z8).Operation, (v4.getD v3.toNat Z8).Start, (v4.getD v3.toNat Z8).End, (v4.getD v3.toNat Z8).Error, v13, (v4.getD v3.toNat Z8).Links⟩ : Zm)).getD v3.toNat Z8).End, ((v4.set v3.toNat (⟨(v4.getD v3.toNat Z8).Trace, (v4.getD v3.toNat Z8).Id, (v4.getD v3.toNat Z8).Parent, (v4.getD v3.toNat Z8).Revision, (v4.getD v3.toNat Z8).Clock, (v4.getD v3.toNat Z8).Kind, (v4.getD v3.toNat Z8).Service, (v4.getD v3.toNat Z8).Version, (v4.getD v3.toNat Z8).Operation, (v4.getD v3.toNat Z8).Start, (v4.getD v3.toNat Z8).End, (v4.getD v3.toNat Z8).Error, v13, (v4.getD v3.toNat Z8).Links⟩ : Zm)).getD v3.toNat Z8).Error, ((v4.set v3.toNat (⟨(v4.getD v3.toNat Z8).Trace, (v4.getD v3.toNat Z8).Id, (v4.getD v3.toNat Z8).Parent, (v4.getD v3.toNat Z8).Revision, (v4.getD v3.toNat Z8).Clock, (v4.getD v3.toNat Z8).Kind, (v4.getD v3.toNat Z8).Service, (v4.getD v3.toNat Z8).Version, (v4.getD v3.toNat Z8).Operation, (v4.getD v3.toNat Z8).Start, (v4.getD v3.toNat Z8).End, (v4.getD v3.toNat Z8).Error, v13, (v4.getD v3.toNat Z8).Links⟩ : Zm)).getD v3.toNat Z8).Attrs, v15⟩ : Zm))
          else none
         else none
        else none
       else none
    else none
   else none
  else
   c8 v4
def F45 (K : Nat) (a0 : (List Zm)) : Option ((List Zm)) :=
 (F89 K a0).bind fun v2 =>
  F45_l5 K v2 (F45_c7 K) K 0 v2
def F14_c5 (K : Nat) (v4 : (List Zv)) : Option ((List Zv)) :=
 some v4
def F14_j9 (K : Nat) (b7 : Int → (List Zv) → Option ((List Zv))) (v1 : Int) (v8 : (List Zv)) : Option ((List Zv)) :=
 b7 (IntKind.i64.wrap (v1 + 1)) v8
def F14_j14 (K : Nat) (b7 : Int → (List Zv) → Option ((List Zv))) (v1 : Int) (v13 : (List Zv)) : Option ((List Zv)) :=
 F14_j9 K b7 v1 v13
def F14_l3 (K : Nat) (a0 : (List Zv)) (a1 : Z41) (c6 : (List Zv) → Option ((List Zv))) : Nat → Int → (List Zv) → Option ((List Zv))
 | 0, _, _ => none
 | k3 + 1, v1, v2 =>
  if (decide (v1 < (a0.length : Int))) = true then
   if (0 : Int) ≤ v1 ∧ v1 < a0.length then
    (F16 K (a0.getD v1.toNat Zn).Id).bind fun v12 =>
     if (decide (a1.From ≤ v12)) = true then
      if (decide (v12 < a1.To)) = true then
       (F45 K (a0.getD v1.toNat Zn).Spans).bind fun v16 =>
        if v2.length + [(⟨(a0.getD v1.toNat Zn).Id, (a0.getD v1.toNat Zn).Weight, v16⟩ : Zv)].length ≤ 1073741824 then
         F14_j14 K (F14_l3 K a0 a1 c6 k3) v1 (v2 ++ [(⟨(a0.getD v1.toNat Zn).Id, (a0.getD v1.toNat Zn).Weight, v16⟩ : Zv)])
        else none
      else
       F14_j14 K (F14_l3 K a0 a1 c6 k3) v1 v2
     else
      F14_j9 K (F14_l3 K a0 a1 c6 k3) v1 v2
   else none
  else
   c6 v2
def F14 (K : Nat) (a0 : (List Zv)) (a1 : Z41) : Option ((List Zv)) :=
 F14_l3 K a0 a1 (F14_c5 K) K 0 []
def F15_c5 (K : Nat) (v4 : (List Zv)) : Option ((List Zv)) :=
 some v4
def F15_j9 (K : Nat) (b7 : Int → (List Zv) → Option ((List Zv))) (v1 : Int) (v8 : (List Zv)) : Option ((List Zv)) :=
 b7 (IntKind.i64.wrap (v1 + 1)) v8
def F15_j14 (K : Nat) (b7 : Int → (List Zv) → Option ((List Zv))) (v1 : Int) (v13 : (List Zv)) : Option ((List Zv)) :=
 F15_j9 K b7 v1 v13
def F15_l3 (K : Nat) (a0 : (List Zv)) (a1 : Int) (a2 : Int) (c6 : (List Zv) → Option ((List Zv))) : Nat → Int → (List Zv) → Option ((List Zv))
 | 0, _, _ => none
 | k3 + 1, v1, v2 =>
  if (decide (v1 < (a0.length : Int))) = true then
   if (0 : Int) ≤ v1 ∧ v1 < a0.length then
    (F16 K (a0.getD v1.toNat Zn).Id).bind fun v12 =>
     if (decide (v12 ≥ a1)) = true then
      if (decide (v12 < a2)) = true then
       if (0 : Int) ≤ v1 ∧ v1 < a0.length then
        if v2.length + [(a0.getD v1.toNat Zn)].length ≤ 1073741824 then
         F15_j14 K (F15_l3 K a0 a1 a2 c6 k3) v1 (v2 ++ [(a0.getD v1.toNat Zn)])
        else none
       else none
      else
       F15_j14 K (F15_l3 K a0 a1 a2 c6 k3) v1 v2
     else
      F15_j9 K (F15_l3 K a0 a1 a2 c6 k3) v1 v2
   else none
  else
   c6 v2
def F15 (K : Nat) (a0 : (List Zv)) (a1 : Int) (a2 : Int) : Option ((List Zv)) :=
 F15_l3 K a0 a1 a2 (F15_c5 K) K 0 []
noncomputable def F17_i1_c11 (K : Nat) (v8 : Bool) (v9 : (List (Str × Zg))) (v10 : (List (Zq × Zk))) : Option (Zc × Int) :=
 (F52 K v8 v9 v10).bind fun v14 =>
  some (v14.2, v14.1)
def F17_i1_c33 (K : Nat) (b15 : Int → Bool → (List (Str × Zg)) → (List (Zq × Zk)) → Option (Zc × Int)) (v3 : Int) (v30 : Bool) (v31 : (List (Str × Zg))) (v32 : (List (Zq × Zk))) : Option (Zc × Int) :=
 b15 (IntKind.i64.wrap (v3 + 1)) v30 v31 v32
def Zay (K : Nat) (b35 : Int → Bool → (List (Str × Zg)) → (List (Zq × Zk)) → Option (Zc × Int)) (v25 : Int) (v36 : Bool) (v37 : (List (Str × Zg))) (v38 : (List (Zq × Zk))) : Option (Zc × Int) :=
 b35 (IntKind.i64.wrap (v25 + 1)) v36 v37 v38
def Zb9 (K : Nat) (b35 : Int → Bool → (List (Str × Zg)) → (List (Zq × Zk)) → Option (Zc × Int)) (v25 : Int) (v46 : Bool × (List (Str × Zg))) (v47 : Bool) (v48 : (List (Zq × Zk))) : Option (Zc × Int) :=
 Zay K b35 v25 v47 v46.2 v48
def Z5y (K : Nat) (v18 : (List Zm)) (a0 : (List Zv)) (v3 : Int) (v22 : (List (Int × Zm))) (c34 : Bool → (List (Str × Zg)) → (List (Zq × Zk)) → Option (Zc × Int)) : Nat → Int → Bool → (List (Str × Zg)) → (List (Zq × Zk)) → Option (Zc × Int)
 | 0, _, _, _, _ => none
 | k29 + 1, v25, v26, v27, v28 =>
  if (decide (v25 < (v18.length : Int))) = true then
   if (0 : Int) ≤ v25 ∧ v25 < v18.length then
    (F49 K (v18.getD v25.toNat Z8).Error (a0.getD v3.toNat Zn).Weight).bind fun v42 =>
     (F49 K ((v18.getD v25.toNat Z8).Parent == 0) (a0.getD v3.toNat Zn).Weight).bind fun v44 =>
      (F48 K (⟨(v18.getD v25.toNat Z8).Service, (a0.getD v3.toNat Zn).Weight, v42, v44⟩ : Zg) v26 v27 v28).bind fun v46 =>
       if (mget Z33 (v18.getD v25.toNat Z8).Parent v22).isSome = true then
        if (!(((mget Z33 (v18.getD v25.toNat Z8).Parent v22).getD Z8).Service == (v18.getD v25.toNat Z8).Service)) = true then
         (F49 K (v18.getD v25.toNat Z8).Error (a0.getD v3.toNat Zn).Weight).bind fun v51 =>
          (F51 K (v18.getD v25.toNat Z8)).bind fun v53 =>
           (F50 K (⟨((mget Z33 (v18.getD v25.toNat Z8).Parent v22).getD Z8).Service, (v18.getD v25.toNat Z8).Service, (a0.getD v3.toNat Zn).Weight, v51, (IntKind.i64.wrap (v53 * (a0.getD v3.toNat Zn).Weight))⟩ : Zk) v46.1 v46.2 v28).bind fun v55 =>
            Zb9 K (Z5y K v18 a0 v3 v22 c34 k29) v25 v46 v55.1 v55.2
        else
         Zb9 K (Z5y K v18 a0 v3 v22 c34 k29) v25 v46 v46.1 v28
       else
        Zay K (Z5y K v18 a0 v3 v22 c34 k29) v25 v46.1 v46.2 v28
   else none
  else
   c34 v26 v27 v28
def F17_i1_c23 (K : Nat) (v18 : (List Zm)) (a0 : (List Zv)) (v3 : Int) (b15 : Int → Bool → (List (Str × Zg)) → (List (Zq × Zk)) → Option (Zc × Int)) (v4 : Bool) (v5 : (List (Str × Zg))) (v6 : (List (Zq × Zk))) (v22 : (List (Int × Zm))) : Option (Zc × Int) :=
 Z5y K v18 a0 v3 v22 (F17_i1_c33 K b15 v3) K 0 v4 v5 v6
def Zar (K : Nat) (v18 : (List Zm)) (c24 : (List (Int × Zm)) → Option (Zc × Int)) : Nat → Int → (List (Int × Zm)) → Option (Zc × Int)
 | 0, _, _ => none
 | k21 + 1, v19, v20 =>
  if (decide (v19 < (v18.length : Int))) = true then
   if (0 : Int) ≤ v19 ∧ v19 < v18.length then
    (Zar K v18 c24 k21) (IntKind.i64.wrap (v19 + 1)) (mput Z33 (v18.getD v19.toNat Z8).Id (v18.getD v19.toNat Z8) v20)
   else none
  else
   c24 v20
def F17_i1_l7 (K : Nat) (a0 : (List Zv)) (c12 : Bool → (List (Str × Zg)) → (List (Zq × Zk)) → Option (Zc × Int)) : Nat → Int → Bool → (List (Str × Zg)) → (List (Zq × Zk)) → Option (Zc × Int)
 | 0, _, _, _, _ => none
 | k7 + 1, v3, v4, v5, v6 =>
  if (decide (v3 < (a0.length : Int))) = true then
   if (0 : Int) ≤ v3 ∧ v3 < a0.length then
    (F47 K (a0.getD v3.toNat Zn).Spans).bind fun v18 =>
     Zar K v18 (F17_i1_c23 K v18 a0 v3 (F17_i1_l7 K a0 c12 k7) v4 v5 v6) K 0 ([] : List (Int × Zm))
   else none
  else
   c12 v4 v5 v6
noncomputable def F17_i1 (K : Nat) (a0 : (List Zv)) : Option (Zc × Int) :=
 (F46 K).bind fun v2 =>
  F17_i1_l7 K a0 (F17_i1_c11 K) K 0 false ([] : List (Str × Zg)) ([] : List (Zq × Zk))
noncomputable def F18_c11 (K : Nat) (v8 : Bool) (v9 : (List (Str × Zg))) (v10 : (List (Zq × Zk))) : Option (Zc × Int) :=
 (F52 K v8 v9 v10).bind fun v14 =>
  some (v14.2, v14.1)
def F18_c32 (K : Nat) (b15 : Int → Bool → (List (Str × Zg)) → (List (Zq × Zk)) → Option (Zc × Int)) (v3 : Int) (v23 : (List (Str × Zg))) (v30 : Bool) (v31 : (List (Zq × Zk))) : Option (Zc × Int) :=
 b15 (IntKind.i64.wrap (v3 + 1)) v30 v23 v31
def F18_l29 (K : Nat) (a0 : Zc) (a1 : Zc) (v3 : Int) (v23 : (List (Str × Zg))) (c33 : Bool → (List (Zq × Zk)) → Option (Zc × Int)) : Nat → Int → Bool → (List (Zq × Zk)) → Option (Zc × Int)
 | 0, _, _, _ => none
 | k29 + 1, v26, v27, v28 =>
  if (decide (v26 < (([a0, a1].getD v3.toNat Z1t).Calls.length : Int))) = true then
   if (0 : Int) ≤ v26 ∧ v26 < ([a0, a1].getD v3.toNat Z1t).Calls.length then
    (F50 K (([a0, a1].getD v3.toNat Z1t).Calls.getD v26.toNat Z6) v27 v23 v28).bind fun v37 =>
     (F18_l29 K a0 a1 v3 v23 c33 k29) (IntKind.i64.wrap (v26 + 1)) v37.1 v37.2
   else none
  else
   c33 v27 v28
def F18_c24 (K : Nat) (a0 : Zc) (a1 : Zc) (v3 : Int) (b15 : Int → Bool → (List (Str × Zg)) → (List (Zq × Zk)) → Option (Zc × Int)) (v6 : (List (Zq × Zk))) (v22 : Bool) (v23 : (List (Str × Zg))) : Option (Zc × Int) :=
 F18_l29 K a0 a1 v3 v23 (F18_c32 K b15 v3 v23) K 0 v22 v6
def F18_l21 (K : Nat) (a0 : Zc) (a1 : Zc) (v3 : Int) (v6 : (List (Zq × Zk))) (c25 : Bool → (List (Str × Zg)) → Option (Zc × Int)) : Nat → Int → Bool → (List (Str × Zg)) → Option (Zc × Int)
 | 0, _, _, _ => none
 | k21 + 1, v18, v19, v20 =>
  if (decide (v18 < (([a0, a1].getD v3.toNat Z1t).Services.length : Int))) = true then
   if (0 : Int) ≤ v18 ∧ v18 < ([a0, a1].getD v3.toNat Z1t).Services.length then
    (F48 K (([a0, a1].getD v3.toNat Z1t).Services.getD v18.toNat Z9) v19 v20 v6).bind fun v41 =>
     (F18_l21 K a0 a1 v3 v6 c25 k21) (IntKind.i64.wrap (v18 + 1)) v41.1 v41.2
   else none
  else
   c25 v19 v20
def F18_l7 (K : Nat) (a0 : Zc) (a1 : Zc) (c12 : Bool → (List (Str × Zg)) → (List (Zq × Zk)) → Option (Zc × Int)) : Nat → Int → Bool → (List (Str × Zg)) → (List (Zq × Zk)) → Option (Zc × Int)
 | 0, _, _, _, _ => none
 | k7 + 1, v3, v4, v5, v6 =>
  if (decide (v3 < ([a0, a1].length : Int))) = true then
   if (0 : Int) ≤ v3 ∧ v3 < ([a0, a1].length : Nat) then
    if v3.toNat < [a0, a1].length then
     F18_l21 K a0 a1 v3 v6 (F18_c24 K a0 a1 v3 (F18_l7 K a0 a1 c12 k7) v6) K 0 v4 v5
    else none
   else none
  else
   c12 v4 v5 v6
noncomputable def F18 (K : Nat) (a0 : Zc) (a1 : Zc) : Option (Zc × Int) :=
 (F46 K).bind fun v2 =>
  F18_l7 K a0 a1 (F18_c11 K) K 0 false ([] : List (Str × Zg)) ([] : List (Zq × Zk))
def F20_c5 (K : Nat) (v4 : Zc) : Option (Zc) :=
 some v4
def F20_c16 (K : Nat) (b7 : Int → Zc → Option (Zc)) (v1 : Int) (v15 : Zc) : Option (Zc) :=
 b7 (IntKind.i64.wrap (v1 + 1)) v15
def F20_c34 (K : Nat) (b18 : Int → Zc → Option (Zc)) (v12 : Int) (v33 : Zc) : Option (Zc) :=
 b18 (IntKind.i64.wrap (v12 + 1)) v33
def F20_j38 (K : Nat) (b36 : Int → Zc → Option (Zc)) (v30 : Int) (v37 : Zc) : Option (Zc) :=
 b36 (IntKind.i64.wrap (v30 + 1)) v37
def F20_j52 (K : Nat) (v31 : Zc) (b36 : Int → Zc → Option (Zc)) (v30 : Int) (v51 : Zk) : Option (Zc) :=
 (F55 K v31 v51).bind fun v54 =>
  F20_j38 K b36 v30 v54
def Z99 (K : Nat) (v10 : (List Zm)) (v12 : Int) (a0 : (List Zv)) (v1 : Int) (c35 : Zc → Option (Zc)) : Nat → Int → Zc → Option (Zc)
 | 0, _, _ => none
 | k32 + 1, v30, v31 =>
  if (decide (v30 < (v10.length : Int))) = true then
   if (0 : Int) ≤ v30 ∧ v30 < v10.length then
    if (0 : Int) ≤ v12 ∧ v12 < v10.length then
     if ((v10.getD v30.toNat Z8).Id != (v10.getD v12.toNat Z8).Parent) = true then
      F20_j38 K (Z99 K v10 v12 a0 v1 c35 k32) v30 v31
     else
      if (0 : Int) ≤ v30 ∧ v30 < v10.length then
       if (0 : Int) ≤ v12 ∧ v12 < v10.length then
        if ((v10.getD v30.toNat Z8).Service == (v10.getD v12.toNat Z8).Service) = true then
         F20_j38 K (Z99 K v10 v12 a0 v1 c35 k32) v30 v31
        else
         if (0 : Int) ≤ v30 ∧ v30 < v10.length then
          if (0 : Int) ≤ v12 ∧ v12 < v10.length then
           (F54 K v31 (v10.getD v30.toNat Z8).Service (v10.getD v12.toNat Z8).Service).bind fun v46 =>
            if (0 : Int) ≤ v12 ∧ v12 < v10.length then
             (F51 K (v10.getD v12.toNat Z8)).bind fun v49 =>
              if (0 : Int) ≤ v12 ∧ v12 < v10.length then
               if (v10.getD v12.toNat Z8).Error = true then
                F20_j52 K v31 (Z99 K v10 v12 a0 v1 c35 k32) v30 (⟨v46.Caller, v46.Callee, (IntKind.i64.wrap (v46.Count + (a0.getD v1.toNat Zn).Weight)), (IntKind.i64.wrap (v46.Errors + (a0.getD v1.toNat Zn).Weight)), (IntKind.i64.wrap (v46.Time + (IntKind.i64.wrap ((a0.getD v1.toNat Zn).Weight * v49))))⟩ : Zk)
               else
                F20_j52 K v31 (Z99 K v10 v12 a0 v1 c35 k32) v30 (⟨v46.Caller, v46.Callee, (IntKind.i64.wrap (v46.Count + (a0.getD v1.toNat Zn).Weight)), v46.Errors, (IntKind.i64.wrap (v46.Time + (IntKind.i64.wrap ((a0.getD v1.toNat Zn).Weight * v49))))⟩ : Zk)
              else none
            else none
          else none
         else none
       else none
      else none
    else none
   else none
  else
   c35 v31
def F20_j27 (K : Nat) (v13 : Zc) (v10 : (List Zm)) (v12 : Int) (a0 : (List Zv)) (v1 : Int) (b18 : Int → Zc → Option (Zc)) (v26 : Zg) : Option (Zc) :=
 (F53 K v13 v26).bind fun v29 =>
  Z99 K v10 v12 a0 v1 (F20_c34 K b18 v12) K 0 v29
def F20_j24 (K : Nat) (v12 : Int) (v10 : (List Zm)) (v13 : Zc) (a0 : (List Zv)) (v1 : Int) (b18 : Int → Zc → Option (Zc)) (v23 : Zg) : Option (Zc) :=
 if (0 : Int) ≤ v12 ∧ v12 < v10.length then
  if ((v10.getD v12.toNat Z8).Parent == 0) = true then
   F20_j27 K v13 v10 v12 a0 v1 b18 (⟨v23.Name, v23.Spans, v23.Errors, (IntKind.i64.wrap (v23.Roots + (a0.getD v1.toNat Zn).Weight))⟩ : Zg)
  else
   F20_j27 K v13 v10 v12 a0 v1 b18 v23
 else none
def F20_l14 (K : Nat) (v10 : (List Zm)) (a0 : (List Zv)) (v1 : Int) (c17 : Zc → Option (Zc)) : Nat → Int → Zc → Option (Zc)
 | 0, _, _ => none
 | k14 + 1, v12, v13 =>
  if (decide (v12 < (v10.length : Int))) = true then
   if (0 : Int) ≤ v12 ∧ v12 < v10.length then
    (F31 K v13 (v10.getD v12.toNat Z8).Service).bind fun v21 =>
     if (0 : Int) ≤ v12 ∧ v12 < v10.length then
      if (v10.getD v12.toNat Z8).Error = true then
       F20_j24 K v12 v10 v13 a0 v1 (F20_l14 K v10 a0 v1 c17 k14) (⟨v21.Name, (IntKind.i64.wrap (v21.Spans + (a0.getD v1.toNat Zn).Weight)), (IntKind.i64.wrap (v21.Errors + (a0.getD v1.toNat Zn).Weight)), v21.Roots⟩ : Zg)
      else
       F20_j24 K v12 v10 v13 a0 v1 (F20_l14 K v10 a0 v1 c17 k14) (⟨v21.Name, (IntKind.i64.wrap (v21.Spans + (a0.getD v1.toNat Zn).Weight)), v21.Errors, v21.Roots⟩ : Zg)
     else none
   else none
  else
   c17 v13
def F20_l3 (K : Nat) (a0 : (List Zv)) (c6 : Zc → Option (Zc)) : Nat → Int → Zc → Option (Zc)
 | 0, _, _ => none
 | k3 + 1, v1, v2 =>
  if (decide (v1 < (a0.length : Int))) = true then
   if (0 : Int) ≤ v1 ∧ v1 < a0.length then
    (F47 K (a0.getD v1.toNat Zn).Spans).bind fun v10 =>
     if (0 : Int) ≤ v1 ∧ v1 < a0.length then
      F20_l14 K v10 a0 v1 (F20_c16 K (F20_l3 K a0 c6 k3) v1) K 0 v2
     else none
   else none
  else
   c6 v2
def F20 (K : Nat) (a0 : (List Zv)) : Option (Zc) :=
 F20_l3 K a0 (F20_c5 K) K 0 Z1t
end Go.AM.TopZ
