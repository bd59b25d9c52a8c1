/- What these functions compute, each with its walk: F16, F89, F45, F14, F15, F17_i1, F18, F20. -/
import Derived.Test.YtkhbjnkckblkjaaGreatTopZT
import Derived.Test.YtkhbjnkckblkjaaGreatTopZG0
import Derived.Test.YtkhbjnkckblkjaaGreatTopZG1
namespace Go.AM.TopZ
open Go Go.AM Go.Proofs
set_option maxRecDepth 100000
set_option maxHeartbeats 2000000
def F16 (K : Nat) (a0 : Int) : Option (Int) :=
 if (0 : Int) ≤ 20 then
  some (a0.fdiv (2 ^ (min (20 : Int).toNat IntKind.i64.bits)))
 else none
def F89 (K : Nat) (a0 : (List Zo)) : Option ((List Zo)) :=
 if ([] : List Zo).length + a0.length ≤ 1073741824 then
  some a0
 else none
def F45_c7 (K : Nat) (v6 : (List Zo)) : Option ((List Zo)) :=
 some v6
def F45_l5 (K : Nat) (v2 : (List Zo)) (c8 : (List Zo) → Option ((List Zo))) : Nat → Int → (List Zo) → Option ((List Zo))
 | 0, _, _ => none
 | k5 + 1, v3, v4 =>
  if (decide (v3 < (v2.length : Int))) = true then
   if (0 : Int) ≤ v3 ∧ v3 < (v4.length : Nat) then
    if v3.toNat < v4.length then
     (F90 K (v4.getD v3.toNat Z7).Attrs).bind fun v13 =>
      (F91 K (v4.getD v3.toNat Z7).Links).bind fun v15 =>
       if (0 : Int) ≤ v3 ∧ v3 < (v4.length : Nat) then
        if v3.toNat < v4.length then
         if (0 : Int) ≤ v3 ∧ v3 < ((v4.set v3.toNat (⟨(v4.getD v3.toNat Z7).Trace, (v4.getD v3.toNat Z7).Id, (v4.getD v3.toNat Z7).Parent, (v4.getD v3.toNat Z7).Revision, (v4.getD v3.toNat Z7).Clock, (v4.getD v3.toNat Z7).Kind, (v4.getD v3.toNat Z7).Service, (v4.getD v3.toNat Z7).Version, (v4.getD v3.toNat Z7).Operation, (v4.getD v3.toNat Z7).Start, (v4.getD v3.toNat Z7).End, (v4.getD v3.toNat Z7).Error, v13, (v4.getD v3.toNat Z7).Links⟩ : Zo)).length : Nat) then
          if v3.toNat < (v4.set v3.toNat (⟨(v4.getD v3.toNat Z7).Trace, (v4.getD v3.toNat Z7).Id, (v4.getD v3.toNat Z7).Parent, (v4.getD v3.toNat Z7).Revision, (v4.getD v3.toNat Z7).Clock, (v4.getD v3.toNat Z7).Kind, (v4.getD v3.toNat Z7).Service, (v4.getD v3.toNat Z7).Version, (v4.getD v3.toNat Z7).Operation, (v4.getD v3.toNat Z7).Start, (v4.getD v3.toNat Z7).End, (v4.getD v3.toNat Z7).Error, v13, (v4.getD v3.toNat Z7).Links⟩ : Zo)).length then
           (F45_l5 K v2 c8 k5) (IntKind.i64.wrap (v3 + 1)) ((v4.set v3.toNat (⟨(v4.getD v3.toNat Z7).Trace, (v4.getD v3.toNat Z7).Id, (v4.getD v3.toNat Z7).Parent, (v4.getD v3.toNat Z7).Revision, (v4.getD v3.toNat Z7).Clock, (v4.getD v3.toNat Z7).Kind, (v4.getD v3.toNat Z7).Service, (v4.getD v3.toNat Z7).Version, (v4.getD v3.toNat Z7).Operation, (v4.getD v3.toNat Z7).Start, (v4.getD v3.toNat Z7).End, (v4.getD v3.toNat Z7).Error, v13, (v4.getD v3.toNat Z7).Links⟩ : Zo)).set v3.toNat (⟨((v4.set v3.toNat (⟨(v4.getD v3.toNat Z7).Trace, (v4.getD v3.toNat Z7).Id, (v4.getD v3.toNat Z7).Parent, (v4.getD v3.toNat Z7).Revision, (v4.getD v3.toNat Z7).Clock, (v4.getD v3.toNat Z7).Kind, (v4.getD v3.toNat Z7).Service, (v4.getD v3.toNat Z7).Version, (v4.getD v3.toNat Z7).Operation, (v4.getD v3.toNat Z7).Start, (v4.getD v3.toNat Z7).End, (v4.getD v3.toNat Z7).Error, v13, (v4.getD v3.toNat Z7).Links⟩ : Zo)).getD v3.toNat Z7).Trace, ((v4.set v3.toNat (⟨(v4.getD v3.toNat Z7).Trace, (v4.getD v3.toNat Z7).Id, (v4.getD v3.toNat Z7).Parent, (v4.getD v3.toNat Z7).Revision, (v4.getD v3.toNat Z7).Clock, (v4.getD v3.toNat Z7).Kind, (v4.getD v3.toNat Z7).Service, (v4.getD v3.toNat Z7).Version, (v4.getD v3.toNat Z7).Operation, (v4.getD v3.toNat Z7).Start, (v4.getD v3.toNat Z7).End, (v4.getD v3.toNat Z7).Error, v13, (v4.getD v3.toNat Z7).Links⟩ : Zo)).getD v3.toNat Z7).Id, ((v4.set v3.toNat (⟨(v4.getD v3.toNat Z7).Trace, (v4.getD v3.toNat Z7).Id, (v4.getD v3.toNat Z7).Parent, (v4.getD v3.toNat Z7).Revision, (v4.getD v3.toNat Z7).Clock, (v4.getD v3.toNat Z7).Kind, (v4.getD v3.toNat Z7).Service, (v4.getD v3.toNat Z7).Version, (v4.getD v3.toNat Z7).Operation, (v4.getD v3.toNat Z7).Start, (v4.getD v3.toNat Z7).End, (v4.getD v3.toNat Z7).Error, v13, (v4.getD v3.toNat Z7).Links⟩ : Zo)).getD v3.toNat Z7).Parent, ((v4.set v3.toNat (⟨(v4.getD v3.toNat Z7).Trace, (v4.getD v3.toNat Z7).Id, (v4.getD v3.toNat Z7).Parent, (v4.getD v3.toNat Z7).Revision, (v4.getD v3.toNat Z7).Clock, (v4.getD v3.toNat Z7).Kind, (v4.getD v3.toNat Z7).Service, (v4.getD v3.toNat Z7).Version, (v4.getD v3.toNat Z7).Operation, (v4.getD v3.toNat Z7).Start, (v4.getD v3.toNat Z7).End, (v4.getD v3.toNat Z7).Error, v13, (v4.getD v3.toNat Z7).Links⟩ : Zo)).getD v3.toNat Z7).Revision, ((v4.set v3.toNat (⟨(v4.getD v3.toNat Z7).Trace, (v4.getD v3.toNat Z7).Id, (v4.getD v3.toNat Z7).Parent, (v4.getD v3.toNat Z7).Revision, (v4.getD v3.toNat Z7).Clock, (v4.getD v3.toNat Z7).Kind, (v4.getD v3.toNat Z7).Service, (v4.getD v3.toNat Z7).Version, (v4.getD v3.toNat Z7).Operation, (v4.getD v3.toNat Z7).Start, (v4.getD v3.toNat Z7).End, (v4.getD v3.toNat Z7).Error, v13, (v4.getD v3.toNat Z7).Links⟩ : Zo)).getD v3.toNat Z7).Clock, ((v4.set v3.toNat (⟨(v4.getD v3.toNat Z7).Trace, (v4.getD v3.toNat Z7).Id, (v4.getD v3.toNat Z7).Parent, (v4.getD v3.toNat Z7).Revision, (v4.getD v3.toNat Z7).Clock, (v4.getD v3.toNat Z7).Kind, (v4.getD v3.toNat Z7).Service, (v4.getD v3.toNat Z7).Version, (v4.getD v3.toNat Z7).Operation, (v4.getD v3.toNat Z7).Start, (v4.getD v3.toNat Z7).End, (v4.getD v3.toNat Z7).Error, v13, (v4.getD v3.toNat Z7).Links⟩ : Zo)).getD v3.toNat Z7).Kind, ((v4.set v3.toNat (⟨(v4.getD v3.toNat Z7).Trace, (v4.getD v3.toNat Z7).Id, (v4.getD v3.toNat Z7).Parent, (v4.getD v3.toNat Z7).Revision, (v4.getD v3.toNat Z7).Clock, (v4.getD v3.toNat Z7).Kind, (v4.getD v3.toNat Z7).Service, (v4.getD v3.toNat Z7).Version, (v4.getD v3.toNat Z7).Operation, (v4.getD v3.toNat Z7).Start, (v4.getD v3.toNat Z7).End, (v4.getD v3.toNat Z7).Error, v13, (v4.getD v3.toNat Z7).Links⟩ : Zo)).getD v3.toNat Z7).Service, ((v4.set v3.toNat (⟨(v4.getD v3.toNat Z7).Trace, (v4.getD v3.toNat Z7).Id, (v4.getD v3.toNat Z7).Parent, (v4.getD v3.toNat Z7).Revision, (v4.getD v3.toNat Z7).Clock, (v4.getD v3.toNat Z7).Kind, (v4.getD v3.toNat Z7).Service, (v4.getD v3.toNat Z7).Version, (v4.getD v3.toNat Z7).Operation, (v4.getD v3.toNat Z7).Start, (v4.getD v3.toNat Z7).End, (v4.getD v3.toNat Z7).Error, v13, (v4.getD v3.toNat Z7).Links⟩ : Zo)).getD v3.toNat Z7).Version, ((v4.set v3.toNat (⟨(v4.getD v3.toNat Z7).Trace, (v4.getD v3.toNat Z7).Id, (v4.getD v3.toNat Z7).Parent, (v4.getD v3.toNat Z7).Revision, (v4.getD v3.toNat Z7).Clock, (v4.getD v3.toNat Z7).Kind, (v4.getD v3.toNat Z7).Service, (v4.getD v3.toNat Z7).Version, (v4.getD v3.toNat Z7).Operation, (v4.getD v3.toNat Z7).Start, (v4.getD v3.toNat Z7).End, (v4.getD v3.toNat Z7).Error, v13, (v4.getD v3.toNat Z7).Links⟩ : Zo)).getD v3.toNat Z7).Operation, ((v4.set v3.toNat (⟨(v4.getD v3.toNat Z7).Trace, (v4.getD v3.toNat Z7).Id, (v4.getD v3.toNat Z7).Parent, (v4.getD v3.toNat Z7).Revision, (v4.getD v3.toNat Z7).Clock, (v4.getD v3.toNat Z7).Kind, (v4.getD v3.toNat Z7).Service, (v4.getD v3.toNat Z7).Version, (v4.getD v3.toNat Z7).Operation, (v4.getD v3.toNat Z7).Start, (v4.getD v3.toNat Z7).End, (v4.getD v3.toNat Z7).Error, v13, (v4.getD v3.toNat Z7).Links⟩ : Zo)).getD v3.toNat Z7).Start, ((v4.set v3.toNat (⟨(v4.getD v3.toNat Z7).Trace, (v4.getD v3.toNat Z7).Id, (v4.getD v3.toNat Z7).Parent, (v4.getD v3.toNat Z7).Revision, (v4.getD v3.toNat Z7).Clock, (v4.getD v3.toNat Z7).Kind, (v4.getD v3.toNat Z7).Service, (v4.getD v3.toNat Z7).Version, (v4.getD v3.toNat Z7).Operation, (v4.getD v3.toNat Z7).Start, (v4.getD v3.toNat Z7).End, (v4.getD v3.toNat Z7).Error, v13, (v4.getD v3.toNat Z7).Links⟩ : Zo)).getD v3.toNat Z7).End, ((v4.set v3.toNat (⟨(v4.getD v3.toNat Z7).Trace, (v4.getD v3.toNat Z7).Id, (v4.getD v3.toNat Z7).Parent, (v4.getD v3.toNat Z7).Revision, (v4.getD v3.toNat Z7).Clock, (v4.getD v3.toNat Z7).Kind, (v4.getD v3.toNat Z7).Service, (v4.getD v3.toNat Z7).Version, (v4.getD v3.toNat Z7).Operation, (v4.getD v3.toNat Z7).Start, (v4.getD v3.toNat Z7).End, (v4.getD v3.toNat Z7).Error, v13, (v4.getD v3.toNat Z7).Links⟩ : Zo)).getD v3.toNat Z7).Error, ((v4.set v3.toNat (⟨(v4.getD v3.toNat Z7).Trace, (v4.getD v3.toNat Z7).Id, (v4.getD v3.toNat Z7).Parent, (v4.getD v3.toNat Z7).Revision, (v4.getD v3.toNat Z7).Clock, (v4.getD v3.toNat Z7).Kind, (v4.getD v3.toNat Z7).Service, (v4.getD v3.toNat Z7).Version, (v4.getD v3.toNat Z7).Operation, (v4.getD v3.toNat Z7).Start, (v4.getD v3.toNat Z7).End, (v4.getD v3.toNat Z7).Error, v13, (v4.getD v3.toNat Z7).Links⟩ : Zo)).getD v3.toNat Z7).Attrs, v15⟩ : Zo))
          else none
         else none
        else none
       else none
    else none
   else none
  else
   c8 v4
def F45 (K : Nat) (a0 : (List Zo)) : Option ((List Zo)) :=
 (F89 K a0).bind fun v2 =>
  F45_l5 K v2 (F45_c7 K) K 0 v2
def F14_c5 (K : Nat) (v4 : (List Z11)) : Option ((List Z11)) :=
 some v4
def F14_j9 (K : Nat) (b7 : Int → (List Z11) → Option ((List Z11))) (v1 : Int) (v8 : (List Z11)) : Option ((List Z11)) :=
 b7 (IntKind.i64.wrap (v1 + 1)) v8
def F14_j14 (K : Nat) (b7 : Int → (List Z11) → Option ((List Z11))) (v1 : Int) (v13 : (List Z11)) : Option ((List Z11)) :=
 F14_j9 K b7 v1 v13
def F14_l3 (K : Nat) (a0 : (List Z11)) (a1 : Tapi_Interval) (c6 : (List Z11) → Option ((List Z11))) : Nat → Int → (List Z11) → Option ((List Z11))
 | 0, _, _ => none
 | k3 + 1, v1, v2 =>
  if (decide (v1 < (a0.length : Int))) = true then
   if (0 : Int) ≤ v1 ∧ v1 < a0.length then
    (F16 K (a0.getD v1.toNat Zp).Id).bind fun v12 =>
     if (decide (a1.From ≤ v12)) = true then
      if (decide (v12 < a1.To)) = true then
       (F45 K (a0.getD v1.toNat Zp).Spans).bind fun v16 =>
        if v2.length + [(⟨(a0.getD v1.toNat Zp).Id, (a0.getD v1.toNat Zp).Weight, v16⟩ : Z11)].length ≤ 1073741824 then
         F14_j14 K (F14_l3 K a0 a1 c6 k3) v1 (v2 ++ [(⟨(a0.getD v1.toNat Zp).Id, (a0.getD v1.toNat Zp).Weight, v16⟩ : Z11)])
        else none
      else
       F14_j14 K (F14_l3 K a0 a1 c6 k3) v1 v2
     else
      F14_j9 K (F14_l3 K a0 a1 c6 k3) v1 v2
   else none
  else
   c6 v2
def F14 (K : Nat) (a0 : (List Z11)) (a1 : Tapi_Interval) : Option ((List Z11)) :=
 F14_l3 K a0 a1 (F14_c5 K) K 0 []
def F15_c5 (K : Nat) (v4 : (List Z11)) : Option ((List Z11)) :=
 some v4
def F15_j9 (K : Nat) (b7 : Int → (List Z11) → Option ((List Z11))) (v1 : Int) (v8 : (List Z11)) : Option ((List Z11)) :=
 b7 (IntKind.i64.wrap (v1 + 1)) v8
def F15_j14 (K : Nat) (b7 : Int → (List Z11) → Option ((List Z11))) (v1 : Int) (v13 : (List Z11)) : Option ((List Z11)) :=
 F15_j9 K b7 v1 v13
def F15_l3 (K : Nat) (a0 : (List Z11)) (a1 : Int) (a2 : Int) (c6 : (List Z11) → Option ((List Z11))) : Nat → Int → (List Z11) → Option ((List Z11))
 | 0, _, _ => none
 | k3 + 1, v1, v2 =>
  if (decide (v1 < (a0.length : Int))) = true then
   if (0 : Int) ≤ v1 ∧ v1 < a0.length then
    (F16 K (a0.getD v1.toNat Zp).Id).bind fun v12 =>
     if (decide (v12 ≥ a1)) = true then
      if (decide (v12 < a2)) = true then
       if (0 : Int) ≤ v1 ∧ v1 < a0.length then
        if v2.length + [(a0.getD v1.toNat Zp)].length ≤ 1073741824 then
         F15_j14 K (F15_l3 K a0 a1 a2 c6 k3) v1 (v2 ++ [(a0.getD v1.toNat Zp)])
        else none
       else none
      else
       F15_j14 K (F15_l3 K a0 a1 a2 c6 k3) v1 v2
     else
      F15_j9 K (F15_l3 K a0 a1 a2 c6 k3) v1 v2
   else none
  else
   c6 v2
def F15 (K : Nat) (a0 : (List Z11)) (a1 : Int) (a2 : Int) : Option ((List Z11)) :=
 F15_l3 K a0 a1 a2 (F15_c5 K) K 0 []
noncomputable def F17_i1_c11 (K : Nat) (v8 : Bool) (v9 : (List (Str × Ze))) (v10 : (List (Zs × Zm))) : Option (Zb × Int) :=
 (F52 K v8 v9 v10).bind fun v14 =>
  some (v14.2, v14.1)
def F17_i1_c33 (K : Nat) (b15 : Int → Bool → (List (Str × Ze)) → (List (Zs × Zm)) → Option (Zb × Int)) (v3 : Int) (v30 : Bool) (v31 : (List (Str × Ze))) (v32 : (List (Zs × Zm))) : Option (Zb × Int) :=
 b15 (IntKind.i64.wrap (v3 + 1)) v30 v31 v32
def F17_i1_j39 (K : Nat) (b35 : Int → Bool → (List (Str × Ze)) → (List (Zs × Zm)) → Option (Zb × Int)) (v25 : Int) (v36 : Bool) (v37 : (List (Str × Ze))) (v38 : (List (Zs × Zm))) : Option (Zb × Int) :=
 b35 (IntKind.i64.wrap (v25 + 1)) v36 v37 v38
def F17_i1_j49 (K : Nat) (b35 : Int → Bool → (List (Str × Ze)) → (List (Zs × Zm)) → Option (Zb × Int)) (v25 : Int) (v46 : Bool × (List (Str × Ze))) (v47 : Bool) (v48 : (List (Zs × Zm))) : Option (Zb × Int) :=
 F17_i1_j39 K b35 v25 v47 v46.2 v48
def F17_i1_l29 (K : Nat) (v18 : (List Zo)) (a0 : (List Z11)) (v3 : Int) (v22 : (List (Int × Zo))) (c34 : Bool → (List (Str × Ze)) → (List (Zs × Zm)) → Option (Zb × Int)) : Nat → Int → Bool → (List (Str × Ze)) → (List (Zs × Zm)) → Option (Zb × Int)
 | 0, _, _, _, _ => none
 | k29 + 1, v25, v26, v27, v28 =>
  if (decide (v25 < (v18.length : Int))) = true then
   if (0 : Int) ≤ v25 ∧ v25 < v18.length then
    (F49 K (v18.getD v25.toNat Z7).Error (a0.getD v3.toNat Zp).Weight).bind fun v42 =>
     (F49 K ((v18.getD v25.toNat Z7).Parent == 0) (a0.getD v3.toNat Zp).Weight).bind fun v44 =>
      (F48 K (⟨(v18.getD v25.toNat Z7).Service, (a0.getD v3.toNat Zp).Weight, v42, v44⟩ : Ze) v26 v27 v28).bind fun v46 =>
       if (mget q_i64 (v18.getD v25.toNat Z7).Parent v22).isSome = true then
        if (!(((mget q_i64 (v18.getD v25.toNat Z7).Parent v22).getD Z7).Service == (v18.getD v25.toNat Z7).Service)) = true then
         (F49 K (v18.getD v25.toNat Z7).Error (a0.getD v3.toNat Zp).Weight).bind fun v51 =>
          (F51 K (v18.getD v25.toNat Z7)).bind fun v53 =>
           (F50 K (⟨((mget q_i64 (v18.getD v25.toNat Z7).Parent v22).getD Z7).Service, (v18.getD v25.toNat Z7).Service, (a0.getD v3.toNat Zp).Weight, v51, (IntKind.i64.wrap (v53 * (a0.getD v3.toNat Zp).Weight))⟩ : Zm) v46.1 v46.2 v28).bind fun v55 =>
            F17_i1_j49 K (F17_i1_l29 K v18 a0 v3 v22 c34 k29) v25 v46 v55.1 v55.2
        else
         F17_i1_j49 K (F17_i1_l29 K v18 a0 v3 v22 c34 k29) v25 v46 v46.1 v28
       else
        F17_i1_j39 K (F17_i1_l29 K v18 a0 v3 v22 c34 k29) v25 v46.1 v46.2 v28
   else none
  else
   c34 v26 v27 v28
def F17_i1_c23 (K : Nat) (v18 : (List Zo)) (a0 : (List Z11)) (v3 : Int) (b15 : Int → Bool → (List (Str × Ze)) → (List (Zs × Zm)) → Option (Zb × Int)) (v4 : Bool) (v5 : (List (Str × Ze))) (v6 : (List (Zs × Zm))) (v22 : (List (Int × Zo))) : Option (Zb × Int) :=
 F17_i1_l29 K v18 a0 v3 v22 (F17_i1_c33 K b15 v3) K 0 v4 v5 v6
def F17_i1_l21 (K : Nat) (v18 : (List Zo)) (c24 : (List (Int × Zo)) → Option (Zb × Int)) : Nat → Int → (List (Int × Zo)) → Option (Zb × Int)
 | 0, _, _ => none
 | k21 + 1, v19, v20 =>
  if (decide (v19 < (v18.length : Int))) = true then
   if (0 : Int) ≤ v19 ∧ v19 < v18.length then
    (F17_i1_l21 K v18 c24 k21) (IntKind.i64.wrap (v19 + 1)) (mput q_i64 (v18.getD v19.toNat Z7).Id (v18.getD v19.toNat Z7) v20)
   else none
  else
   c24 v20
def F17_i1_l7 (K : Nat) (a0 : (List Z11)) (c12 : Bool → (List (Str × Ze)) → (List (Zs × Zm)) → Option (Zb × Int)) : Nat → Int → Bool → (List (Str × Ze)) → (List (Zs × Zm)) → Option (Zb × Int)
 | 0, _, _, _, _ => none
 | k7 + 1, v3, v4, v5, v6 =>
  if (decide (v3 < (a0.length : Int))) = true then
   if (0 : Int) ≤ v3 ∧ v3 < a0.length then
    (F47 K (a0.getD v3.toNat Zp).Spans).bind fun v18 =>
     F17_i1_l21 K v18 (F17_i1_c23 K v18 a0 v3 (F17_i1_l7 K a0 c12 k7) v4 v5 v6) K 0 ([] : List (Int × Zo))
   else none
  else
   c12 v4 v5 v6
noncomputable def F17_i1 (K : Nat) (a0 : (List Z11)) : Option (Zb × Int) :=
 (F46 K).bind fun v2 =>
  F17_i1_l7 K a0 (F17_i1_c11 K) K 0 false ([] : List (Str × Ze)) ([] : List (Zs × Zm))
noncomputable def F18_c11 (K : Nat) (v8 : Bool) (v9 : (List (Str × Ze))) (v10 : (List (Zs × Zm))) : Option (Zb × Int) :=
 (F52 K v8 v9 v10).bind fun v14 =>
  some (v14.2, v14.1)
def F18_c32 (K : Nat) (b15 : Int → Bool → (List (Str × Ze)) → (List (Zs × Zm)) → Option (Zb × Int)) (v3 : Int) (v23 : (List (Str × Ze))) (v30 : Bool) (v31 : (List (Zs × Zm))) : Option (Zb × Int) :=
 b15 (IntKind.i64.wrap (v3 + 1)) v30 v23 v31
def F18_l29 (K : Nat) (a0 : Zb) (a1 : Zb) (v3 : Int) (v23 : (List (Str × Ze))) (c33 : Bool → (List (Zs × Zm)) → Option (Zb × Int)) : Nat → Int → Bool → (List (Zs × Zm)) → Option (Zb × Int)
 | 0, _, _, _ => none
 | k29 + 1, v26, v27, v28 =>
  if (decide (v26 < (([a0, a1].getD v3.toNat z_Ttopology_Map).Calls.length : Int))) = true then
   if (0 : Int) ≤ v26 ∧ v26 < ([a0, a1].getD v3.toNat z_Ttopology_Map).Calls.length then
    (F50 K (([a0, a1].getD v3.toNat z_Ttopology_Map).Calls.getD v26.toNat Z5) v27 v23 v28).bind fun v37 =>
     (F18_l29 K a0 a1 v3 v23 c33 k29) (IntKind.i64.wrap (v26 + 1)) v37.1 v37.2
   else none
  else
   c33 v27 v28
def F18_c24 (K : Nat) (a0 : Zb) (a1 : Zb) (v3 : Int) (b15 : Int → Bool → (List (Str × Ze)) → (List (Zs × Zm)) → Option (Zb × Int)) (v6 : (List (Zs × Zm))) (v22 : Bool) (v23 : (List (Str × Ze))) : Option (Zb × Int) :=
 F18_l29 K a0 a1 v3 v23 (F18_c32 K b15 v3 v23) K 0 v22 v6
def F18_l21 (K : Nat) (a0 : Zb) (a1 : Zb) (v3 : Int) (v6 : (List (Zs × Zm))) (c25 : Bool → (List (Str × Ze)) → Option (Zb × Int)) : Nat → Int → Bool → (List (Str × Ze)) → Option (Zb × Int)
 | 0, _, _, _ => none
 | k21 + 1, v18, v19, v20 =>
  if (decide (v18 < (([a0, a1].getD v3.toNat z_Ttopology_Map).Services.length : Int))) = true then
   if (0 : Int) ≤ v18 ∧ v18 < ([a0, a1].getD v3.toNat z_Ttopology_Map).Services.length then
    (F48 K (([a0, a1].getD v3.toNat z_Ttopology_Map).Services.getD v18.toNat Z6) v19 v20 v6).bind fun v41 =>
     (F18_l21 K a0 a1 v3 v6 c25 k21) (IntKind.i64.wrap (v18 + 1)) v41.1 v41.2
   else none
  else
   c25 v19 v20
def F18_l7 (K : Nat) (a0 : Zb) (a1 : Zb) (c12 : Bool → (List (Str × Ze)) → (List (Zs × Zm)) → Option (Zb × Int)) : Nat → Int → Bool → (List (Str × Ze)) → (List (Zs × Zm)) → Option (Zb × Int)
 | 0, _, _, _, _ => none
 | k7 + 1, v3, v4, v5, v6 =>
  if (decide (v3 < ([a0, a1].length : Int))) = true then
   if (0 : Int) ≤ v3 ∧ v3 < ([a0, a1].length : Nat) then
    if v3.toNat < [a0, a1].length then
     F18_l21 K a0 a1 v3 v6 (F18_c24 K a0 a1 v3 (F18_l7 K a0 a1 c12 k7) v6) K 0 v4 v5
    else none
   else none
  else
   c12 v4 v5 v6
noncomputable def F18 (K : Nat) (a0 : Zb) (a1 : Zb) : Option (Zb × Int) :=
 (F46 K).bind fun v2 =>
  F18_l7 K a0 a1 (F18_c11 K) K 0 false ([] : List (Str × Ze)) ([] : List (Zs × Zm))
def F20_c5 (K : Nat) (v4 : Zb) : Option (Zb) :=
 some v4
def F20_c16 (K : Nat) (b7 : Int → Zb → Option (Zb)) (v1 : Int) (v15 : Zb) : Option (Zb) :=
 b7 (IntKind.i64.wrap (v1 + 1)) v15
def F20_c34 (K : Nat) (b18 : Int → Zb → Option (Zb)) (v12 : Int) (v33 : Zb) : Option (Zb) :=
 b18 (IntKind.i64.wrap (v12 + 1)) v33
def F20_j38 (K : Nat) (b36 : Int → Zb → Option (Zb)) (v30 : Int) (v37 : Zb) : Option (Zb) :=
 b36 (IntKind.i64.wrap (v30 + 1)) v37
def F20_j52 (K : Nat) (v31 : Zb) (b36 : Int → Zb → Option (Zb)) (v30 : Int) (v51 : Zm) : Option (Zb) :=
 (F55 K v31 v51).bind fun v54 =>
  F20_j38 K b36 v30 v54
def F20_l32 (K : Nat) (v10 : (List Zo)) (v12 : Int) (a0 : (List Z11)) (v1 : Int) (c35 : Zb → Option (Zb)) : Nat → Int → Zb → Option (Zb)
 | 0, _, _ => none
 | k32 + 1, v30, v31 =>
  if (decide (v30 < (v10.length : Int))) = true then
   if (0 : Int) ≤ v30 ∧ v30 < v10.length then
    if (0 : Int) ≤ v12 ∧ v12 < v10.length then
     if ((v10.getD v30.toNat Z7).Id != (v10.getD v12.toNat Z7).Parent) = true then
      F20_j38 K (F20_l32 K v10 v12 a0 v1 c35 k32) v30 v31
     else
      if (0 : Int) ≤ v30 ∧ v30 < v10.length then
       if (0 : Int) ≤ v12 ∧ v12 < v10.length then
        if ((v10.getD v30.toNat Z7).Service == (v10.getD v12.toNat Z7).Service) = true then
         F20_j38 K (F20_l32 K v10 v12 a0 v1 c35 k32) v30 v31
        else
         if (0 : Int) ≤ v30 ∧ v30 < v10.length then
          if (0 : Int) ≤ v12 ∧ v12 < v10.length then
           (F54 K v31 (v10.getD v30.toNat Z7).Service (v10.getD v12.toNat Z7).Service).bind fun v46 =>
            if (0 : Int) ≤ v12 ∧ v12 < v10.length then
             (F51 K (v10.getD v12.toNat Z7)).bind fun v49 =>
              if (0 : Int) ≤ v12 ∧ v12 < v10.length then
               if (v10.getD v12.toNat Z7).Error = true then
                F20_j52 K v31 (F20_l32 K v10 v12 a0 v1 c35 k32) v30 (⟨v46.Caller, v46.Callee, (IntKind.i64.wrap (v46.Count + (a0.getD v1.toNat Zp).Weight)), (IntKind.i64.wrap (v46.Errors + (a0.getD v1.toNat Zp).Weight)), (IntKind.i64.wrap (v46.Time + (IntKind.i64.wrap ((a0.getD v1.toNat Zp).Weight * v49))))⟩ : Zm)
               else
                F20_j52 K v31 (F20_l32 K v10 v12 a0 v1 c35 k32) v30 (⟨v46.Caller, v46.Callee, (IntKind.i64.wrap (v46.Count + (a0.getD v1.toNat Zp).Weight)), v46.Errors, (IntKind.i64.wrap (v46.Time + (IntKind.i64.wrap ((a0.getD v1.toNat Zp).Weight * v49))))⟩ : Zm)
              else none
            else none
          else none
         else none
       else none
      else none
    else none
   else none
  else
   c35 v31
def F20_j27 (K : Nat) (v13 : Zb) (v10 : (List Zo)) (v12 : Int) (a0 : (List Z11)) (v1 : Int) (b18 : Int → Zb → Option (Zb)) (v26 : Ze) : Option (Zb) :=
 (F53 K v13 v26).bind fun v29 =>
  F20_l32 K v10 v12 a0 v1 (F20_c34 K b18 v12) K 0 v29
def F20_j24 (K : Nat) (v12 : Int) (v10 : (List Zo)) (v13 : Zb) (a0 : (List Z11)) (v1 : Int) (b18 : Int → Zb → Option (Zb)) (v23 : Ze) : Option (Zb) :=
 if (0 : Int) ≤ v12 ∧ v12 < v10.length then
  if ((v10.getD v12.toNat Z7).Parent == 0) = true then
   F20_j27 K v13 v10 v12 a0 v1 b18 (⟨v23.Name, v23.Spans, v23.Errors, (IntKind.i64.wrap (v23.Roots + (a0.getD v1.toNat Zp).Weight))⟩ : Ze)
  else
   F20_j27 K v13 v10 v12 a0 v1 b18 v23
 else none
def F20_l14 (K : Nat) (v10 : (List Zo)) (a0 : (List Z11)) (v1 : Int) (c17 : Zb → Option (Zb)) : Nat → Int → Zb → Option (Zb)
 | 0, _, _ => none
 | k14 + 1, v12, v13 =>
  if (decide (v12 < (v10.length : Int))) = true then
   if (0 : Int) ≤ v12 ∧ v12 < v10.length then
    (F31 K v13 (v10.getD v12.toNat Z7).Service).bind fun v21 =>
     if (0 : Int) ≤ v12 ∧ v12 < v10.length then
      if (v10.getD v12.toNat Z7).Error = true then
       F20_j24 K v12 v10 v13 a0 v1 (F20_l14 K v10 a0 v1 c17 k14) (⟨v21.Name, (IntKind.i64.wrap (v21.Spans + (a0.getD v1.toNat Zp).Weight)), (IntKind.i64.wrap (v21.Errors + (a0.getD v1.toNat Zp).Weight)), v21.Roots⟩ : Ze)
      else
       F20_j24 K v12 v10 v13 a0 v1 (F20_l14 K v10 a0 v1 c17 k14) (⟨v21.Name, (IntKind.i64.wrap (v21.Spans + (a0.getD v1.toNat Zp).Weight)), v21.Errors, v21.Roots⟩ : Ze)
     else none
   else none
  else
   c17 v13
def F20_l3 (K : Nat) (a0 : (List Z11)) (c6 : Zb → Option (Zb)) : Nat → Int → Zb → Option (Zb)
 | 0, _, _ => none
 | k3 + 1, v1, v2 =>
  if (decide (v1 < (a0.length : Int))) = true then
   if (0 : Int) ≤ v1 ∧ v1 < a0.length then
    (F47 K (a0.getD v1.toNat Zp).Spans).bind fun v10 =>
     if (0 : Int) ≤ v1 ∧ v1 < a0.length then
      F20_l14 K v10 a0 v1 (F20_c16 K (F20_l3 K a0 c6 k3) v1) K 0 v2
     else none
   else none
  else
   c6 v2
def F20 (K : Nat) (a0 : (List Z11)) : Option (Zb) :=
 F20_l3 K a0 (F20_c5 K) K 0 z_Ttopology_Map
end Go.AM.TopZ
