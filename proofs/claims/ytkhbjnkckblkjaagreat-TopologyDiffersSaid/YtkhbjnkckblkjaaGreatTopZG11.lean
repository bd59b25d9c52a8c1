/- What these functions compute, each with its walk: F20_i1, F4. -/
import Derived.Test.YtkhbjnkckblkjaaGreatTopZT
import Derived.Test.YtkhbjnkckblkjaaGreatTopZG0
import Derived.Test.YtkhbjnkckblkjaaGreatTopZG1
import Derived.Test.YtkhbjnkckblkjaaGreatTopZG5
import Derived.Test.YtkhbjnkckblkjaaGreatTopZG6
namespace Go.AM.TopZ
open Go Go.AM Go.Proofs
set_option maxRecDepth 100000
set_option maxHeartbeats 2000000
def F20_i1_c6 (K : Nat) (v5 : Zc) : Option (Zc) :=
 some v5
def F20_i1_c19 (K : Nat) (b8 : Int → Zc → Option (Zc)) (v2 : Int) (v18 : Zc) : Option (Zc) :=
 b8 (IntKind.i64.wrap (v2 + 1)) v18
def F20_i1_c37 (K : Nat) (b21 : Int → Zc → Option (Zc)) (v15 : Int) (v36 : Zc) : Option (Zc) :=
 b21 (IntKind.i64.wrap (v15 + 1)) v36
def Z7z (K : Nat) (b39 : Int → Zc → Option (Zc)) (v33 : Int) (v40 : Zc) : Option (Zc) :=
 b39 (IntKind.i64.wrap (v33 + 1)) v40
def Zbl (K : Nat) (v34 : Zc) (b39 : Int → Zc → Option (Zc)) (v33 : Int) (v54 : Zk) : Option (Zc) :=
 (F55 K v34 v54).bind fun v57 =>
  Z7z K b39 v33 v57
def Z4r (K : Nat) (v12 : (List Zm)) (v15 : Int) (a0 : (List Zv)) (v2 : Int) (c38 : Zc → Option (Zc)) : Nat → Int → Zc → Option (Zc)
 | 0, _, _ => none
 | k35 + 1, v33, v34 =>
  if (decide (v33 < (v12.length : Int))) = true then
   if (0 : Int) ≤ v33 ∧ v33 < v12.length then
    if (0 : Int) ≤ v15 ∧ v15 < v12.length then
     if ((v12.getD v33.toNat Z8).Id != (v12.getD v15.toNat Z8).Parent) = true then
      Z7z K (Z4r K v12 v15 a0 v2 c38 k35) v33 v34
     else
      if (0 : Int) ≤ v33 ∧ v33 < v12.length then
       if (0 : Int) ≤ v15 ∧ v15 < v12.length then
        if ((v12.getD v33.toNat Z8).Service == (v12.getD v15.toNat Z8).Service) = true then
         Z7z K (Z4r K v12 v15 a0 v2 c38 k35) v33 v34
        else
         if (0 : Int) ≤ v33 ∧ v33 < v12.length then
          if (0 : Int) ≤ v15 ∧ v15 < v12.length then
           (F54 K v34 (v12.getD v33.toNat Z8).Service (v12.getD v15.toNat Z8).Service).bind fun v49 =>
            if (0 : Int) ≤ v15 ∧ v15 < v12.length then
             (F51 K (v12.getD v15.toNat Z8)).bind fun v52 =>
              if (0 : Int) ≤ v15 ∧ v15 < v12.length then
               if (v12.getD v15.toNat Z8).Error = true then
                Zbl K v34 (Z4r K v12 v15 a0 v2 c38 k35) v33 (⟨v49.Caller, v49.Callee, (IntKind.i64.wrap (v49.Count + (a0.getD v2.toNat Zn).Weight)), (IntKind.i64.wrap (v49.Errors + (a0.getD v2.toNat Zn).Weight)), (IntKind.i64.wrap (v49.Time + (IntKind.i64.wrap ((a0.getD v2.toNat Zn).Weight * v52))))⟩ : Zk)
               else
                Zbl K v34 (Z4r K v12 v15 a0 v2 c38 k35) v33 (⟨v49.Caller, v49.Callee, (IntKind.i64.wrap (v49.Count + (a0.getD v2.toNat Zn).Weight)), v49.Errors, (IntKind.i64.wrap (v49.Time + (IntKind.i64.wrap ((a0.getD v2.toNat Zn).Weight * v52))))⟩ : Zk)
              else none
            else none
          else none
         else none
       else none
      else none
    else none
   else none
  else
   c38 v34
def Zb8 (K : Nat) (v16 : Zc) (v12 : (List Zm)) (v15 : Int) (a0 : (List Zv)) (v2 : Int) (b21 : Int → Zc → Option (Zc)) (v29 : Zg) : Option (Zc) :=
 (F53 K v16 v29).bind fun v32 =>
  Z4r K v12 v15 a0 v2 (F20_i1_c37 K b21 v15) K 0 v32
def Zbo (K : Nat) (v15 : Int) (v12 : (List Zm)) (v16 : Zc) (a0 : (List Zv)) (v2 : Int) (b21 : Int → Zc → Option (Zc)) (v26 : Zg) : Option (Zc) :=
 if (0 : Int) ≤ v15 ∧ v15 < v12.length then
  if ((v12.getD v15.toNat Z8).Parent == 0) = true then
   Zb8 K v16 v12 v15 a0 v2 b21 (⟨v26.Name, v26.Spans, v26.Errors, (IntKind.i64.wrap (v26.Roots + (a0.getD v2.toNat Zn).Weight))⟩ : Zg)
  else
   Zb8 K v16 v12 v15 a0 v2 b21 v26
 else none
def Z7u (K : Nat) (v12 : (List Zm)) (a0 : (List Zv)) (v2 : Int) (c20 : Zc → Option (Zc)) : Nat → Int → Zc → Option (Zc)
 | 0, _, _ => none
 | k17 + 1, v15, v16 =>
  if (decide (v15 < (v12.length : Int))) = true then
   if (0 : Int) ≤ v15 ∧ v15 < v12.length then
    (F31 K v16 (v12.getD v15.toNat Z8).Service).bind fun v24 =>
     if (0 : Int) ≤ v15 ∧ v15 < v12.length then
      if (v12.getD v15.toNat Z8).Error = true then
       Zbo K v15 v12 v16 a0 v2 (Z7u K v12 a0 v2 c20 k17) (⟨v24.Name, (IntKind.i64.wrap (v24.Spans + (a0.getD v2.toNat Zn).Weight)), (IntKind.i64.wrap (v24.Errors + (a0.getD v2.toNat Zn).Weight)), v24.Roots⟩ : Zg)
      else
       Zbo K v15 v12 v16 a0 v2 (Z7u K v12 a0 v2 c20 k17) (⟨v24.Name, (IntKind.i64.wrap (v24.Spans + (a0.getD v2.toNat Zn).Weight)), v24.Errors, v24.Roots⟩ : Zg)
     else none
   else none
  else
   c20 v16
def F20_i1_l4 (K : Nat) (a0 : (List Zv)) (c7 : Zc → Option (Zc)) : Nat → Int → Zc → Option (Zc)
 | 0, _, _ => none
 | k4 + 1, v2, v3 =>
  if (decide (v2 < (a0.length : Int))) = true then
   if (0 : Int) ≤ v2 ∧ v2 < (a0.length : Nat) then
    if v2.toNat < a0.length then
     (F47 K (a0.getD v2.toNat Zn).Spans).bind fun v12 =>
      if (0 : Int) ≤ v2 ∧ v2 < (a0.length : Nat) then
       if v2.toNat < a0.length then
        Z7u K v12 a0 v2 (F20_i1_c19 K (F20_i1_l4 K a0 c7 k4) v2) K 0 v3
       else none
      else none
    else none
   else none
  else
   c7 v3
def F20_i1 (K : Nat) (a0 : (List Zv)) : Option (Zc) :=
 F20_i1_l4 K a0 (F20_i1_c6 K) K 0 Z1t
noncomputable def F4_c19 (K : Nat) (v12 : Int × Zc) (v18 : (List Zv)) : Option (Bool) :=
 (F17 K v18).bind fun v22 =>
  (F19 K v12.2 v22.2).bind fun v24 =>
   if v24 = true then
    some (v22.1 == 0)
   else
    some false
def F4_c32 (K : Nat) (v15 : Int) (v16 : (List Zv)) (b25 : Int → (List Zv) → Option (Bool)) (v31 : (List Zm)) : Option (Bool) :=
 if (0 : Int) ≤ v15 ∧ v15 < (v16.length : Nat) then
  if v15.toNat < v16.length then
   b25 (IntKind.i64.wrap (v15 + 1)) (v16.set v15.toNat (⟨(v16.getD v15.toNat Zn).Id, (v16.getD v15.toNat Zn).Weight, v31⟩ : Zv))
  else none
 else none
def F4_l30 (K : Nat) (v15 : Int) (v16 : (List Zv)) (c33 : (List Zm) → Option (Bool)) : Nat → Int → (List Zm) → Option (Bool)
 | 0, _, _ => none
 | k30 + 1, v28, v29 =>
  if (decide (v28 ≥ 0)) = true then
   if (0 : Int) ≤ v15 ∧ v15 < (v16.length : Nat) then
    if v15.toNat < v16.length then
     if (0 : Int) ≤ v28 ∧ v28 < (v16.getD v15.toNat Zn).Spans.length then
      if (0 : Int) ≤ v15 ∧ v15 < (v16.length : Nat) then
       if v15.toNat < v16.length then
        if (0 : Int) ≤ v28 ∧ v28 < (v16.getD v15.toNat Zn).Spans.length then
         if v29.length + ([(⟨((v16.getD v15.toNat Zn).Spans.getD v28.toNat Z8).Trace, ((v16.getD v15.toNat Zn).Spans.getD v28.toNat Z8).Id, ((v16.getD v15.toNat Zn).Spans.getD v28.toNat Z8).Parent, ((v16.getD v15.toNat Zn).Spans.getD v28.toNat Z8).Revision, ((v16.getD v15.toNat Zn).Spans.getD v28.toNat Z8).Clock, ((v16.getD v15.toNat Zn).Spans.getD v28.toNat Z8).Kind, [111, 108, 100], ((v16.getD v15.toNat Zn).Spans.getD v28.toNat Z8).Version, ((v16.getD v15.toNat Zn).Spans.getD v28.toNat Z8).Operation, ((v16.getD v15.toNat Zn).Spans.getD v28.toNat Z8).Start, ((v16.getD v15.toNat Zn).Spans.getD v28.toNat Z8).End, true, ((v16.getD v15.toNat Zn).Spans.getD v28.toNat Z8).Attrs, ((v16.getD v15.toNat Zn).Spans.getD v28.toNat Z8).Links⟩ : Zm), (⟨((v16.getD v15.toNat Zn).Spans.getD v28.toNat Z8).Trace, ((v16.getD v15.toNat Zn).Spans.getD v28.toNat Z8).Id, ((v16.getD v15.toNat Zn).Spans.getD v28.toNat Z8).Parent, 2, ((v16.getD v15.toNat Zn).Spans.getD v28.toNat Z8).Clock, ((v16.getD v15.toNat Zn).Spans.getD v28.toNat Z8).Kind, ((v16.getD v15.toNat Zn).Spans.getD v28.toNat Z8).Service, ((v16.getD v15.toNat Zn).Spans.getD v28.toNat Z8).Version, ((v16.getD v15.toNat Zn).Spans.getD v28.toNat Z8).Operation, ((v16.getD v15.toNat Zn).Spans.getD v28.toNat Z8).Start, ((v16.getD v15.toNat Zn).Spans.getD v28.toNat Z8).End, ((v16.getD v15.toNat Zn).Spans.getD v28.toNat Z8).Error, ((v16.getD v15.toNat Zn).Spans.getD v28.toNat Z8).Attrs, ((v16.getD v15.toNat Zn).Spans.getD v28.toNat Z8).Links⟩ : Zm)]).length ≤ 1073741824 then
          (F4_l30 K v15 v16 c33 k30) (IntKind.i64.wrap (v28 - 1)) (v29 ++ ([(⟨((v16.getD v15.toNat Zn).Spans.getD v28.toNat Z8).Trace, ((v16.getD v15.toNat Zn).Spans.getD v28.toNat Z8).Id, ((v16.getD v15.toNat Zn).Spans.getD v28.toNat Z8).Parent, ((v16.getD v15.toNat Zn).Spans.getD v28.toNat Z8).Revision, ((v16.getD v15.toNat Zn).Spans.getD v28.toNat Z8).Clock, ((v16.getD v15.toNat Zn).Spans.getD v28.toNat Z8).Kind, [111, 108, 100], ((v16.getD v15.toNat Zn).Spans.getD v28.toNat Z8).Version, ((v16.getD v15.toNat Zn).Spans.getD v28.toNat Z8).Operation, ((v16.getD v15.toNat Zn).Spans.getD v28.toNat Z8).Start, ((v16.getD v15.toNat Zn).Spans.getD v28.toNat Z8).End, true, ((v16.getD v15.toNat Zn).Spans.getD v28.toNat Z8).Attrs, ((v16.getD v15.toNat Zn).Spans.getD v28.toNat Z8).Links⟩ : Zm), (⟨((v16.getD v15.toNat Zn).Spans.getD v28.toNat Z8).Trace, ((v16.getD v15.toNat Zn).Spans.getD v28.toNat Z8).Id, ((v16.getD v15.toNat Zn).Spans.getD v28.toNat Z8).Parent, 2, ((v16.getD v15.toNat Zn).Spans.getD v28.toNat Z8).Clock, ((v16.getD v15.toNat Zn).Spans.getD v28.toNat Z8).Kind, ((v16.getD v15.toNat Zn).Spans.getD v28.toNat Z8).Service, ((v16.getD v15.toNat Zn).Spans.getD v28.toNat Z8).Version, ((v16.getD v15.toNat Zn).Spans.getD v28.toNat Z8).Operation, ((v16.getD v15.toNat Zn).Spans.getD v28.toNat Z8).Start, ((v16.getD v15.toNat Zn).Spans.getD v28.toNat Z8).End, ((v16.getD v15.toNat Zn).Spans.getD v28.toNat Z8).Error, ((v16.getD v15.toNat Zn).Spans.getD v28.toNat Z8).Attrs, ((v16.getD v15.toNat Zn).Spans.getD v28.toNat Z8).Links⟩ : Zm)]))
         else none
        else none
       else none
      else none
     else none
    else none
   else none
  else
   c33 v29
def F4_l17 (K : Nat) (c20 : (List Zv) → Option (Bool)) : Nat → Int → (List Zv) → Option (Bool)
 | 0, _, _ => none
 | k17 + 1, v15, v16 =>
  if (decide (v15 < (v16.length : Int))) = true then
   if (0 : Int) ≤ v15 ∧ v15 < (v16.length : Nat) then
    if v15.toNat < v16.length then
     F4_l30 K v15 v16 (F4_c32 K v15 v16 (F4_l17 K c20 k17)) K (IntKind.i64.wrap (((v16.getD v15.toNat Zn).Spans.length : Int) - 1)) []
    else none
   else none
  else
   c20 v16
noncomputable def F4_j14 (K : Nat) (v12 : Int × Zc) (v10 : (List Zv)) (v13 : Bool) : Option (Bool) :=
 if v13 = true then
  some false
 else
  F4_l17 K (F4_c19 K v12) K 0 v10
noncomputable def F4 (K : Nat) (a0 : Z1x) (a1 : A3_Int) : Option (Bool) :=
 (F11 K).bind fun v2 =>
  if (!v2) = true then
   (F11 K).bind fun v4 =>
    some v4
  else
   (F12 K a0).bind fun v6 =>
    if (!v6) = true then
     (F11 K).bind fun v8 =>
      some v8
    else
     (F13 K a0 a1).bind fun v10 =>
      (F17 K v10).bind fun v12 =>
       (F20_i1 K v10).bind fun v45 =>
        (F19 K v12.2 v45).bind fun v47 =>
         if (!v47) = true then
          F4_j14 K v12 v10 true
         else
          if (v12.1 != 0) = true then
           F4_j14 K v12 v10 true
          else
           (F21 K v12.2).bind fun v49 =>
            F4_j14 K v12 v10 (v49 != 0)
end Go.AM.TopZ
