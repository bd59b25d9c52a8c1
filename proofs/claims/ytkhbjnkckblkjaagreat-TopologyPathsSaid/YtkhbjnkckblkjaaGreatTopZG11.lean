/- What these functions compute, each with its walk: F20_i1, F4. -/
import Derived.Test.YtkhbjnkckblkjaaGreatTopZT
import Derived.Test.YtkhbjnkckblkjaaGreatTopZG0
import Derived.Test.YtkhbjnkckblkjaaGreatTopZG1
import Derived.Test.YtkhbjnkckblkjaaGreatTopZG5
import Derived.Test.YtkhbjnkckblkjaaGreatTopZG6
namespace Go.AM.TopZ
open Go Go.AM Go.Proofs
set_option maxRecDepth 100000
set_option maxHeartbeats 2000000
def F20_i1_c6 (K : Nat) (v5 : Zb) : Option (Zb) :=
 some v5
def F20_i1_c19 (K : Nat) (b8 : Int → Zb → Option (Zb)) (v2 : Int) (v18 : Zb) : Option (Zb) :=
 b8 (IntKind.i64.wrap (v2 + 1)) v18
def F20_i1_c37 (K : Nat) (b21 : Int → Zb → Option (Zb)) (v15 : Int) (v36 : Zb) : Option (Zb) :=
 b21 (IntKind.i64.wrap (v15 + 1)) v36
def Z8k (K : Nat) (b39 : Int → Zb → Option (Zb)) (v33 : Int) (v40 : Zb) : Option (Zb) :=
 b39 (IntKind.i64.wrap (v33 + 1)) v40
def Zcl (K : Nat) (v34 : Zb) (b39 : Int → Zb → Option (Zb)) (v33 : Int) (v54 : Zl) : Option (Zb) :=
 (F55 K v34 v54).bind fun v57 =>
  Z8k K b39 v33 v57
def Z56 (K : Nat) (v12 : (List Zn)) (v15 : Int) (a0 : (List Zz)) (v2 : Int) (c38 : Zb → Option (Zb)) : Nat → Int → Zb → Option (Zb)
 | 0, _, _ => none
 | k35 + 1, v33, v34 =>
  if (decide (v33 < (v12.length : Int))) = true then
   if (0 : Int) ≤ v33 ∧ v33 < v12.length then
    if (0 : Int) ≤ v15 ∧ v15 < v12.length then
     if ((v12.getD v33.toNat Z6).Id != (v12.getD v15.toNat Z6).Parent) = true then
      Z8k K (Z56 K v12 v15 a0 v2 c38 k35) v33 v34
     else
      if (0 : Int) ≤ v33 ∧ v33 < v12.length then
       if (0 : Int) ≤ v15 ∧ v15 < v12.length then
        if ((v12.getD v33.toNat Z6).Service == (v12.getD v15.toNat Z6).Service) = true then
         Z8k K (Z56 K v12 v15 a0 v2 c38 k35) v33 v34
        else
         if (0 : Int) ≤ v33 ∧ v33 < v12.length then
          if (0 : Int) ≤ v15 ∧ v15 < v12.length then
           (F54 K v34 (v12.getD v33.toNat Z6).Service (v12.getD v15.toNat Z6).Service).bind fun v49 =>
            if (0 : Int) ≤ v15 ∧ v15 < v12.length then
             (F51 K (v12.getD v15.toNat Z6)).bind fun v52 =>
              if (0 : Int) ≤ v15 ∧ v15 < v12.length then
               if (v12.getD v15.toNat Z6).Error = true then
                Zcl K v34 (Z56 K v12 v15 a0 v2 c38 k35) v33 (⟨v49.Caller, v49.Callee, (IntKind.i64.wrap (v49.Count + (a0.getD v2.toNat Zo).Weight)), (IntKind.i64.wrap (v49.Errors + (a0.getD v2.toNat Zo).Weight)), (IntKind.i64.wrap (v49.Time + (IntKind.i64.wrap ((a0.getD v2.toNat Zo).Weight * v52))))⟩ : Zl)
               else
                Zcl K v34 (Z56 K v12 v15 a0 v2 c38 k35) v33 (⟨v49.Caller, v49.Callee, (IntKind.i64.wrap (v49.Count + (a0.getD v2.toNat Zo).Weight)), v49.Errors, (IntKind.i64.wrap (v49.Time + (IntKind.i64.wrap ((a0.getD v2.toNat Zo).Weight * v52))))⟩ : Zl)
              else none
            else none
          else none
         else none
       else none
      else none
    else none
   else none
  else
   c38 v34
def Zce (K : Nat) (v16 : Zb) (v12 : (List Zn)) (v15 : Int) (a0 : (List Zz)) (v2 : Int) (b21 : Int → Zb → Option (Zb)) (v29 : Zd) : Option (Zb) :=
 (F53 K v16 v29).bind fun v32 =>
  Z56 K v12 v15 a0 v2 (F20_i1_c37 K b21 v15) K 0 v32
def Zcm (K : Nat) (v15 : Int) (v12 : (List Zn)) (v16 : Zb) (a0 : (List Zz)) (v2 : Int) (b21 : Int → Zb → Option (Zb)) (v26 : Zd) : Option (Zb) :=
 if (0 : Int) ≤ v15 ∧ v15 < v12.length then
  if ((v12.getD v15.toNat Z6).Parent == 0) = true then
   Zce K v16 v12 v15 a0 v2 b21 (⟨v26.Name, v26.Spans, v26.Errors, (IntKind.i64.wrap (v26.Roots + (a0.getD v2.toNat Zo).Weight))⟩ : Zd)
  else
   Zce K v16 v12 v15 a0 v2 b21 v26
 else none
def Z8o (K : Nat) (v12 : (List Zn)) (a0 : (List Zz)) (v2 : Int) (c20 : Zb → Option (Zb)) : Nat → Int → Zb → Option (Zb)
 | 0, _, _ => none
 | k17 + 1, v15, v16 =>
  if (decide (v15 < (v12.length : Int))) = true then
   if (0 : Int) ≤ v15 ∧ v15 < v12.length then
    (F31 K v16 (v12.getD v15.toNat Z6).Service).bind fun v24 =>
     if (0 : Int) ≤ v15 ∧ v15 < v12.length then
      if (v12.getD v15.toNat Z6).Error = true then
       Zcm K v15 v12 v16 a0 v2 (Z8o K v12 a0 v2 c20 k17) (⟨v24.Name, (IntKind.i64.wrap (v24.Spans + (a0.getD v2.toNat Zo).Weight)), (IntKind.i64.wrap (v24.Errors + (a0.getD v2.toNat Zo).Weight)), v24.Roots⟩ : Zd)
      else
       Zcm K v15 v12 v16 a0 v2 (Z8o K v12 a0 v2 c20 k17) (⟨v24.Name, (IntKind.i64.wrap (v24.Spans + (a0.getD v2.toNat Zo).Weight)), v24.Errors, v24.Roots⟩ : Zd)
     else none
   else none
  else
   c20 v16
def F20_i1_l4 (K : Nat) (a0 : (List Zz)) (c7 : Zb → Option (Zb)) : Nat → Int → Zb → Option (Zb)
 | 0, _, _ => none
 | k4 + 1, v2, v3 =>
  if (decide (v2 < (a0.length : Int))) = true then
   if (0 : Int) ≤ v2 ∧ v2 < (a0.length : Nat) then
    if v2.toNat < a0.length then
     (F47 K (a0.getD v2.toNat Zo).Spans).bind fun v12 =>
      if (0 : Int) ≤ v2 ∧ v2 < (a0.length : Nat) then
       if v2.toNat < a0.length then
        Z8o K v12 a0 v2 (F20_i1_c19 K (F20_i1_l4 K a0 c7 k4) v2) K 0 v3
       else none
      else none
    else none
   else none
  else
   c7 v3
def F20_i1 (K : Nat) (a0 : (List Zz)) : Option (Zb) :=
 F20_i1_l4 K a0 (F20_i1_c6 K) K 0 Z1z
noncomputable def F4_c19 (K : Nat) (v12 : Int × Zb) (v18 : (List Zz)) : Option (Bool) :=
 (F17 K v18).bind fun v22 =>
  (F19 K v12.2 v22.2).bind fun v24 =>
   if v24 = true then
    some (v22.1 == 0)
   else
    some false
def F4_c32 (K : Nat) (v15 : Int) (v16 : (List Zz)) (b25 : Int → (List Zz) → Option (Bool)) (v31 : (List Zn)) : Option (Bool) :=
 if (0 : Int) ≤ v15 ∧ v15 < (v16.length : Nat) then
  if v15.toNat < v16.length then
   b25 (IntKind.i64.wrap (v15 + 1)) (v16.set v15.toNat (⟨(v16.getD v15.toNat Zo).Id, (v16.getD v15.toNat Zo).Weight, v31⟩ : Zz))
  else none
 else none
def F4_l30 (K : Nat) (v15 : Int) (v16 : (List Zz)) (c33 : (List Zn) → Option (Bool)) : Nat → Int → (List Zn) → Option (Bool)
 | 0, _, _ => none
 | k30 + 1, v28, v29 =>
  if (decide (v28 ≥ 0)) = true then
   if (0 : Int) ≤ v15 ∧ v15 < (v16.length : Nat) then
    if v15.toNat < v16.length then
     if (0 : Int) ≤ v28 ∧ v28 < (v16.getD v15.toNat Zo).Spans.length then
      if (0 : Int) ≤ v15 ∧ v15 < (v16.length : Nat) then
       if v15.toNat < v16.length then
        if (0 : Int) ≤ v28 ∧ v28 < (v16.getD v15.toNat Zo).Spans.length then
         if v29.length + ([(⟨((v16.getD v15.toNat Zo).Spans.getD v28.toNat Z6).Trace, ((v16.getD v15.toNat Zo).Spans.getD v28.toNat Z6).Id, ((v16.getD v15.toNat Zo).Spans.getD v28.toNat Z6).Parent, ((v16.getD v15.toNat Zo).Spans.getD v28.toNat Z6).Revision, ((v16.getD v15.toNat Zo).Spans.getD v28.toNat Z6).Clock, ((v16.getD v15.toNat Zo).Spans.getD v28.toNat Z6).Kind, [111, 108, 100], ((v16.getD v15.toNat Zo).Spans.getD v28.toNat Z6).Version, ((v16.getD v15.toNat Zo).Spans.getD v28.toNat Z6).Operation, ((v16.getD v15.toNat Zo).Spans.getD v28.toNat Z6).Start, ((v16.getD v15.toNat Zo).Spans.getD v28.toNat Z6).End, true, ((v16.getD v15.toNat Zo).Spans.getD v28.toNat Z6).Attrs, ((v16.getD v15.toNat Zo).Spans.getD v28.toNat Z6).Links⟩ : Zn), (⟨((v16.getD v15.toNat Zo).Spans.getD v28.toNat Z6).Trace, ((v16.getD v15.toNat Zo).Spans.getD v28.toNat Z6).Id, ((v16.getD v15.toNat Zo).Spans.getD v28.toNat Z6).Parent, 2, ((v16.getD v15.toNat Zo).Spans.getD v28.toNat Z6).Clock, ((v16.getD v15.toNat Zo).Spans.getD v28.toNat Z6).Kind, ((v16.getD v15.toNat Zo).Spans.getD v28.toNat Z6).Service, ((v16.getD v15.toNat Zo).Spans.getD v28.toNat Z6).Version, ((v16.getD v15.toNat Zo).Spans.getD v28.toNat Z6).Operation, ((v16.getD v15.toNat Zo).Spans.getD v28.toNat Z6).Start, ((v16.getD v15.toNat Zo).Spans.getD v28.toNat Z6).End, ((v16.getD v15.toNat Zo).Spans.getD v28.toNat Z6).Error, ((v16.getD v15.toNat Zo).Spans.getD v28.toNat Z6).Attrs, ((v16.getD v15.toNat Zo).Spans.getD v28.toNat Z6).Links⟩ : Zn)]).length ≤ 1073741824 then
          (F4_l30 K v15 v16 c33 k30) (IntKind.i64.wrap (v28 - 1)) (v29 ++ ([(⟨((v16.getD v15.toNat Zo).Spans.getD v28.toNat Z6).Trace, ((v16.getD v15.toNat Zo).Spans.getD v28.toNat Z6).Id, ((v16.getD v15.toNat Zo).Spans.getD v28.toNat Z6).Parent, ((v16.getD v15.toNat Zo).Spans.getD v28.toNat Z6).Revision, ((v16.getD v15.toNat Zo).Spans.getD v28.toNat Z6).Clock, ((v16.getD v15.toNat Zo).Spans.getD v28.toNat Z6).Kind, [111, 108, 100], ((v16.getD v15.toNat Zo).Spans.getD v28.toNat Z6).Version, ((v16.getD v15.toNat Zo).Spans.getD v28.toNat Z6).Operation, ((v16.getD v15.toNat Zo).Spans.getD v28.toNat Z6).Start, ((v16.getD v15.toNat Zo).Spans.getD v28.toNat Z6).End, true, ((v16.getD v15.toNat Zo).Spans.getD v28.toNat Z6).Attrs, ((v16.getD v15.toNat Zo).Spans.getD v28.toNat Z6).Links⟩ : Zn), (⟨((v16.getD v15.toNat Zo).Spans.getD v28.toNat Z6).Trace, ((v16.getD v15.toNat Zo).Spans.getD v28.toNat Z6).Id, ((v16.getD v15.toNat Zo).Spans.getD v28.toNat Z6).Parent, 2, ((v16.getD v15.toNat Zo).Spans.getD v28.toNat Z6).Clock, ((v16.getD v15.toNat Zo).Spans.getD v28.toNat Z6).Kind, ((v16.getD v15.toNat Zo).Spans.getD v28.toNat Z6).Service, ((v16.getD v15.toNat Zo).Spans.getD v28.toNat Z6).Version, ((v16.getD v15.toNat Zo).Spans.getD v28.toNat Z6).Operation, ((v16.getD v15.toNat Zo).Spans.getD v28.toNat Z6).Start, ((v16.getD v15.toNat Zo).Spans.getD v28.toNat Z6).End, ((v16.getD v15.toNat Zo).Spans.getD v28.toNat Z6).Error, ((v16.getD v15.toNat Zo).Spans.getD v28.toNat Z6).Attrs, ((v16.getD v15.toNat Zo).Spans.getD v28.toNat Z6).Links⟩ : Zn)]))
         else none
        else none
       else none
      else none
     else none
    else none
   else none
  else
   c33 v29
def F4_l17 (K : Nat) (c20 : (List Zz) → Option (Bool)) : Nat → Int → (List Zz) → Option (Bool)
 | 0, _, _ => none
 | k17 + 1, v15, v16 =>
  if (decide (v15 < (v16.length : Int))) = true then
   if (0 : Int) ≤ v15 ∧ v15 < (v16.length : Nat) then
    if v15.toNat < v16.length then
     F4_l30 K v15 v16 (F4_c32 K v15 v16 (F4_l17 K c20 k17)) K (IntKind.i64.wrap (((v16.getD v15.toNat Zo).Spans.length : Int) - 1)) []
    else none
   else none
  else
   c20 v16
noncomputable def F4_j14 (K : Nat) (v12 : Int × Zb) (v10 : (List Zz)) (v13 : Bool) : Option (Bool) :=
 if v13 = true then
  some false
 else
  F4_l17 K (F4_c19 K v12) K 0 v10
noncomputable def F4 (K : Nat) (a0 : Z23) (a1 : A3_Int) : Option (Bool) :=
 (F11 K).bind fun v2 =>
  if (!v2) = true then
   (F11 K).bind fun v4 =>
    some v4
  else
   (F12 K a0).bind fun v6 =>
    if (!v6) = true then
     (F11 K).bind fun v8 =>
      some v8
    else
     (F13 K a0 a1).bind fun v10 =>
      (F17 K v10).bind fun v12 =>
       (F20_i1 K v10).bind fun v45 =>
        (F19 K v12.2 v45).bind fun v47 =>
         if (!v47) = true then
          F4_j14 K v12 v10 true
         else
          if (v12.1 != 0) = true then
           F4_j14 K v12 v10 true
          else
           (F21 K v12.2).bind fun v49 =>
            F4_j14 K v12 v10 (v49 != 0)
end Go.AM.TopZ
