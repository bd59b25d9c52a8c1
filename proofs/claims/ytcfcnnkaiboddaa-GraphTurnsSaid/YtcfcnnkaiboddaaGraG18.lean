/- What these functions compute, each with its walk: F59, F38, F36, F37, F8. -/
import Derived.Test.YtcfcnnkaiboddaaGraT
import Derived.Test.YtcfcnnkaiboddaaGraG0
import Derived.Test.YtcfcnnkaiboddaaGraG1
import Derived.Test.YtcfcnnkaiboddaaGraG4
namespace Go.AM.Gra
open Go Go.AM Go.Proofs
set_option maxRecDepth 100000
set_option maxHeartbeats 2000000
def F59_c3 (K : Nat) : Option (Bool) :=
 some true
def F59_l2 (K : Nat) (a0 : (List Z7)) (a1 : (List Z7)) (c4 : Option (Bool)) : Nat → Int → Option (Bool)
 | 0, _ => none
 | k2 + 1, v1 =>
  if (decide (v1 < (a0.length : Int))) = true then
   if (0 : Int) ≤ v1 ∧ v1 < a0.length then
    if (0 : Int) ≤ v1 ∧ v1 < a1.length then
     if (!(((a0.getD v1.toNat Z2).From == (a1.getD v1.toNat Z2).From) && (((a0.getD v1.toNat Z2).To == (a1.getD v1.toNat Z2).To) && true))) = true then
      some false
     else
      (F59_l2 K a0 a1 c4 k2) (IntKind.i64.wrap (v1 + 1))
    else none
   else none
  else
   c4
def F59 (K : Nat) (a0 : (List Z7)) (a1 : (List Z7)) : Option (Bool) :=
 if ((a0.length : Int) != (a1.length : Int)) = true then
  some false
 else
  F59_l2 K a0 a1 (F59_c3 K) K 0
def F38 (K : Nat) (a0 : Za) (a1 : Za) : Option (Bool) :=
 if (a0.Count == a1.Count) = true then
  (F59 K a0.Edges a1.Edges).bind fun v2 =>
   some v2
 else
  some false
def F36 (K : Nat) (a0 : Za) : Option (Int) :=
 (F35 K a0.Count a0.Edges).bind fun v2 =>
  if (v2.2 != 0) = true then
   some v2.2
  else
   (F38 K v2.1 a0).bind fun v4 =>
    if (!v4) = true then
     some 8
    else
     some 0
def F37_c5 (K : Nat) (v4 : Za) : Option (Za) :=
 some v4
def F37_j9 (K : Nat) (b7 : Int → Za → Option (Za)) (v1 : Int) (v2 : Za) (v8 : (List Z7)) : Option (Za) :=
 b7 (IntKind.i64.wrap (v1 + 1)) (⟨v2.Count, v8⟩ : Za)
def F37_j23 (K : Nat) (b7 : Int → Za → Option (Za)) (v1 : Int) (v2 : Za) (v22 : (List Z7)) : Option (Za) :=
 F37_j9 K b7 v1 v2 v22
def F37_c14 (K : Nat) (v2 : Za) (a1 : (List Z7)) (v1 : Int) (b7 : Int → Za → Option (Za)) (v13 : Int) : Option (Za) :=
 if (v13 == (v2.Edges.length : Int)) = true then
  if (0 : Int) ≤ 0 ∧ 0 ≤ v13 ∧ v13 ≤ v2.Edges.length then
   if ([] : List Z7).length + (v2.Edges.take v13.toNat).length ≤ 1073741824 then
    if (v2.Edges.take v13.toNat).length + [(a1.getD v1.toNat Z2)].length ≤ 1073741824 then
     if (0 : Int) ≤ v13 ∧ v13 ≤ (v2.Edges.length : Int) ∧ (v2.Edges.length : Int) ≤ v2.Edges.length then
      if ((v2.Edges.take v13.toNat) ++ [(a1.getD v1.toNat Z2)]).length + (v2.Edges.drop v13.toNat).length ≤ 1073741824 then
       F37_j9 K b7 v1 v2 (((v2.Edges.take v13.toNat) ++ [(a1.getD v1.toNat Z2)]) ++ (v2.Edges.drop v13.toNat))
      else none
     else none
    else none
   else none
  else none
 else
  if (0 : Int) ≤ v13 ∧ v13 < v2.Edges.length then
   if (!(((v2.Edges.getD v13.toNat Z2).From == (a1.getD v1.toNat Z2).From) && (((v2.Edges.getD v13.toNat Z2).To == (a1.getD v1.toNat Z2).To) && true))) = true then
    if (0 : Int) ≤ 0 ∧ 0 ≤ v13 ∧ v13 ≤ v2.Edges.length then
     if ([] : List Z7).length + (v2.Edges.take v13.toNat).length ≤ 1073741824 then
      if (v2.Edges.take v13.toNat).length + [(a1.getD v1.toNat Z2)].length ≤ 1073741824 then
       if (0 : Int) ≤ v13 ∧ v13 ≤ (v2.Edges.length : Int) ∧ (v2.Edges.length : Int) ≤ v2.Edges.length then
        if ((v2.Edges.take v13.toNat) ++ [(a1.getD v1.toNat Z2)]).length + (v2.Edges.drop v13.toNat).length ≤ 1073741824 then
         F37_j23 K b7 v1 v2 (((v2.Edges.take v13.toNat) ++ [(a1.getD v1.toNat Z2)]) ++ (v2.Edges.drop v13.toNat))
        else none
       else none
      else none
     else none
    else none
   else
    F37_j23 K b7 v1 v2 v2.Edges
  else none
def F37_j31 (K : Nat) (b29 : Int → Option (Za)) (v11 : Int) (c15 : Int → Option (Za)) (v30 : Bool) : Option (Za) :=
 if v30 = true then
  b29 (IntKind.i64.wrap (v11 + 1))
 else
  c15 v11
def F37_l12 (K : Nat) (v2 : Za) (a1 : (List Z7)) (v1 : Int) (c15 : Int → Option (Za)) : Nat → Int → Option (Za)
 | 0, _ => none
 | k12 + 1, v11 =>
  if (decide (v11 < (v2.Edges.length : Int))) = true then
   if (0 : Int) ≤ v11 ∧ v11 < v2.Edges.length then
    if (decide ((v2.Edges.getD v11.toNat Z2).From < (a1.getD v1.toNat Z2).From)) = true then
     F37_j31 K (F37_l12 K v2 a1 v1 c15 k12) v11 c15 true
    else
     if (0 : Int) ≤ v11 ∧ v11 < v2.Edges.length then
      if ((v2.Edges.getD v11.toNat Z2).From == (a1.getD v1.toNat Z2).From) = true then
       if (0 : Int) ≤ v11 ∧ v11 < v2.Edges.length then
        F37_j31 K (F37_l12 K v2 a1 v1 c15 k12) v11 c15 (decide ((v2.Edges.getD v11.toNat Z2).To < (a1.getD v1.toNat Z2).To))
       else none
      else
       F37_j31 K (F37_l12 K v2 a1 v1 c15 k12) v11 c15 false
     else none
   else none
  else
   F37_j31 K (F37_l12 K v2 a1 v1 c15 k12) v11 c15 false
def F37_l3 (K : Nat) (a1 : (List Z7)) (c6 : Za → Option (Za)) : Nat → Int → Za → Option (Za)
 | 0, _, _ => none
 | k3 + 1, v1, v2 =>
  if (decide (v1 < (a1.length : Int))) = true then
   if (0 : Int) ≤ v1 ∧ v1 < a1.length then
    F37_l12 K v2 a1 v1 (F37_c14 K v2 a1 v1 (F37_l3 K a1 c6 k3)) K 0
   else none
  else
   c6 v2
def F37 (K : Nat) (a0 : Int) (a1 : (List Z7)) : Option (Za) :=
 F37_l3 K a1 (F37_c5 K) K 0 (⟨a0, []⟩ : Za)
def F8_j16 (K : Nat) (v15 : Bool) : Option (Bool) :=
 some v15
def F8_j26 (K : Nat) (v25 : Bool) : Option (Bool) :=
 some v25
def F8_j24 (K : Nat) (v8 : Za × Int) (v22 : Za) (a0 : Int) (a1 : (List Z7)) (v23 : Bool) : Option (Bool) :=
 if v23 = true then
  some false
 else
  if (v8.2 == 0) = true then
   (F27 K v8.1 v22).bind fun v28 =>
    if v28 = true then
     (F36 K v22).bind fun v30 =>
      if (v30 == 0) = true then
       (F38 K (⟨a0, a1⟩ : Za) v22).bind fun v32 =>
        (F27 K (⟨a0, a1⟩ : Za) v22).bind fun v34 =>
         if (v32 == v34) = true then
          (F38 K v22 v22).bind fun v36 =>
           F8_j26 K v36
         else
          F8_j26 K false
      else
       F8_j26 K false
    else
     F8_j26 K false
  else
   F8_j26 K false
def F8_c13 (K : Nat) (v8 : Za × Int) (a0 : Int) (a1 : (List Z7)) (v12 : Int) : Option (Bool) :=
 if (v12 != 0) = true then
  if (v8.2 == v12) = true then
   (F27 K v8.1 z_Tgraph_Graph).bind fun v18 =>
    if v18 = true then
     (F36 K (⟨a0, a1⟩ : Za)).bind fun v20 =>
      F8_j16 K (v20 == v12)
    else
     F8_j16 K false
  else
   F8_j16 K false
 else
  (F37 K a0 a1).bind fun v22 =>
   (F27 K v22 (⟨a0, a1⟩ : Za)).bind fun v38 =>
    (F36 K (⟨a0, a1⟩ : Za)).bind fun v40 =>
     if (v38 != (v40 == 0)) = true then
      F8_j24 K v8 v22 a0 a1 true
     else
      (F27 K v22 (⟨a0, a1⟩ : Za)).bind fun v42 =>
       if (!v42) = true then
        (F36 K (⟨a0, a1⟩ : Za)).bind fun v44 =>
         F8_j24 K v8 v22 a0 a1 (v44 != 8)
       else
        F8_j24 K v8 v22 a0 a1 false
def F8_j49 (K : Nat) (b45 : Int → Int → Option (Bool)) (v10 : Int) (v48 : Int) : Option (Bool) :=
 b45 v48 (IntKind.i64.wrap (v10 + 1))
def F8_j47 (K : Nat) (b45 : Int → Int → Option (Bool)) (v10 : Int) (v9 : Int) (v46 : Bool) : Option (Bool) :=
 if v46 = true then
  F8_j49 K b45 v10 10
 else
  F8_j49 K b45 v10 v9
def F8_l11 (K : Nat) (a1 : (List Z7)) (a0 : Int) (c14 : Int → Option (Bool)) : Nat → Int → Int → Option (Bool)
 | 0, _, _ => none
 | k11 + 1, v9, v10 =>
  if (decide (v10 < (a1.length : Int))) = true then
   if (v9 == 0) = true then
    if (0 : Int) ≤ v10 ∧ v10 < a1.length then
     if (decide ((a1.getD v10.toNat Z2).From < 0)) = true then
      F8_j47 K (F8_l11 K a1 a0 c14 k11) v10 v9 true
     else
      if (0 : Int) ≤ v10 ∧ v10 < a1.length then
       if (decide ((a1.getD v10.toNat Z2).From ≥ a0)) = true then
        F8_j47 K (F8_l11 K a1 a0 c14 k11) v10 v9 true
       else
        if (0 : Int) ≤ v10 ∧ v10 < a1.length then
         if (decide ((a1.getD v10.toNat Z2).To < 0)) = true then
          F8_j47 K (F8_l11 K a1 a0 c14 k11) v10 v9 true
         else
          if (0 : Int) ≤ v10 ∧ v10 < a1.length then
           F8_j47 K (F8_l11 K a1 a0 c14 k11) v10 v9 (decide ((a1.getD v10.toNat Z2).To ≥ a0))
          else none
        else none
      else none
    else none
   else
    c14 v9
  else
   c14 v9
def F8_j63 (K : Nat) (v62 : Bool) : Option (Bool) :=
 some v62
def F8_j73 (K : Nat) (v72 : Bool) : Option (Bool) :=
 some v72
def F8_j71 (K : Nat) (v8 : Za × Int) (v69 : Za) (a0 : Int) (a1 : (List Z7)) (v70 : Bool) : Option (Bool) :=
 if v70 = true then
  some false
 else
  if (v8.2 == 0) = true then
   (F27 K v8.1 v69).bind fun v75 =>
    if v75 = true then
     (F36 K v69).bind fun v77 =>
      if (v77 == 0) = true then
       (F38 K (⟨a0, a1⟩ : Za) v69).bind fun v79 =>
        (F27 K (⟨a0, a1⟩ : Za) v69).bind fun v81 =>
         if (v79 == v81) = true then
          (F38 K v69 v69).bind fun v83 =>
           F8_j73 K v83
         else
          F8_j73 K false
      else
       F8_j73 K false
    else
     F8_j73 K false
  else
   F8_j73 K false
def F8_c60 (K : Nat) (v8 : Za × Int) (a0 : Int) (a1 : (List Z7)) (v59 : Int) : Option (Bool) :=
 if (v59 != 0) = true then
  if (v8.2 == v59) = true then
   (F27 K v8.1 z_Tgraph_Graph).bind fun v65 =>
    if v65 = true then
     (F36 K (⟨a0, a1⟩ : Za)).bind fun v67 =>
      F8_j63 K (v67 == v59)
    else
     F8_j63 K false
  else
   F8_j63 K false
 else
  (F37 K a0 a1).bind fun v69 =>
   (F27 K v69 (⟨a0, a1⟩ : Za)).bind fun v85 =>
    (F36 K (⟨a0, a1⟩ : Za)).bind fun v87 =>
     if (v85 != (v87 == 0)) = true then
      F8_j71 K v8 v69 a0 a1 true
     else
      (F27 K v69 (⟨a0, a1⟩ : Za)).bind fun v89 =>
       if (!v89) = true then
        (F36 K (⟨a0, a1⟩ : Za)).bind fun v91 =>
         F8_j71 K v8 v69 a0 a1 (v91 != 8)
       else
        F8_j71 K v8 v69 a0 a1 false
def F8_j96 (K : Nat) (b92 : Int → Int → Option (Bool)) (v57 : Int) (v95 : Int) : Option (Bool) :=
 b92 v95 (IntKind.i64.wrap (v57 + 1))
def F8_j94 (K : Nat) (b92 : Int → Int → Option (Bool)) (v57 : Int) (v56 : Int) (v93 : Bool) : Option (Bool) :=
 if v93 = true then
  F8_j96 K b92 v57 10
 else
  F8_j96 K b92 v57 v56
def F8_l58 (K : Nat) (a1 : (List Z7)) (a0 : Int) (c61 : Int → Option (Bool)) : Nat → Int → Int → Option (Bool)
 | 0, _, _ => none
 | k58 + 1, v56, v57 =>
  if (decide (v57 < (a1.length : Int))) = true then
   if (v56 == 0) = true then
    if (0 : Int) ≤ v57 ∧ v57 < a1.length then
     if (decide ((a1.getD v57.toNat Z2).From < 0)) = true then
      F8_j94 K (F8_l58 K a1 a0 c61 k58) v57 v56 true
     else
      if (0 : Int) ≤ v57 ∧ v57 < a1.length then
       if (decide ((a1.getD v57.toNat Z2).From ≥ a0)) = true then
        F8_j94 K (F8_l58 K a1 a0 c61 k58) v57 v56 true
       else
        if (0 : Int) ≤ v57 ∧ v57 < a1.length then
         if (decide ((a1.getD v57.toNat Z2).To < 0)) = true then
          F8_j94 K (F8_l58 K a1 a0 c61 k58) v57 v56 true
         else
          if (0 : Int) ≤ v57 ∧ v57 < a1.length then
           F8_j94 K (F8_l58 K a1 a0 c61 k58) v57 v56 (decide ((a1.getD v57.toNat Z2).To ≥ a0))
          else none
        else none
      else none
    else none
   else
    c61 v56
  else
   c61 v56
def F8_j55 (K : Nat) (a1 : (List Z7)) (a0 : Int) (v8 : Za × Int) (v54 : Int) : Option (Bool) :=
 F8_l58 K a1 a0 (F8_c60 K v8 a0 a1) K v54 0
def F8 (K : Nat) (a0 : Int) (a1 : (List Z7)) : Option (Bool) :=
 (F13 K).bind fun v2 =>
  if (!v2) = true then
   (F13 K).bind fun v4 =>
    some v4
  else
   if (decide ((a1.length : Int) > 60)) = true then
    (F13 K).bind fun v6 =>
     some v6
   else
    (F35 K a0 a1).bind fun v8 =>
     if (decide (a0 < 0)) = true then
      F8_l11 K a1 a0 (F8_c13 K v8 a0 a1) K 2 0
     else
      if (decide (a0 > 256)) = true then
       F8_j55 K a1 a0 v8 2
      else
       F8_j55 K a1 a0 v8 0
end Go.AM.Gra
