/- What these functions compute, each with its walk: F64, F69, F63, F43, F44, F12. -/
import Derived.Test.YtcfcnnkaiboddaaGraT
import Derived.Test.YtcfcnnkaiboddaaGraG0
import Derived.Test.YtcfcnnkaiboddaaGraG1
import Derived.Test.YtcfcnnkaiboddaaGraG2
import Derived.Test.YtcfcnnkaiboddaaGraG3
import Derived.Test.YtcfcnnkaiboddaaGraG4
import Derived.Test.YtcfcnnkaiboddaaGraG6
import Derived.Test.YtcfcnnkaiboddaaGraG9
import Derived.Test.YtcfcnnkaiboddaaGraG12
namespace Go.AM.Gra
open Go Go.AM Go.Proofs
set_option maxRecDepth 100000
set_option maxHeartbeats 2000000
def F64 (K : Nat) (a0 : Int) (a1 : (List (List Bool))) (a2 : Z7) : Option (Bool) :=
 if (0 : Int) ≤ a0 ∧ a0 < a1.length then
  if (0 : Int) ≤ a2.To ∧ a2.To < (a1.getD a0.toNat []).length then
   some ((a1.getD a0.toNat []).getD a2.To.toNat false)
  else none
 else none
def F69_c3 (K : Nat) : Option (Int) :=
 some (Int.negSucc 0)
def F69_l2 (K : Nat) (a0 : (List Int)) (a100 : (List (List Bool))) (a101 : Z7) (c4 : Option (Int)) : Nat → Int → Option (Int)
 | 0, _ => none
 | k2 + 1, v1 =>
  if (decide (v1 < (a0.length : Int))) = true then
   if (0 : Int) ≤ v1 ∧ v1 < a0.length then
    (F64 K (a0.getD v1.toNat 0) a100 a101).bind fun v8 =>
     if v8 = true then
      some v1
     else
      (F69_l2 K a0 a100 a101 c4 k2) (IntKind.i64.wrap (v1 + 1))
   else none
  else
   c4
def F69 (K : Nat) (a0 : (List Int)) (a100 : (List (List Bool))) (a101 : Z7) : Option (Int) :=
 F69_l2 K a0 a100 a101 (F69_c3 K) K 0
def F63 (K : Nat) (a0 : (List Int)) (a100 : (List (List Bool))) (a101 : Z7) : Option (Bool) :=
 (F69 K a0 a100 a101).bind fun v2 =>
  some (decide (v2 ≥ 0))
def F43_c13 (K : Nat) (a0 : Za) (v12 : (List Z7)) : Option (Za × Int) :=
 some ((⟨a0.Count, v12⟩ : Za), 0)
def F43_j21 (K : Nat) (b15 : Int → (List Z7) → Option (Za × Int)) (v9 : Int) (v20 : (List Z7)) : Option (Za × Int) :=
 b15 (IntKind.i64.wrap (v9 + 1)) v20
def F43_l11 (K : Nat) (a0 : Za) (v8 : (List (List Int))) (v2 : (List (List Bool))) (c14 : (List Z7) → Option (Za × Int)) : Nat → Int → (List Z7) → Option (Za × Int)
 | 0, _, _ => none
 | k11 + 1, v9, v10 =>
  if (decide (v9 < (a0.Edges.length : Int))) = true then
   if (0 : Int) ≤ v9 ∧ v9 < a0.Edges.length then
    if (0 : Int) ≤ (a0.Edges.getD v9.toNat Z2).From ∧ (a0.Edges.getD v9.toNat Z2).From < v8.length then
     (F63 K (v8.getD (a0.Edges.getD v9.toNat Z2).From.toNat []) v2 (a0.Edges.getD v9.toNat Z2)).bind fun v19 =>
      if (!v19) = true then
       if v10.length + [(a0.Edges.getD v9.toNat Z2)].length ≤ 1073741824 then
        F43_j21 K (F43_l11 K a0 v8 v2 c14 k11) v9 (v10 ++ [(a0.Edges.getD v9.toNat Z2)])
       else none
      else
       F43_j21 K (F43_l11 K a0 v8 v2 c14 k11) v9 v10
    else none
   else none
  else
   c14 v10
def F43_c5 (K : Nat) (a0 : Za) (v2 : (List (List Bool))) : Option (Za × Int) :=
 (F47 K a0).bind fun v8 =>
  F43_l11 K a0 v8 v2 (F43_c13 K a0) K 0 []
def F43_l4 (K : Nat) (a0 : Za) (v2 : (List (List Bool))) (c6 : Option (Za × Int)) : Nat → Int → Option (Za × Int)
 | 0, _ => none
 | k4 + 1, v3 =>
  if (decide (v3 < a0.Count)) = true then
   if (0 : Int) ≤ v3 ∧ v3 < v2.length then
    if (0 : Int) ≤ v3 ∧ v3 < (v2.getD v3.toNat []).length then
     if ((v2.getD v3.toNat []).getD v3.toNat false) = true then
      some (z_Tgraph_Graph, 35)
     else
      (F43_l4 K a0 v2 c6 k4) (IntKind.i64.wrap (v3 + 1))
    else none
   else none
  else
   c6
def F43 (K : Nat) (a0 : Za) : Option (Za × Int) :=
 (F60 K a0).bind fun v2 =>
  F43_l4 K a0 v2 (F43_c5 K a0 v2) K 0
def F44_c9 (K : Nat) (v8 : (List (List Bool))) : Option ((List (List Bool))) :=
 some v8
def F44_c16 (K : Nat) (b11 : Int → (List (List Bool)) → Option ((List (List Bool)))) (v5 : Int) (v15 : (List (List Bool))) : Option ((List (List Bool))) :=
 b11 (IntKind.i64.wrap (v5 + 1)) v15
def F44_c23 (K : Nat) (b18 : Int → (List (List Bool)) → Option ((List (List Bool)))) (v12 : Int) (v22 : (List (List Bool))) : Option ((List (List Bool))) :=
 b18 (IntKind.i64.wrap (v12 + 1)) v22
def F44_j27 (K : Nat) (b25 : Int → (List (List Bool)) → Option ((List (List Bool)))) (v19 : Int) (v26 : (List (List Bool))) : Option ((List (List Bool))) :=
 b25 (IntKind.i64.wrap (v19 + 1)) v26
def F44_j33 (K : Nat) (b25 : Int → (List (List Bool)) → Option ((List (List Bool)))) (v19 : Int) (v32 : (List (List Bool))) : Option ((List (List Bool))) :=
 F44_j27 K b25 v19 v32
def F44_l21 (K : Nat) (a0 : (List (List Bool))) (v5 : Int) (v2 : (List (List Bool))) (v12 : Int) (c24 : (List (List Bool)) → Option ((List (List Bool)))) : Nat → Int → (List (List Bool)) → Option ((List (List Bool)))
 | 0, _, _ => none
 | k21 + 1, v19, v20 =>
  if (decide (v19 < (a0.length : Int))) = true then
   if (0 : Int) ≤ v5 ∧ v5 < a0.length then
    if (0 : Int) ≤ v19 ∧ v19 < (a0.getD v5.toNat []).length then
     if ((a0.getD v5.toNat []).getD v19.toNat false) = true then
      if (0 : Int) ≤ v19 ∧ v19 < v2.length then
       if (0 : Int) ≤ v12 ∧ v12 < (v2.getD v19.toNat []).length then
        if ((v2.getD v19.toNat []).getD v12.toNat false) = true then
         if (0 : Int) ≤ v5 ∧ v5 < v20.length then
          if v5.toNat < v20.length then
           if v5.toNat < v20.length then
            if (0 : Int) ≤ v12 ∧ v12 < (v20.getD v5.toNat []).length then
             if v5.toNat < v20.length then
              if v12.toNat < (v20.getD v5.toNat []).length then
               F44_j33 K (F44_l21 K a0 v5 v2 v12 c24 k21) v19 (v20.set v5.toNat ((v20.getD v5.toNat []).set v12.toNat false))
              else none
             else none
            else none
           else none
          else none
         else none
        else
         F44_j33 K (F44_l21 K a0 v5 v2 v12 c24 k21) v19 v20
       else none
      else none
     else
      F44_j27 K (F44_l21 K a0 v5 v2 v12 c24 k21) v19 v20
    else none
   else none
  else
   c24 v20
def F44_l14 (K : Nat) (a0 : (List (List Bool))) (v5 : Int) (v2 : (List (List Bool))) (c17 : (List (List Bool)) → Option ((List (List Bool)))) : Nat → Int → (List (List Bool)) → Option ((List (List Bool)))
 | 0, _, _ => none
 | k14 + 1, v12, v13 =>
  if (decide (v12 < (a0.length : Int))) = true then
   F44_l21 K a0 v5 v2 v12 (F44_c23 K (F44_l14 K a0 v5 v2 c17 k14) v12) K 0 v13
  else
   c17 v13
def F44_l7 (K : Nat) (a0 : (List (List Bool))) (v2 : (List (List Bool))) (c10 : (List (List Bool)) → Option ((List (List Bool)))) : Nat → Int → (List (List Bool)) → Option ((List (List Bool)))
 | 0, _, _ => none
 | k7 + 1, v5, v6 =>
  if (decide (v5 < (a0.length : Int))) = true then
   F44_l14 K a0 v5 v2 (F44_c16 K (F44_l7 K a0 v2 c10 k7) v5) K 0 v6
  else
   c10 v6
def F44 (K : Nat) (a0 : (List (List Bool))) : Option ((List (List Bool))) :=
 (F40 K a0).bind fun v2 =>
  (F61 K a0).bind fun v4 =>
   F44_l7 K a0 v2 (F44_c9 K) K 0 v4
def F12_c19 (K : Nat) : Option (Bool) :=
 some true
def F12_l18 (K : Nat) (v8 : Za × Int) (v14 : Za) (c20 : Option (Bool)) : Nat → Int → Option (Bool)
 | 0, _ => none
 | k18 + 1, v17 =>
  if (decide (v17 < (v8.1.Edges.length : Int))) = true then
   if (0 : Int) ≤ 0 ∧ 0 ≤ v17 ∧ v17 ≤ v8.1.Edges.length then
    if ([] : List Z7).length + (v8.1.Edges.take v17.toNat).length ≤ 1073741824 then
     if (0 : Int) ≤ (IntKind.i64.wrap (v17 + 1)) ∧ (IntKind.i64.wrap (v17 + 1)) ≤ (v8.1.Edges.length : Int) ∧ (v8.1.Edges.length : Int) ≤ v8.1.Edges.length then
      if (v8.1.Edges.take v17.toNat).length + (v8.1.Edges.drop (IntKind.i64.wrap (v17 + 1)).toNat).length ≤ 1073741824 then
       (F39 K (⟨v8.1.Count, ((v8.1.Edges.take v17.toNat) ++ (v8.1.Edges.drop (IntKind.i64.wrap (v17 + 1)).toNat))⟩ : Za)).bind fun v27 =>
        (F27 K v27 v14).bind fun v29 =>
         if v29 = true then
          some false
         else
          (F12_l18 K v8 v14 c20 k18) (IntKind.i64.wrap (v17 + 1))
      else none
     else none
    else none
   else none
  else
   c20
def F12_j16 (K : Nat) (v8 : Za × Int) (v14 : Za) (v15 : Bool) : Option (Bool) :=
 if v15 = true then
  some false
 else
  F12_l18 K v8 v14 (F12_c19 K) K 0
def F12 (K : Nat) (a0 : Z11) : Option (Bool) :=
 (F13 K).bind fun v2 =>
  if (!v2) = true then
   some false
  else
   (F14 K a0).bind fun v4 =>
    (F16 K v4).bind fun v6 =>
     (F43 K v6).bind fun v8 =>
      (F21 K v4).bind fun v10 =>
       if (!v10.2) = true then
        (F27 K v8.1 z_Tgraph_Graph).bind fun v12 =>
         if v12 = true then
          some (v8.2 == 35)
         else
          some false
       else
        (F39 K v6).bind fun v14 =>
         if (v8.2 != 0) = true then
          F12_j16 K v8 v14 true
         else
          (F44 K v4).bind fun v31 =>
           (F16 K v31).bind fun v33 =>
            (F27 K v8.1 v33).bind fun v35 =>
             if (!v35) = true then
              F12_j16 K v8 v14 true
             else
              (F39 K v8.1).bind fun v37 =>
               (F27 K v37 v14).bind fun v39 =>
                F12_j16 K v8 v14 (!v39)
end Go.AM.Gra
