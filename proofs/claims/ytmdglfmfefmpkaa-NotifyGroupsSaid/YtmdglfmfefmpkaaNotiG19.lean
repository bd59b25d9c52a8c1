/- What these functions compute, each with its walk: F60, F83, F59, F35, F36, F11. -/
import Derived.Test.YtmdglfmfefmpkaaNotiT
import Derived.Test.YtmdglfmfefmpkaaNotiG0
import Derived.Test.YtmdglfmfefmpkaaNotiG1
import Derived.Test.YtmdglfmfefmpkaaNotiG2
import Derived.Test.YtmdglfmfefmpkaaNotiG3
import Derived.Test.YtmdglfmfefmpkaaNotiG5
import Derived.Test.YtmdglfmfefmpkaaNotiG6
import Derived.Test.YtmdglfmfefmpkaaNotiG9
namespace Go.AM.Noti
open Go Go.AM Go.Proofs
set_option maxRecDepth 100000
set_option maxHeartbeats 2000000
def F60_j2 (K : Nat) (v1 : Bool) : Option (Bool) :=
 some v1
def F60 (K : Nat) (a0 : Tnotify_Ack) (a1 : Str) (a2 : Z4) (a3 : Int) : Option (Bool) :=
 if (a0.Group == a1) = true then
  if (decide (a0.At ≥ a2.From)) = true then
   F60_j2 K (decide (a0.At ≤ a3))
  else
   F60_j2 K false
 else
  F60_j2 K false
def F83_c3 (K : Nat) : Option (Int) :=
 some (Int.negSucc 0)
def F83_l2 (K : Nat) (a0 : (List Tnotify_Ack)) (a100 : Str) (a101 : Z4) (a102 : Int) (c4 : Option (Int)) : Nat → Int → Option (Int)
 | 0, _ => none
 | k2 + 1, v1 =>
  if (decide (v1 < (a0.length : Int))) = true then
   if (0 : Int) ≤ v1 ∧ v1 < a0.length then
    (F60 K (a0.getD v1.toNat Z14) a100 a101 a102).bind fun v8 =>
     if v8 = true then
      some v1
     else
      (F83_l2 K a0 a100 a101 a102 c4 k2) (IntKind.i64.wrap (v1 + 1))
   else none
  else
   c4
def F83 (K : Nat) (a0 : (List Tnotify_Ack)) (a100 : Str) (a101 : Z4) (a102 : Int) : Option (Int) :=
 F83_l2 K a0 a100 a101 a102 (F83_c3 K) K 0
def F59 (K : Nat) (a0 : (List Tnotify_Ack)) (a100 : Str) (a101 : Z4) (a102 : Int) : Option (Bool) :=
 (F83 K a0 a100 a101 a102).bind fun v2 =>
  some (decide (v2 ≥ 0))
def F35_c7 (K : Nat) : Option (Z19 × Int) :=
 some (z_Tnotify_Status, 0)
def F35_j10 (K : Nat) (b9 : Int → Option (Z19 × Int)) (v5 : Int) : Option (Z19 × Int) :=
 b9 (IntKind.i64.wrap (v5 + 1))
def F35_c16 (K : Nat) (a0 : Zm) (a1 : Str) (v4 : (List Z4)) (v5 : Int) (a2 : Int) (v15 : Z19) : Option (Z19 × Int) :=
 (F59 K a0.Acks a1 (v4.getD v5.toNat Zq) a2).bind fun v19 =>
  some ((⟨v15.Active, v15.Since, v15.Steps, v19⟩ : Z19), 0)
def F35_j22 (K : Nat) (b20 : Int → Z19 → Option (Z19 × Int)) (v12 : Int) (v21 : Z19) : Option (Z19 × Int) :=
 b20 (IntKind.i64.wrap (v12 + 1)) v21
def F35_j27 (K : Nat) (b20 : Int → Z19 → Option (Z19 × Int)) (v12 : Int) (v26 : Z19) : Option (Z19 × Int) :=
 F35_j22 K b20 v12 v26
def F35_l14 (K : Nat) (a0 : Zm) (v4 : (List Z4)) (v5 : Int) (a2 : Int) (a1 : Str) (c17 : Z19 → Option (Z19 × Int)) : Nat → Int → Z19 → Option (Z19 × Int)
 | 0, _, _ => none
 | k14 + 1, v12, v13 =>
  if (decide (v12 < (a0.Policy.Steps.length : Int))) = true then
   if (0 : Int) ≤ v12 ∧ v12 < a0.Policy.Steps.length then
    if (decide ((IntKind.i64.wrap ((v4.getD v5.toNat Zq).From + (a0.Policy.Steps.getD v12.toNat Zk).After)) ≤ a2)) = true then
     (F58 K a0 a1 (v4.getD v5.toNat Zq)).bind fun v25 =>
      if (decide ((IntKind.i64.wrap ((v4.getD v5.toNat Zq).From + (a0.Policy.Steps.getD v12.toNat Zk).After)) < v25)) = true then
       F35_j27 K (F35_l14 K a0 v4 v5 a2 a1 c17 k14) v12 (⟨v13.Active, v13.Since, (IntKind.i64.wrap (v13.Steps + 1)), v13.Acked⟩ : Z19)
      else
       F35_j27 K (F35_l14 K a0 v4 v5 a2 a1 c17 k14) v12 v13
    else
     F35_j22 K (F35_l14 K a0 v4 v5 a2 a1 c17 k14) v12 v13
   else none
  else
   c17 v13
def F35_l6 (K : Nat) (v4 : (List Z4)) (a2 : Int) (a0 : Zm) (a1 : Str) (c8 : Option (Z19 × Int)) : Nat → Int → Option (Z19 × Int)
 | 0, _ => none
 | k6 + 1, v5 =>
  if (decide (v5 < (v4.length : Int))) = true then
   if (0 : Int) ≤ v5 ∧ v5 < v4.length then
    if (decide (a2 < (v4.getD v5.toNat Zq).From)) = true then
     F35_j10 K (F35_l6 K v4 a2 a0 a1 c8 k6) v5
    else
     if (decide (a2 ≥ (v4.getD v5.toNat Zq).To)) = true then
      F35_j10 K (F35_l6 K v4 a2 a0 a1 c8 k6) v5
     else
      F35_l14 K a0 v4 v5 a2 a1 (F35_c16 K a0 a1 v4 v5 a2) K 0 (⟨true, (v4.getD v5.toNat Zq).From, 0, false⟩ : Z19)
   else none
  else
   c8
def F35 (K : Nat) (a0 : Zm) (a1 : Str) (a2 : Int) : Option (Z19 × Int) :=
 (F51 K a0 a2).bind fun v2 =>
  if (v2 != 0) = true then
   some (z_Tnotify_Status, v2)
  else
   (F23 K a0 a1).bind fun v4 =>
    F35_l6 K v4 a2 a0 a1 (F35_c7 K) K 0
def F36_c5 (K : Nat) : Option (Z19) :=
 some z_Tnotify_Status
def F36_j8 (K : Nat) (b7 : Int → Option (Z19)) (v3 : Int) : Option (Z19) :=
 b7 (IntKind.i64.wrap (v3 + 1))
def F36_c19 (K : Nat) (v18 : Z19) : Option (Z19) :=
 some v18
def F36_j23 (K : Nat) (b21 : Int → Z19 → Option (Z19)) (v15 : Int) (v22 : Z19) : Option (Z19) :=
 b21 (IntKind.i64.wrap (v15 + 1)) v22
def F36_j30 (K : Nat) (b21 : Int → Z19 → Option (Z19)) (v15 : Int) (v29 : Z19) : Option (Z19) :=
 F36_j23 K b21 v15 v29
def F36_l17 (K : Nat) (a0 : Zm) (v3 : Int) (v2 : (List Z4)) (a2 : Int) (a1 : Str) (c20 : Z19 → Option (Z19)) : Nat → Int → Z19 → Option (Z19)
 | 0, _, _ => none
 | k17 + 1, v15, v16 =>
  if (decide (v15 < (a0.Policy.Steps.length : Int))) = true then
   if (0 : Int) ≤ v3 ∧ v3 < v2.length then
    if (0 : Int) ≤ v15 ∧ v15 < a0.Policy.Steps.length then
     if (decide ((IntKind.i64.wrap ((v2.getD v3.toNat Zq).From + (a0.Policy.Steps.getD v15.toNat Zk).After)) ≤ a2)) = true then
      if (0 : Int) ≤ v3 ∧ v3 < v2.length then
       (F61 K a0 a1 (v2.getD v3.toNat Zq).From (IntKind.i64.wrap ((v2.getD v3.toNat Zq).From + (a0.Policy.Steps.getD v15.toNat Zk).After))).bind fun v28 =>
        if (!v28) = true then
         F36_j30 K (F36_l17 K a0 v3 v2 a2 a1 c20 k17) v15 (⟨v16.Active, v16.Since, (IntKind.i64.wrap (v16.Steps + 1)), v16.Acked⟩ : Z19)
        else
         F36_j30 K (F36_l17 K a0 v3 v2 a2 a1 c20 k17) v15 v16
      else none
     else
      F36_j23 K (F36_l17 K a0 v3 v2 a2 a1 c20 k17) v15 v16
    else none
   else none
  else
   c20 v16
def F36_l4 (K : Nat) (v2 : (List Z4)) (a2 : Int) (a0 : Zm) (a1 : Str) (c6 : Option (Z19)) : Nat → Int → Option (Z19)
 | 0, _ => none
 | k4 + 1, v3 =>
  if (decide (v3 < (v2.length : Int))) = true then
   if (0 : Int) ≤ v3 ∧ v3 < v2.length then
    if (decide ((v2.getD v3.toNat Zq).From > a2)) = true then
     F36_j8 K (F36_l4 K v2 a2 a0 a1 c6 k4) v3
    else
     if (0 : Int) ≤ v3 ∧ v3 < v2.length then
      if (decide (a2 ≥ (v2.getD v3.toNat Zq).To)) = true then
       F36_j8 K (F36_l4 K v2 a2 a0 a1 c6 k4) v3
      else
       if (0 : Int) ≤ v3 ∧ v3 < v2.length then
        if (0 : Int) ≤ v3 ∧ v3 < v2.length then
         (F61 K a0 a1 (v2.getD v3.toNat Zq).From a2).bind fun v14 =>
          F36_l17 K a0 v3 v2 a2 a1 (F36_c19 K) K 0 (⟨true, (v2.getD v3.toNat Zq).From, 0, v14⟩ : Z19)
        else none
       else none
     else none
   else none
  else
   c6
def F36 (K : Nat) (a0 : Zm) (a1 : Str) (a2 : Int) : Option (Z19) :=
 (F24 K a0 a1).bind fun v2 =>
  F36_l4 K v2 a2 a0 a1 (F36_c5 K) K 0
def F11_c10 (K : Nat) : Option (Bool) :=
 some true
def F11_j13 (K : Nat) (b12 : Int → Option (Bool)) (v8 : Int) : Option (Bool) :=
 b12 (IntKind.i64.wrap (v8 + 1))
def F11_l9 (K : Nat) (v6 : (List Str)) (v4 : Zm) (a1 : Int) (c11 : Option (Bool)) : Nat → Int → Option (Bool)
 | 0, _ => none
 | k9 + 1, v8 =>
  if (decide (v8 < ((v6 ++ ([[110, 111, 98, 111, 100, 121]] : List Str)).length : Int))) = true then
   if (0 : Int) ≤ v8 ∧ v8 < ((v6 ++ ([[110, 111, 98, 111, 100, 121]] : List Str)).length : Nat) then
    if v8.toNat < (v6 ++ ([[110, 111, 98, 111, 100, 121]] : List Str)).length then
     (F35 K v4 ((v6 ++ ([[110, 111, 98, 111, 100, 121]] : List Str)).getD v8.toNat []) a1).bind fun v17 =>
      (F28 K a1).bind fun v19 =>
       if (!v19) = true then
        if (!((v17.1.Active == false) && ((v17.1.Since == 0) && ((v17.1.Steps == 0) && ((v17.1.Acked == false) && true))))) = true then
         some false
        else
         if (v17.2 != 32) = true then
          some false
         else
          F11_j13 K (F11_l9 K v6 v4 a1 c11 k9) v8
       else
        if (0 : Int) ≤ v8 ∧ v8 < ((v6 ++ ([[110, 111, 98, 111, 100, 121]] : List Str)).length : Nat) then
         if v8.toNat < (v6 ++ ([[110, 111, 98, 111, 100, 121]] : List Str)).length then
          (F36 K v4 ((v6 ++ ([[110, 111, 98, 111, 100, 121]] : List Str)).getD v8.toNat []) a1).bind fun v23 =>
           if (!((v17.1.Active == v23.Active) && ((v17.1.Since == v23.Since) && ((v17.1.Steps == v23.Steps) && ((v17.1.Acked == v23.Acked) && true))))) = true then
            some false
           else
            if (v17.2 != 0) = true then
             some false
            else
             F11_j13 K (F11_l9 K v6 v4 a1 c11 k9) v8
         else none
        else none
    else none
   else none
  else
   c11
noncomputable def F11 (K : Nat) (a0 : Z1e) (a1 : Int) : Option (Bool) :=
 (F13 K).bind fun v2 =>
  if (!v2) = true then
   some false
  else
   (F14 K a0).bind fun v4 =>
    (F15 K v4).bind fun v6 =>
     if v6.length + ([[110, 111, 98, 111, 100, 121]] : List Str).length ≤ 1073741824 then
      F11_l9 K v6 v4 a1 (F11_c10 K) K 0
     else none
end Go.AM.Noti
