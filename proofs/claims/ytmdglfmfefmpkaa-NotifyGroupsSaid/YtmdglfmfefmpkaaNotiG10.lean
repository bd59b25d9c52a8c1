/- What these functions compute, each with its walk: F55, F56, F30. -/
import Derived.Test.YtmdglfmfefmpkaaNotiT
import Derived.Test.YtmdglfmfefmpkaaNotiG5
import Derived.Test.YtmdglfmfefmpkaaNotiG6
import Derived.Test.YtmdglfmfefmpkaaNotiG8
import Derived.Test.YtmdglfmfefmpkaaNotiG9
namespace Go.AM.Noti
open Go Go.AM Go.Proofs
set_option maxRecDepth 100000
set_option maxHeartbeats 2000000
def F55_c14 (K : Nat) (v13 : (List Z3)) : Option ((List Z3)) :=
 some v13
def F55_l12 (K : Nat) (v7 : (List Str)) (a2 : Z4) (a3 : Int) (a1 : Str) (c15 : (List Z3) → Option ((List Z3))) : Nat → Int → (List Z3) → Option ((List Z3))
 | 0, _, _ => none
 | k12 + 1, v10, v11 =>
  if (decide (v10 < (v7.length : Int))) = true then
   if (decide (a2.To < a3)) = true then
    if (0 : Int) ≤ v10 ∧ v10 < (v7.length : Nat) then
     if v10.toNat < v7.length then
      if v11.length + ([(⟨a2.To, a1, 3, (v7.getD v10.toNat []), []⟩ : Z3)]).length ≤ 1073741824 then
       (F55_l12 K v7 a2 a3 a1 c15 k12) (IntKind.i64.wrap (v10 + 1)) (v11 ++ ([(⟨a2.To, a1, 3, (v7.getD v10.toNat []), []⟩ : Z3)]))
      else none
     else none
    else none
   else
    c15 v11
  else
   c15 v11
def F55_c8 (K : Nat) (a2 : Z4) (a3 : Int) (a1 : Str) (v6 : (List Z3)) (v7 : (List Str)) : Option ((List Z3)) :=
 F55_l12 K v7 a2 a3 a1 (F55_c14 K) K 0 v6
def F55_j29 (K : Nat) (b20 : Int → (List Z3) → (List Str) → Option ((List Z3))) (v2 : Int) (v27 : (List Z3)) (v28 : (List Str)) : Option ((List Z3)) :=
 b20 (IntKind.i64.wrap (v2 + 1)) v27 v28
def F55_j24 (K : Nat) (c9 : (List Z3) → (List Str) → Option ((List Z3))) (v3 : (List Z3)) (v4 : (List Str)) (a0 : Zm) (a1 : Str) (a2 : Z4) (v21 : Z3) (b20 : Int → (List Z3) → (List Str) → Option ((List Z3))) (v2 : Int) (v23 : Bool) : Option ((List Z3)) :=
 if v23 = true then
  c9 v3 v4
 else
  (F61 K a0 a1 a2.From v21.At).bind fun v26 =>
   if (!v26) = true then
    (F26 K a0 a1 v21.At).bind fun v31 =>
     if v3.length + [(⟨v21.At, v21.Group, v21.Kind, v21.Who, v31⟩ : Z3)].length ≤ 1073741824 then
      (F44 K v4 v21.Who).bind fun v34 =>
       F55_j29 K b20 v2 (v3 ++ [(⟨v21.At, v21.Group, v21.Kind, v21.Who, v31⟩ : Z3)]) v34
     else none
   else
    F55_j29 K b20 v2 v3 v4
def F55_j22 (K : Nat) (a2 : Z4) (c9 : (List Z3) → (List Str) → Option ((List Z3))) (v3 : (List Z3)) (v4 : (List Str)) (a0 : Zm) (a1 : Str) (b20 : Int → (List Z3) → (List Str) → Option ((List Z3))) (v2 : Int) (a3 : Int) (v21 : Z3) : Option ((List Z3)) :=
 if (decide (v21.At ≥ a2.To)) = true then
  F55_j24 K c9 v3 v4 a0 a1 a2 v21 b20 v2 true
 else
  if (decide (v21.At ≥ a3)) = true then
   F55_j24 K c9 v3 v4 a0 a1 a2 v21 b20 v2 true
  else
   if (v21.Kind == 2) = true then
    F55_j24 K c9 v3 v4 a0 a1 a2 v21 b20 v2 (a0.Policy.Repeat == 0)
   else
    F55_j24 K c9 v3 v4 a0 a1 a2 v21 b20 v2 false
def F55_l5 (K : Nat) (a0 : Zm) (a2 : Z4) (a1 : Str) (a3 : Int) (c9 : (List Z3) → (List Str) → Option ((List Z3))) : Nat → Int → (List Z3) → (List Str) → Option ((List Z3))
 | 0, _, _, _ => none
 | k5 + 1, v2, v3, v4 =>
  if (decide (v2 < (IntKind.i64.wrap ((a0.Policy.Steps.length : Int) + 5000)))) = true then
   if (decide (v2 < (a0.Policy.Steps.length : Int))) = true then
    if (0 : Int) ≤ v2 ∧ v2 < a0.Policy.Steps.length then
     if (0 : Int) ≤ v2 ∧ v2 < a0.Policy.Steps.length then
      F55_j22 K a2 c9 v3 v4 a0 a1 (F55_l5 K a0 a2 a1 a3 c9 k5) v2 a3 (⟨(IntKind.i64.wrap (a2.From + (a0.Policy.Steps.getD v2.toNat Zk).After)), a1, 1, (a0.Policy.Steps.getD v2.toNat Zk).Who, []⟩ : Z3)
     else none
    else none
   else
    F55_j22 K a2 c9 v3 v4 a0 a1 (F55_l5 K a0 a2 a1 a3 c9 k5) v2 a3 (⟨(IntKind.i64.wrap ((IntKind.i64.wrap (a2.From + (a0.Policy.Steps.getD (IntKind.i64.wrap ((a0.Policy.Steps.length : Int) - 1)).toNat Zk).After)) + (IntKind.i64.wrap ((IntKind.i64.wrap ((IntKind.i64.wrap (v2 - (a0.Policy.Steps.length : Int))) + 1)) * a0.Policy.Repeat)))), a1, 2, (a0.Policy.Steps.getD (IntKind.i64.wrap ((a0.Policy.Steps.length : Int) - 1)).toNat Zk).Who, []⟩ : Z3)
  else
   c9 v3 v4
def F55 (K : Nat) (a0 : Zm) (a1 : Str) (a2 : Z4) (a3 : Int) : Option ((List Z3)) :=
 if (0 : Int) ≤ (IntKind.i64.wrap ((a0.Policy.Steps.length : Int) - 1)) ∧ (IntKind.i64.wrap ((a0.Policy.Steps.length : Int) - 1)) < a0.Policy.Steps.length then
  F55_l5 K a0 a2 a1 a3 (F55_c8 K a2 a3 a1) K 0 [] []
 else none
def F56 (K : Nat) (a0 : Z3) (a1 : Z3) : Option (Bool) :=
 if (a0.At != a1.At) = true then
  some (decide (a0.At < a1.At))
 else
  if (!(a0.Group == a1.Group)) = true then
   some (slt a0.Group a1.Group)
  else
   if (a0.Kind != a1.Kind) = true then
    some (decide (a0.Kind < a1.Kind))
   else
    some (slt a0.Who a1.Who)
def F30_c7 (K : Nat) (v6 : (List Z3)) : Option ((List Z3)) :=
 some v6
def F30_c18 (K : Nat) (b9 : Int → (List Z3) → Option ((List Z3))) (v3 : Int) (v17 : (List Z3)) : Option ((List Z3)) :=
 b9 (IntKind.i64.wrap (v3 + 1)) v17
def F30_c30 (K : Nat) (b20 : Int → (List Z3) → Option ((List Z3))) (v14 : Int) (v29 : (List Z3)) : Option ((List Z3)) :=
 b20 (IntKind.i64.wrap (v14 + 1)) v29
def F30_c36 (K : Nat) (v27 : (List Z3)) (v26 : Int) (v25 : (List Z3)) (b32 : Int → (List Z3) → Option ((List Z3))) (v35 : Int) : Option ((List Z3)) :=
 if (0 : Int) ≤ v35 ∧ v35 ≤ (v27.length : Nat) then
  if (0 : Int) ≤ v26 ∧ v26 < v25.length then
   if (0 : Int) ≤ v35 ∧ v35 ≤ (v27.length : Int) ∧ (v27.length : Int) ≤ (v27.length : Nat) then
    if (0 + v35.toNat) + ((v27.length : Int).toNat - v35.toNat) ≤ v27.length then
     if (0 + v35.toNat) + ((v27.length : Int).toNat - v35.toNat) ≤ v27.length then
      if [(v25.getD v26.toNat Zb)].length + ((v27.drop (0 + v35.toNat)).take ((v27.length : Int).toNat - v35.toNat)).length ≤ 1073741824 then
       if 0 + v35.toNat ≤ v27.length then
        if ((v27.drop 0).take v35.toNat).length + ([(v25.getD v26.toNat Zb)] ++ ((v27.drop (0 + v35.toNat)).take ((v27.length : Int).toNat - v35.toNat))).length ≤ 1073741824 then
         if ([(v25.getD v26.toNat Zb)] ++ ((v27.drop (0 + v35.toNat)).take ((v27.length : Int).toNat - v35.toNat))) ≠ [] then
          b32 (IntKind.i64.wrap (v26 + 1)) (((v27.drop 0).take v35.toNat) ++ ([(v25.getD v26.toNat Zb)] ++ ((v27.drop (0 + v35.toNat)).take ((v27.length : Int).toNat - v35.toNat))))
         else none
        else none
       else none
      else none
     else none
    else none
   else none
  else none
 else none
def F30_l34 (K : Nat) (v26 : Int) (v25 : (List Z3)) (v27 : (List Z3)) (c37 : Int → Option ((List Z3))) : Nat → Int → Option ((List Z3))
 | 0, _ => none
 | k34 + 1, v33 =>
  if (decide (v33 > 0)) = true then
   if (0 : Int) ≤ v26 ∧ v26 < v25.length then
    if (0 : Int) ≤ (IntKind.i64.wrap (v33 - 1)) ∧ (IntKind.i64.wrap (v33 - 1)) < (v27.length : Nat) then
     if (IntKind.i64.wrap (v33 - 1)).toNat < v27.length then
      (F56 K (v25.getD v26.toNat Zb) (v27.getD (IntKind.i64.wrap (v33 - 1)).toNat Zb)).bind fun v52 =>
       if v52 = true then
        (F30_l34 K v26 v25 v27 c37 k34) (IntKind.i64.wrap (v33 - 1))
       else
        c37 v33
     else none
    else none
   else none
  else
   c37 v33
def F30_l28 (K : Nat) (v25 : (List Z3)) (c31 : (List Z3) → Option ((List Z3))) : Nat → Int → (List Z3) → Option ((List Z3))
 | 0, _, _ => none
 | k28 + 1, v26, v27 =>
  if (decide (v26 < (v25.length : Int))) = true then
   F30_l34 K v26 v25 v27 (F30_c36 K v27 v26 v25 (F30_l28 K v25 c31 k28)) K (v27.length : Int)
  else
   c31 v27
def F30_l16 (K : Nat) (v13 : (List Z4)) (v3 : Int) (v2 : (List Str)) (a0 : Zm) (a1 : Int) (c19 : (List Z3) → Option ((List Z3))) : Nat → Int → (List Z3) → Option ((List Z3))
 | 0, _, _ => none
 | k16 + 1, v14, v15 =>
  if (decide (v14 < (v13.length : Int))) = true then
   if (0 : Int) ≤ v3 ∧ v3 < (v2.length : Nat) then
    if v3.toNat < v2.length then
     if (0 : Int) ≤ v14 ∧ v14 < v13.length then
      (F55 K a0 (v2.getD v3.toNat []) (v13.getD v14.toNat Zq) a1).bind fun v25 =>
       F30_l28 K v25 (F30_c30 K (F30_l16 K v13 v3 v2 a0 a1 c19 k16) v14) K 0 v15
     else none
    else none
   else none
  else
   c19 v15
def F30_l5 (K : Nat) (v2 : (List Str)) (a0 : Zm) (a1 : Int) (c8 : (List Z3) → Option ((List Z3))) : Nat → Int → (List Z3) → Option ((List Z3))
 | 0, _, _ => none
 | k5 + 1, v3, v4 =>
  if (decide (v3 < (v2.length : Int))) = true then
   if (0 : Int) ≤ v3 ∧ v3 < (v2.length : Nat) then
    if v3.toNat < v2.length then
     (F24 K a0 (v2.getD v3.toNat [])).bind fun v13 =>
      F30_l16 K v13 v3 v2 a0 a1 (F30_c18 K (F30_l5 K v2 a0 a1 c8 k5) v3) K 0 v4
    else none
   else none
  else
   c8 v4
def F30 (K : Nat) (a0 : Zm) (a1 : Int) : Option ((List Z3)) :=
 (F15 K a0).bind fun v2 =>
  F30_l5 K v2 a0 a1 (F30_c7 K) K 0 []
end Go.AM.Noti
