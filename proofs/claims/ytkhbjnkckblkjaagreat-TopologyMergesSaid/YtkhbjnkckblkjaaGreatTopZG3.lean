/- What these functions compute, each with its walk: F60, F22. -/
import Derived.Test.YtkhbjnkckblkjaaGreatTopZT
import Derived.Test.YtkhbjnkckblkjaaGreatTopZG1
namespace Go.AM.TopZ
open Go Go.AM Go.Proofs
set_option maxRecDepth 100000
set_option maxHeartbeats 2000000
def F60_c11 (K : Nat) (v10 : Ze) : Option (Ze) :=
 some v10
def F60_l9 (K : Nat) (a1 : Ze) (c12 : Ze → Option (Ze)) : Nat → Int → Ze → Option (Ze)
 | 0, _, _ => none
 | k9 + 1, v7, v8 =>
  if (decide (v7 < (a1.Calls.length : Int))) = true then
   if (0 : Int) ≤ v7 ∧ v7 < a1.Calls.length then
    if (0 : Int) ≤ v7 ∧ v7 < a1.Calls.length then
     (F54 K v8 (a1.Calls.getD v7.toNat Zf).Caller (a1.Calls.getD v7.toNat Zf).Callee).bind fun v17 =>
      if (0 : Int) ≤ v7 ∧ v7 < a1.Calls.length then
       (F55 K v8 (⟨(a1.Calls.getD v7.toNat Zf).Caller, (a1.Calls.getD v7.toNat Zf).Callee, (IntKind.i64.wrap (v17.Count + (a1.Calls.getD v7.toNat Zf).Count)), (IntKind.i64.wrap (v17.Errors + (a1.Calls.getD v7.toNat Zf).Errors)), (IntKind.i64.wrap (v17.Time + (a1.Calls.getD v7.toNat Zf).Time))⟩ : Zk)).bind fun v20 =>
        (F60_l9 K a1 c12 k9) (IntKind.i64.wrap (v7 + 1)) v20
      else none
    else none
   else none
  else
   c12 v8
def F60_c5 (K : Nat) (a1 : Ze) (v4 : Ze) : Option (Ze) :=
 F60_l9 K a1 (F60_c11 K) K 0 v4
def F60_l3 (K : Nat) (a1 : Ze) (c6 : Ze → Option (Ze)) : Nat → Int → Ze → Option (Ze)
 | 0, _, _ => none
 | k3 + 1, v1, v2 =>
  if (decide (v1 < (a1.Services.length : Int))) = true then
   if (0 : Int) ≤ v1 ∧ v1 < a1.Services.length then
    (F31 K v2 (a1.Services.getD v1.toNat Zg).Name).bind fun v24 =>
     if (0 : Int) ≤ v1 ∧ v1 < a1.Services.length then
      (F53 K v2 (⟨(a1.Services.getD v1.toNat Zg).Name, (IntKind.i64.wrap (v24.Spans + (a1.Services.getD v1.toNat Zg).Spans)), (IntKind.i64.wrap (v24.Errors + (a1.Services.getD v1.toNat Zg).Errors)), (IntKind.i64.wrap (v24.Roots + (a1.Services.getD v1.toNat Zg).Roots))⟩ : Zc)).bind fun v27 =>
       (F60_l3 K a1 c6 k3) (IntKind.i64.wrap (v1 + 1)) v27
     else none
   else none
  else
   c6 v2
def F60 (K : Nat) (a0 : Ze) (a1 : Ze) : Option (Ze) :=
 F60_l3 K a1 (F60_c5 K a1) K 0 a0
def F22_c5 (K : Nat) (v4 : Ze) : Option (Ze) :=
 some v4
def F22_j14 (K : Nat) (b7 : Int → Ze → Option (Ze)) (v1 : Int) (v13 : Ze) : Option (Ze) :=
 b7 (IntKind.i64.wrap (v1 + 1)) v13
def F22_l3 (K : Nat) (a0 : (List Z2h)) (c6 : Ze → Option (Ze)) : Nat → Int → Ze → Option (Ze)
 | 0, _, _ => none
 | k3 + 1, v1, v2 =>
  if (decide (v1 < (a0.length : Int))) = true then
   if (decide (v1 < 12)) = true then
    if (0 : Int) ≤ v1 ∧ v1 < a0.length then
     if (0 : Int) ≤ v1 ∧ v1 < a0.length then
      if (0 : Int) ≤ v1 ∧ v1 < a0.length then
       (F60 K v2 (⟨[(⟨(List.map (fun n : Int => UInt8.ofNat n.toNat) [(IntKind.u8.wrap (97 + ((a0.getD v1.toNat Z27).From.tmod 6)))]), (IntKind.i64.wrap (1 + (IntKind.i64.wrap ((a0.getD v1.toNat Z27).Count.tmod 8)))), 0, (IntKind.i64.wrap (1 + (IntKind.i64.wrap ((a0.getD v1.toNat Z27).Count.tmod 8))))⟩ : Zc)], []⟩ : Ze)).bind fun v12 =>
        if (!((List.map (fun n : Int => UInt8.ofNat n.toNat) [(IntKind.u8.wrap (97 + ((a0.getD v1.toNat Z27).From.tmod 6)))]) == (List.map (fun n : Int => UInt8.ofNat n.toNat) [(IntKind.u8.wrap (97 + ((a0.getD v1.toNat Z27).To.tmod 6)))]))) = true then
         (F60 K v12 (⟨[(⟨(List.map (fun n : Int => UInt8.ofNat n.toNat) [(IntKind.u8.wrap (97 + ((a0.getD v1.toNat Z27).To.tmod 6)))]), (IntKind.i64.wrap (1 + (IntKind.i64.wrap ((a0.getD v1.toNat Z27).Count.tmod 8)))), 0, 0⟩ : Zc)], [(⟨(List.map (fun n : Int => UInt8.ofNat n.toNat) [(IntKind.u8.wrap (97 + ((a0.getD v1.toNat Z27).From.tmod 6)))]), (List.map (fun n : Int => UInt8.ofNat n.toNat) [(IntKind.u8.wrap (97 + ((a0.getD v1.toNat Z27).To.tmod 6)))]), (IntKind.i64.wrap (1 + (IntKind.i64.wrap ((a0.getD v1.toNat Z27).Count.tmod 8)))), (IntKind.i64.wrap ((IntKind.i64.wrap (1 + (IntKind.i64.wrap ((a0.getD v1.toNat Z27).Count.tmod 8)))).tdiv 3)), (IntKind.i64.wrap (7 * (IntKind.i64.wrap (1 + (IntKind.i64.wrap ((a0.getD v1.toNat Z27).Count.tmod 8))))))⟩ : Zk)]⟩ : Ze)).bind fun v16 =>
          F22_j14 K (F22_l3 K a0 c6 k3) v1 v16
        else
         F22_j14 K (F22_l3 K a0 c6 k3) v1 v12
      else none
     else none
    else none
   else
    c6 v2
  else
   c6 v2
def F22 (K : Nat) (a0 : (List Z2h)) : Option (Ze) :=
 F22_l3 K a0 (F22_c5 K) K 0 Z12
end Go.AM.TopZ
