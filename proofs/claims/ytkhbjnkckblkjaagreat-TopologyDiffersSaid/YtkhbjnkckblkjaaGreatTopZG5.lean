/- What these functions compute, each with its walk: F12, F82, F153, F122, F154, F123, F124, F83, F39, F13. -/
import Derived.Test.YtkhbjnkckblkjaaGreatTopZT
namespace Go.AM.TopZ
open Go Go.AM Go.Proofs
set_option maxRecDepth 100000
set_option maxHeartbeats 2000000
def F12_c3 (K : Nat) (a0 : Z1x) : Option (Bool) :=
 if (decide ((a0.Trees.length : Int) ≤ 3)) = true then
  some (decide ((a0.Syncs.length : Int) ≤ 6))
 else
  some false
def F12_l2 (K : Nat) (a0 : Z1x) (c4 : Option (Bool)) : Nat → Int → Option (Bool)
 | 0, _ => none
 | k2 + 1, v1 =>
  if (decide (v1 < (a0.Trees.length : Int))) = true then
   if (0 : Int) ≤ v1 ∧ v1 < a0.Trees.length then
    if (decide (((a0.Trees.getD v1.toNat Zz).Calls.length : Int) > 8)) = true then
     some false
    else
     (F12_l2 K a0 c4 k2) (IntKind.i64.wrap (v1 + 1))
   else none
  else
   c4
def F12 (K : Nat) (a0 : Z1x) : Option (Bool) :=
 F12_l2 K a0 (F12_c3 K a0) K 0
def F82 (K : Nat) (a0 : Z1x) (a1 : Int) : Option (Int) :=
 if (0 : Int) ≤ a1 ∧ a1 < a0.Trees.length then
  if (0 : Int) ≤ 20 then
   some (IntKind.i64.wrap ((IntKind.i64.wrap ((IntKind.i64.wrap ((IntKind.i64.wrap ((a0.Trees.getD a1.toNat Zz).Slot.tmod 64)) * 2 ^ (min (20 : Int).toNat IntKind.i64.bits))) + 1)) + a1))
  else none
 else none
def F153 (K : Nat) (a0 : Z38) : Option (Int) :=
 some (IntKind.i64.wrap (1 + (IntKind.i64.wrap (a0.Kind.tmod 5))))
def F122_c13 (K : Nat) (v5 : (List Int)) (v12 : (List Int)) : Option ((List Int) × (List Int)) :=
 some (v5, v12)
def F122_j21 (K : Nat) (b15 : Int → (List Int) → Option ((List Int) × (List Int))) (v9 : Int) (v20 : (List Int)) : Option ((List Int) × (List Int)) :=
 b15 (IntKind.i64.wrap (v9 - 1)) v20
def Z8u (K : Nat) (a0 : Z2k) (v9 : Int) (v10 : (List Int)) (b15 : Int → (List Int) → Option ((List Int) × (List Int))) (v18 : Bool) : Option ((List Int) × (List Int)) :=
 if v18 = true then
  if (0 : Int) ≤ ((IntKind.i64.wrap (a0.Calls.getD v9.toNat Zs).Parent).tmod (IntKind.i64.wrap (v9 + 1))) ∧ ((IntKind.i64.wrap (a0.Calls.getD v9.toNat Zs).Parent).tmod (IntKind.i64.wrap (v9 + 1))) < (v10.length : Nat) then
   if ((IntKind.i64.wrap (a0.Calls.getD v9.toNat Zs).Parent).tmod (IntKind.i64.wrap (v9 + 1))).toNat < v10.length then
    if (0 : Int) ≤ v9 ∧ v9 < (v10.length : Nat) then
     if v9.toNat < v10.length then
      if (0 : Int) ≤ ((IntKind.i64.wrap (a0.Calls.getD v9.toNat Zs).Parent).tmod (IntKind.i64.wrap (v9 + 1))) ∧ ((IntKind.i64.wrap (a0.Calls.getD v9.toNat Zs).Parent).tmod (IntKind.i64.wrap (v9 + 1))) < (v10.length : Nat) then
       if ((IntKind.i64.wrap (a0.Calls.getD v9.toNat Zs).Parent).tmod (IntKind.i64.wrap (v9 + 1))).toNat < v10.length then
        F122_j21 K b15 v9 (v10.set ((IntKind.i64.wrap (a0.Calls.getD v9.toNat Zs).Parent).tmod (IntKind.i64.wrap (v9 + 1))).toNat (if (v10.getD v9.toNat 0) > (v10.getD ((IntKind.i64.wrap (a0.Calls.getD v9.toNat Zs).Parent).tmod (IntKind.i64.wrap (v9 + 1))).toNat 0) then (v10.getD v9.toNat 0) else (v10.getD ((IntKind.i64.wrap (a0.Calls.getD v9.toNat Zs).Parent).tmod (IntKind.i64.wrap (v9 + 1))).toNat 0)))
       else none
      else none
     else none
    else none
   else none
  else none
 else
  F122_j21 K b15 v9 v10
def Z73 (K : Nat) (a0 : Z2k) (c14 : (List Int) → Option ((List Int) × (List Int))) : Nat → Int → (List Int) → Option ((List Int) × (List Int))
 | 0, _, _ => none
 | k11 + 1, v9, v10 =>
  if (decide (v9 > 0)) = true then
   if (0 : Int) ≤ v9 ∧ v9 < a0.Calls.length then
    if (IntKind.i64.wrap (v9 + 1)) ≠ 0 then
     if (decide (((IntKind.i64.wrap (a0.Calls.getD v9.toNat Zs).Parent).tmod (IntKind.i64.wrap (v9 + 1))) < v9)) = true then
      if (0 : Int) ≤ v9 ∧ v9 < a0.Calls.length then
       (F153 K (a0.Calls.getD v9.toNat Zs)).bind fun v30 =>
        if (v30 == 3) = true then
         if (0 : Int) ≤ ((IntKind.i64.wrap (a0.Calls.getD v9.toNat Zs).Parent).tmod (IntKind.i64.wrap (v9 + 1))) ∧ ((IntKind.i64.wrap (a0.Calls.getD v9.toNat Zs).Parent).tmod (IntKind.i64.wrap (v9 + 1))) < a0.Calls.length then
          (F153 K (a0.Calls.getD ((IntKind.i64.wrap (a0.Calls.getD v9.toNat Zs).Parent).tmod (IntKind.i64.wrap (v9 + 1))).toNat Zs)).bind fun v33 =>
           if (v33 == 2) = true then
            if (0 : Int) ≤ ((IntKind.i64.wrap (a0.Calls.getD v9.toNat Zs).Parent).tmod (IntKind.i64.wrap (v9 + 1))) ∧ ((IntKind.i64.wrap (a0.Calls.getD v9.toNat Zs).Parent).tmod (IntKind.i64.wrap (v9 + 1))) < a0.Calls.length then
             Z8u K a0 v9 v10 (Z73 K a0 c14 k11) (!(a0.Calls.getD ((IntKind.i64.wrap (a0.Calls.getD v9.toNat Zs).Parent).tmod (IntKind.i64.wrap (v9 + 1))).toNat Zs).Fail)
            else none
           else
            Z8u K a0 v9 v10 (Z73 K a0 c14 k11) false
         else none
        else
         Z8u K a0 v9 v10 (Z73 K a0 c14 k11) false
      else none
     else
      Z8u K a0 v9 v10 (Z73 K a0 c14 k11) false
    else none
   else none
  else
   c14 v10
def F122_c7 (K : Nat) (a0 : Z2k) (v5 : (List Int)) (v6 : (List Int)) : Option ((List Int) × (List Int)) :=
 Z73 K a0 (F122_c13 K v5) K (IntKind.i64.wrap ((a0.Calls.length : Int) - 1)) v6
def F122_j41 (K : Nat) (v2 : (List Int)) (v3 : (List Int)) (a0 : Z2k) (v1 : Int) (b35 : Int → (List Int) → (List Int) → Option ((List Int) × (List Int))) (v40 : Int) : Option ((List Int) × (List Int)) :=
 if v2.length + [v40].length ≤ 1073741824 then
  if v3.length + [(IntKind.i64.wrap (v40 + (IntKind.i64.wrap ((a0.Calls.getD v1.toNat Zs).Long.tmod 32))))].length ≤ 1073741824 then
   b35 (IntKind.i64.wrap (v1 + 1)) (v2 ++ [v40]) (v3 ++ [(IntKind.i64.wrap (v40 + (IntKind.i64.wrap ((a0.Calls.getD v1.toNat Zs).Long.tmod 32))))])
  else none
 else none
def F122_j39 (K : Nat) (v1 : Int) (v2 : (List Int)) (v3 : (List Int)) (a0 : Z2k) (b35 : Int → (List Int) → (List Int) → Option ((List Int) × (List Int))) (v38 : Int) : Option ((List Int) × (List Int)) :=
 if (decide (v1 > 0)) = true then
  F122_j41 K v2 v3 a0 v1 b35 (IntKind.i64.wrap (v38 + (IntKind.i64.wrap ((a0.Calls.getD v1.toNat Zs).Wait.tmod 32))))
 else
  F122_j41 K v2 v3 a0 v1 b35 v38
def F122_l4 (K : Nat) (a0 : Z2k) (c8 : (List Int) → (List Int) → Option ((List Int) × (List Int))) : Nat → Int → (List Int) → (List Int) → Option ((List Int) × (List Int))
 | 0, _, _, _ => none
 | k4 + 1, v1, v2, v3 =>
  if (decide (v1 < (a0.Calls.length : Int))) = true then
   if (0 : Int) ≤ v1 ∧ v1 < a0.Calls.length then
    if (IntKind.i64.wrap (v1 + 1)) ≠ 0 then
     if (decide (((IntKind.i64.wrap (a0.Calls.getD v1.toNat Zs).Parent).tmod (IntKind.i64.wrap (v1 + 1))) < v1)) = true then
      if (0 : Int) ≤ ((IntKind.i64.wrap (a0.Calls.getD v1.toNat Zs).Parent).tmod (IntKind.i64.wrap (v1 + 1))) ∧ ((IntKind.i64.wrap (a0.Calls.getD v1.toNat Zs).Parent).tmod (IntKind.i64.wrap (v1 + 1))) < (v2.length : Nat) then
       if ((IntKind.i64.wrap (a0.Calls.getD v1.toNat Zs).Parent).tmod (IntKind.i64.wrap (v1 + 1))).toNat < v2.length then
        F122_j39 K v1 v2 v3 a0 (F122_l4 K a0 c8 k4) (v2.getD ((IntKind.i64.wrap (a0.Calls.getD v1.toNat Zs).Parent).tmod (IntKind.i64.wrap (v1 + 1))).toNat 0)
       else none
      else none
     else
      F122_j39 K v1 v2 v3 a0 (F122_l4 K a0 c8 k4) (IntKind.i64.wrap (1000 + (IntKind.i64.wrap (a0.Start.tmod 32))))
    else none
   else none
  else
   c8 v2 v3
def F122 (K : Nat) (a0 : Z2k) : Option ((List Int) × (List Int)) :=
 F122_l4 K a0 (F122_c7 K a0) K 0 [] []
def F154 (K : Nat) (a0 : Z38) : Option ((List Z1z)) :=
 if (0 : Int) ≤ ((IntKind.u8.wrap (a0.Tag.tdiv 8)).tmod 3) ∧ ((IntKind.u8.wrap (a0.Tag.tdiv 8)).tmod 3) < (([[97], [98], [119, 101, 115, 116, 32, 49]]).length : Nat) then
  if ((IntKind.u8.wrap (a0.Tag.tdiv 8)).tmod 3).toNat < ([[97], [98], [119, 101, 115, 116, 32, 49]]).length then
   if (0 : Int) ≤ 0 ∧ 0 ≤ (a0.Tag.tmod 4) ∧ (a0.Tag.tmod 4) ≤ (([(⟨[111, 107], (⟨3, [], (IntKind.i64.wrap ((IntKind.u8.wrap (a0.Tag.tdiv 4)).tmod 2))⟩ : Z2r)⟩ : Z1z), (⟨[115, 105, 122, 101], (⟨2, [], (IntKind.i64.wrap ((IntKind.i64.wrap a0.Tag) - 100))⟩ : Z2r)⟩ : Z1z), (⟨[122, 111, 110, 101], (⟨1, (([[97], [98], [119, 101, 115, 116, 32, 49]]).getD ((IntKind.u8.wrap (a0.Tag.tdiv 8)).tmod 3).toNat []), 0⟩ : Z2r)⟩ : Z1z)]).length : Nat) then
    if (0 + (0 : Int).toNat) + ((a0.Tag.tmod 4).toNat - (0 : Int).toNat) ≤ ([(⟨[111, 107], (⟨3, [], (IntKind.i64.wrap ((IntKind.u8.wrap (a0.Tag.tdiv 4)).tmod 2))⟩ : Z2r)⟩ : Z1z), (⟨[115, 105, 122, 101], (⟨2, [], (IntKind.i64.wrap ((IntKind.i64.wrap a0.Tag) - 100))⟩ : Z2r)⟩ : Z1z), (⟨[122, 111, 110, 101], (⟨1, (([[97], [98], [119, 101, 115, 116, 32, 49]]).getD ((IntKind.u8.wrap (a0.Tag.tdiv 8)).tmod 3).toNat []), 0⟩ : Z2r)⟩ : Z1z)]).length then
     some ((([(⟨[111, 107], (⟨3, [], (IntKind.i64.wrap ((IntKind.u8.wrap (a0.Tag.tdiv 4)).tmod 2))⟩ : Z2r)⟩ : Z1z), (⟨[115, 105, 122, 101], (⟨2, [], (IntKind.i64.wrap ((IntKind.i64.wrap a0.Tag) - 100))⟩ : Z2r)⟩ : Z1z), (⟨[122, 111, 110, 101], (⟨1, (([[97], [98], [119, 101, 115, 116, 32, 49]]).getD ((IntKind.u8.wrap (a0.Tag.tdiv 8)).tmod 3).toNat []), 0⟩ : Z2r)⟩ : Z1z)]).drop (0 + (0 : Int).toNat)).take ((a0.Tag.tmod 4).toNat - (0 : Int).toNat))
    else none
   else none
  else none
 else none
def F123_j21 (K : Nat) (a0 : Z1x) (a1 : Int) (a2 : Int) (v16 : Zm) (v20 : (List Z2j)) : Option (Zm) :=
 (F154 K ((a0.Trees.getD a1.toNat Zz).Calls.getD a2.toNat Zs)).bind fun v23 =>
  some (⟨v16.Trace, v16.Id, v16.Parent, v16.Revision, v16.Clock, v16.Kind, v16.Service, v16.Version, v16.Operation, v16.Start, v16.End, v16.Error, v23, v20⟩ : Zm)
def F123_j17 (K : Nat) (a0 : Z1x) (a1 : Int) (a2 : Int) (a3 : (List Int)) (v16 : Zm) : Option (Zm) :=
 if (decide ((IntKind.i64.wrap (((a0.Trees.getD a1.toNat Zz).Calls.getD a2.toNat Zs).Link.tmod 16)) < a2)) = true then
  if (0 : Int) ≤ (IntKind.i64.wrap (((a0.Trees.getD a1.toNat Zz).Calls.getD a2.toNat Zs).Link.tmod 16)) ∧ (IntKind.i64.wrap (((a0.Trees.getD a1.toNat Zz).Calls.getD a2.toNat Zs).Link.tmod 16)) < a3.length then
   if (0 : Int) ≤ a2 ∧ a2 < a3.length then
    if (decide ((a3.getD (IntKind.i64.wrap (((a0.Trees.getD a1.toNat Zz).Calls.getD a2.toNat Zs).Link.tmod 16)).toNat 0) ≤ (a3.getD a2.toNat 0))) = true then
     F123_j21 K a0 a1 a2 v16 [(⟨v16.Trace, (IntKind.i64.wrap ((IntKind.i64.wrap (((a0.Trees.getD a1.toNat Zz).Calls.getD a2.toNat Zs).Link.tmod 16)) + 1))⟩ : Z2j)]
    else
     F123_j21 K a0 a1 a2 v16 v16.Links
   else none
  else none
 else
  (F154 K ((a0.Trees.getD a1.toNat Zz).Calls.getD a2.toNat Zs)).bind fun v25 =>
   some (⟨v16.Trace, v16.Id, v16.Parent, v16.Revision, v16.Clock, v16.Kind, v16.Service, v16.Version, v16.Operation, v16.Start, v16.End, v16.Error, v25, v16.Links⟩ : Zm)
def F123 (K : Nat) (a0 : Z1x) (a1 : Int) (a2 : Int) (a3 : (List Int)) (a4 : (List Int)) : Option (Zm) :=
 if (0 : Int) ≤ a1 ∧ a1 < a0.Trees.length then
  if (0 : Int) ≤ a2 ∧ a2 < (a0.Trees.getD a1.toNat Zz).Calls.length then
   (F82 K a0 a1).bind fun v4 =>
    (F153 K ((a0.Trees.getD a1.toNat Zz).Calls.getD a2.toNat Zs)).bind fun v6 =>
     if (0 : Int) ≤ a2 ∧ a2 < a3.length then
      if (0 : Int) ≤ a2 ∧ a2 < a4.length then
       if (0 : Int) ≤ (((a0.Trees.getD a1.toNat Zz).Calls.getD a2.toNat Zs).Service.tmod 4) ∧ (((a0.Trees.getD a1.toNat Zz).Calls.getD a2.toNat Zs).Service.tmod 4) < (([[97, 112, 105], [100, 98], [119, 101, 98], [99, 97, 99, 104, 101]]).length : Nat) then
        if (((a0.Trees.getD a1.toNat Zz).Calls.getD a2.toNat Zs).Service.tmod 4).toNat < ([[97, 112, 105], [100, 98], [119, 101, 98], [99, 97, 99, 104, 101]]).length then
         if (0 : Int) ≤ (((a0.Trees.getD a1.toNat Zz).Calls.getD a2.toNat Zs).Version.tmod 3) ∧ (((a0.Trees.getD a1.toNat Zz).Calls.getD a2.toNat Zs).Version.tmod 3) < (([[118, 49], [118, 50], []]).length : Nat) then
          if (((a0.Trees.getD a1.toNat Zz).Calls.getD a2.toNat Zs).Version.tmod 3).toNat < ([[118, 49], [118, 50], []]).length then
           if (0 : Int) ≤ (((a0.Trees.getD a1.toNat Zz).Calls.getD a2.toNat Zs).Operation.tmod 3) ∧ (((a0.Trees.getD a1.toNat Zz).Calls.getD a2.toNat Zs).Operation.tmod 3) < (([[103, 101, 116], [112, 117, 116], [108, 105, 115, 116]]).length : Nat) then
            if (((a0.Trees.getD a1.toNat Zz).Calls.getD a2.toNat Zs).Operation.tmod 3).toNat < ([[103, 101, 116], [112, 117, 116], [108, 105, 115, 116]]).length then
             if (IntKind.i64.wrap (a2 + 1)) ≠ 0 then
              if (decide (((IntKind.i64.wrap ((a0.Trees.getD a1.toNat Zz).Calls.getD a2.toNat Zs).Parent).tmod (IntKind.i64.wrap (a2 + 1))) < a2)) = true then
               F123_j17 K a0 a1 a2 a3 (⟨v4, (IntKind.i64.wrap (a2 + 1)), (IntKind.i64.wrap (((IntKind.i64.wrap ((a0.Trees.getD a1.toNat Zz).Calls.getD a2.toNat Zs).Parent).tmod (IntKind.i64.wrap (a2 + 1))) + 1)), 0, (IntKind.i64.wrap (1 + (IntKind.i64.wrap (((a0.Trees.getD a1.toNat Zz).Calls.getD a2.toNat Zs).Clock.tmod 4)))), v6, (([[97, 112, 105], [100, 98], [119, 101, 98], [99, 97, 99, 104, 101]]).getD (((a0.Trees.getD a1.toNat Zz).Calls.getD a2.toNat Zs).Service.tmod 4).toNat []), (([[118, 49], [118, 50], []]).getD (((a0.Trees.getD a1.toNat Zz).Calls.getD a2.toNat Zs).Version.tmod 3).toNat []), (([[103, 101, 116], [112, 117, 116], [108, 105, 115, 116]]).getD (((a0.Trees.getD a1.toNat Zz).Calls.getD a2.toNat Zs).Operation.tmod 3).toNat []), (a3.getD a2.toNat 0), (a4.getD a2.toNat 0), ((a0.Trees.getD a1.toNat Zz).Calls.getD a2.toNat Zs).Fail, [], []⟩ : Zm)
              else
               if (decide (a2 > 0)) = true then
                F123_j17 K a0 a1 a2 a3 (⟨v4, (IntKind.i64.wrap (a2 + 1)), 100, 0, (IntKind.i64.wrap (1 + (IntKind.i64.wrap (((a0.Trees.getD a1.toNat Zz).Calls.getD a2.toNat Zs).Clock.tmod 4)))), v6, (([[97, 112, 105], [100, 98], [119, 101, 98], [99, 97, 99, 104, 101]]).getD (((a0.Trees.getD a1.toNat Zz).Calls.getD a2.toNat Zs).Service.tmod 4).toNat []), (([[118, 49], [118, 50], []]).getD (((a0.Trees.getD a1.toNat Zz).Calls.getD a2.toNat Zs).Version.tmod 3).toNat []), (([[103, 101, 116], [112, 117, 116], [108, 105, 115, 116]]).getD (((a0.Trees.getD a1.toNat Zz).Calls.getD a2.toNat Zs).Operation.tmod 3).toNat []), (a3.getD a2.toNat 0), (a4.getD a2.toNat 0), ((a0.Trees.getD a1.toNat Zz).Calls.getD a2.toNat Zs).Fail, [], []⟩ : Zm)
               else
                F123_j17 K a0 a1 a2 a3 (⟨v4, (IntKind.i64.wrap (a2 + 1)), 0, 0, (IntKind.i64.wrap (1 + (IntKind.i64.wrap (((a0.Trees.getD a1.toNat Zz).Calls.getD a2.toNat Zs).Clock.tmod 4)))), v6, (([[97, 112, 105], [100, 98], [119, 101, 98], [99, 97, 99, 104, 101]]).getD (((a0.Trees.getD a1.toNat Zz).Calls.getD a2.toNat Zs).Service.tmod 4).toNat []), (([[118, 49], [118, 50], []]).getD (((a0.Trees.getD a1.toNat Zz).Calls.getD a2.toNat Zs).Version.tmod 3).toNat []), (([[103, 101, 116], [112, 117, 116], [108, 105, 115, 116]]).getD (((a0.Trees.getD a1.toNat Zz).Calls.getD a2.toNat Zs).Operation.tmod 3).toNat []), (a3.getD a2.toNat 0), (a4.getD a2.toNat 0), ((a0.Trees.getD a1.toNat Zz).Calls.getD a2.toNat Zs).Fail, [], []⟩ : Zm)
             else none
            else none
           else none
          else none
         else none
        else none
       else none
      else none
     else none
  else none
 else none
def F124 (K : Nat) (a0 : Z1x) (a1 : Int) : Option (Int) :=
 if (0 : Int) ≤ ((IntKind.u64.wrap ((IntKind.u64.wrap a1) + 3)).tmod 4) ∧ ((IntKind.u64.wrap ((IntKind.u64.wrap a1) + 3)).tmod 4) < (4 : Nat) then
  some ((IntKind.i64.wrap (([a0.Offsets.e0, a0.Offsets.e1, a0.Offsets.e2, a0.Offsets.e3] : List Int).getD ((IntKind.u64.wrap ((IntKind.u64.wrap a1) + 3)).tmod 4).toNat 0)).tmod 21)
 else none
def F83_c8 (K : Nat) (v7 : (List Zm)) : Option ((List Zm)) :=
 some v7
def F83_j15 (K : Nat) (v5 : (List Zm)) (b10 : Int → (List Zm) → Option ((List Zm))) (v4 : Int) (v14 : Zm) : Option ((List Zm)) :=
 if v5.length + [v14].length ≤ 1073741824 then
  b10 (IntKind.i64.wrap (v4 + 1)) (v5 ++ [v14])
 else none
def F83_j22 (K : Nat) (v5 : (List Zm)) (b10 : Int → (List Zm) → Option ((List Zm))) (v4 : Int) (v13 : Zm) (v21 : Int) : Option ((List Zm)) :=
 F83_j15 K v5 b10 v4 (⟨v13.Trace, v13.Id, v13.Parent, v13.Revision, v13.Clock, v13.Kind, v13.Service, v13.Version, v13.Operation, (IntKind.i64.wrap (v13.Start + v21)), (IntKind.i64.wrap (v13.End + v21)), v13.Error, v13.Attrs, v13.Links⟩ : Zm)
def F83_j20 (K : Nat) (v5 : (List Zm)) (b10 : Int → (List Zm) → Option ((List Zm))) (v4 : Int) (v13 : Zm) (v18 : Int) (v19 : Bool) : Option ((List Zm)) :=
 if v19 = true then
  F83_j22 K v5 b10 v4 v13 (IntKind.i64.wrap (v18 + 500))
 else
  F83_j22 K v5 b10 v4 v13 v18
def F83_l6 (K : Nat) (a1 : Int) (a0 : Z1x) (v3 : (List Int) × (List Int)) (a2 : Bool) (c9 : (List Zm) → Option ((List Zm))) : Nat → Int → (List Zm) → Option ((List Zm))
 | 0, _, _ => none
 | k6 + 1, v4, v5 =>
  if (0 : Int) ≤ a1 ∧ a1 < a0.Trees.length then
   if (decide (v4 < ((a0.Trees.getD a1.toNat Zz).Calls.length : Int))) = true then
    (F123 K a0 a1 v4 v3.1 v3.2).bind fun v13 =>
     if (!a2) = true then
      (F124 K a0 v13.Clock).bind fun v18 =>
       if (decide (a0.Wrong > 0)) = true then
        if (((IntKind.i64.wrap a0.Wrong).tmod 8) == v4) = true then
         F83_j20 K v5 (F83_l6 K a1 a0 v3 a2 c9 k6) v4 v13 v18 (((IntKind.i64.wrap ((IntKind.i64.wrap a0.Wrong).tdiv 8)).tmod 3) == a1)
        else
         F83_j20 K v5 (F83_l6 K a1 a0 v3 a2 c9 k6) v4 v13 v18 false
       else
        F83_j20 K v5 (F83_l6 K a1 a0 v3 a2 c9 k6) v4 v13 v18 false
     else
      F83_j15 K v5 (F83_l6 K a1 a0 v3 a2 c9 k6) v4 v13
   else
    c9 v5
  else none
def F83 (K : Nat) (a0 : Z1x) (a1 : Int) (a2 : Bool) : Option ((List Zm)) :=
 if (0 : Int) ≤ a1 ∧ a1 < a0.Trees.length then
  (F122 K (a0.Trees.getD a1.toNat Zz)).bind fun v3 =>
   F83_l6 K a1 a0 v3 a2 (F83_c8 K) K 0 []
 else none
def F39_c5 (K : Nat) (v4 : (List Zv)) : Option ((List Zv)) :=
 some v4
def F39_j9 (K : Nat) (b7 : Int → (List Zv) → Option ((List Zv))) (v1 : Int) (v8 : (List Zv)) : Option ((List Zv)) :=
 b7 (IntKind.i64.wrap (v1 + 1)) v8
def F39_c18 (K : Nat) (v2 : (List Zv)) (v12 : Int) (v14 : (List Zm)) (b7 : Int → (List Zv) → Option ((List Zv))) (v1 : Int) (v17 : Int) : Option ((List Zv)) :=
 if (0 : Int) ≤ 0 ∧ 0 ≤ v17 ∧ v17 ≤ (v2.length : Nat) then
  if (0 + (0 : Int).toNat) + (v17.toNat - (0 : Int).toNat) ≤ v2.length then
   if (0 + (0 : Int).toNat) + (v17.toNat - (0 : Int).toNat) ≤ v2.length then
    if ([] : List Zv).length + ((v2.drop (0 + (0 : Int).toNat)).take (v17.toNat - (0 : Int).toNat)).length ≤ 1073741824 then
     if ((v2.drop (0 + (0 : Int).toNat)).take (v17.toNat - (0 : Int).toNat)).length + [(⟨v12, 1, v14⟩ : Zv)].length ≤ 1073741824 then
      if (0 : Int) ≤ v17 ∧ v17 ≤ (v2.length : Int) ∧ (v2.length : Int) ≤ (v2.length : Nat) then
       if (0 + v17.toNat) + ((v2.length : Int).toNat - v17.toNat) ≤ v2.length then
        if (0 + v17.toNat) + ((v2.length : Int).toNat - v17.toNat) ≤ v2.length then
         if (((v2.drop (0 + (0 : Int).toNat)).take (v17.toNat - (0 : Int).toNat)) ++ [(⟨v12, 1, v14⟩ : Zv)]).length + ((v2.drop (0 + v17.toNat)).take ((v2.length : Int).toNat - v17.toNat)).length ≤ 1073741824 then
          F39_j9 K b7 v1 ((((v2.drop (0 + (0 : Int).toNat)).take (v17.toNat - (0 : Int).toNat)) ++ [(⟨v12, 1, v14⟩ : Zv)]) ++ ((v2.drop (0 + v17.toNat)).take ((v2.length : Int).toNat - v17.toNat)))
         else none
        else none
       else none
      else none
     else none
    else none
   else none
  else none
 else none
def F39_l16 (K : Nat) (v2 : (List Zv)) (v12 : Int) (c19 : Int → Option ((List Zv))) : Nat → Int → Option ((List Zv))
 | 0, _ => none
 | k16 + 1, v15 =>
  if (decide (v15 > 0)) = true then
   if (0 : Int) ≤ (IntKind.i64.wrap (v15 - 1)) ∧ (IntKind.i64.wrap (v15 - 1)) < (v2.length : Nat) then
    if (IntKind.i64.wrap (v15 - 1)).toNat < v2.length then
     if (decide ((v2.getD (IntKind.i64.wrap (v15 - 1)).toNat Zn).Id > v12)) = true then
      (F39_l16 K v2 v12 c19 k16) (IntKind.i64.wrap (v15 - 1))
     else
      c19 v15
    else none
   else none
  else
   c19 v15
def F39_l3 (K : Nat) (a0 : Z1x) (c6 : (List Zv) → Option ((List Zv))) : Nat → Int → (List Zv) → Option ((List Zv))
 | 0, _, _ => none
 | k3 + 1, v1, v2 =>
  if (decide (v1 < (a0.Trees.length : Int))) = true then
   if (0 : Int) ≤ v1 ∧ v1 < a0.Trees.length then
    if (((a0.Trees.getD v1.toNat Zz).Calls.length : Int) == 0) = true then
     F39_j9 K (F39_l3 K a0 c6 k3) v1 v2
    else
     (F82 K a0 v1).bind fun v12 =>
      (F83 K a0 v1 false).bind fun v14 =>
       F39_l16 K v2 v12 (F39_c18 K v2 v12 v14 (F39_l3 K a0 c6 k3) v1) K (v2.length : Int)
   else none
  else
   c6 v2
def F39 (K : Nat) (a0 : Z1x) : Option ((List Zv)) :=
 F39_l3 K a0 (F39_c5 K) K 0 []
def F13_c7 (K : Nat) (v6 : (List Zv)) : Option ((List Zv)) :=
 some v6
def F13_l5 (K : Nat) (a1 : A3_Int) (c8 : (List Zv) → Option ((List Zv))) : Nat → Int → (List Zv) → Option ((List Zv))
 | 0, _, _ => none
 | k5 + 1, v3, v4 =>
  if (decide (v3 < (v4.length : Int))) = true then
   if (0 : Int) ≤ (v3.tmod 3) ∧ (v3.tmod 3) < (3 : Nat) then
    if (0 : Int) ≤ v3 ∧ v3 < (v4.length : Nat) then
     if v3.toNat < v4.length then
      (F13_l5 K a1 c8 k5) (IntKind.i64.wrap (v3 + 1)) (v4.set v3.toNat (⟨(v4.getD v3.toNat Zn).Id, (IntKind.i64.wrap (1 + (IntKind.i64.wrap ((([a1.e0, a1.e1, a1.e2] : List Int).getD (v3.tmod 3).toNat 0).tmod 8)))), (v4.getD v3.toNat Zn).Spans⟩ : Zv))
     else none
    else none
   else none
  else
   c8 v4
def F13 (K : Nat) (a0 : Z1x) (a1 : A3_Int) : Option ((List Zv)) :=
 (F39 K a0).bind fun v2 =>
  F13_l5 K a1 (F13_c7 K) K 0 v2
end Go.AM.TopZ
