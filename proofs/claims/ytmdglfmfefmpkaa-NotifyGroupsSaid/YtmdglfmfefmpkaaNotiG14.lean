/- What these functions compute, each with its walk: F6. -/
import Derived.Test.YtmdglfmfefmpkaaNotiT
import Derived.Test.YtmdglfmfefmpkaaNotiG2
import Derived.Test.YtmdglfmfefmpkaaNotiG3
import Derived.Test.YtmdglfmfefmpkaaNotiG4
namespace Go.AM.Noti
open Go Go.AM Go.Proofs
set_option maxRecDepth 100000
set_option maxHeartbeats 2000000
def F6_c19 (K : Nat) (v12 : (List Z3) × Int) (v18 : Int) : Option (Bool) :=
 some (v18 == (v12.1.length : Int))
def F6_j23 (K : Nat) (b21 : Int → Int → Option (Bool)) (v16 : Int) (v22 : Int) : Option (Bool) :=
 b21 v22 (IntKind.i64.wrap (v16 + 1))
def F6_l17 (K : Nat) (v10 : (List Z3) × Int) (v12 : (List Z3) × Int) (a1 : Int) (a2 : Int) (c20 : Int → Option (Bool)) : Nat → Int → Int → Option (Bool)
 | 0, _, _ => none
 | k17 + 1, v15, v16 =>
  if (decide (v16 < (v10.1.length : Int))) = true then
   if (decide (v15 < (v12.1.length : Int))) = true then
    if (0 : Int) ≤ v16 ∧ v16 < v10.1.length then
     if (0 : Int) ≤ v15 ∧ v15 < v12.1.length then
      (F32 K (v10.1.getD v16.toNat Zb) (v12.1.getD v15.toNat Zb)).bind fun v27 =>
       if v27 = true then
        F6_j23 K (F6_l17 K v10 v12 a1 a2 c20 k17) v16 (IntKind.i64.wrap (v15 + 1))
       else
        if (0 : Int) ≤ v16 ∧ v16 < v10.1.length then
         if (!((v10.1.getD v16.toNat Zb).Group == (([[], [97, 112, 105], [100, 98], [119, 101, 98], [108, 97, 116, 101, 110, 99, 121], [101, 114, 114, 111, 114, 115], [116, 114, 97, 102, 102, 105, 99]] : List Str).getD (a1.tmod 7).toNat []))) = true then
          some false
         else
          if (0 : Int) ≤ v16 ∧ v16 < v10.1.length then
           if (decide ((v10.1.getD v16.toNat Zb).At < (IntKind.i64.wrap (a2.tmod 128)))) = true then
            some false
           else
            F6_j23 K (F6_l17 K v10 v12 a1 a2 c20 k17) v16 v15
          else none
        else none
     else none
    else none
   else
    if (0 : Int) ≤ v16 ∧ v16 < v10.1.length then
     if (!((v10.1.getD v16.toNat Zb).Group == (([[], [97, 112, 105], [100, 98], [119, 101, 98], [108, 97, 116, 101, 110, 99, 121], [101, 114, 114, 111, 114, 115], [116, 114, 97, 102, 102, 105, 99]] : List Str).getD (a1.tmod 7).toNat []))) = true then
      some false
     else
      if (0 : Int) ≤ v16 ∧ v16 < v10.1.length then
       if (decide ((v10.1.getD v16.toNat Zb).At < (IntKind.i64.wrap (a2.tmod 128)))) = true then
        some false
       else
        F6_j23 K (F6_l17 K v10 v12 a1 a2 c20 k17) v16 v15
      else none
    else none
  else
   c20 v15
def F6_j14 (K : Nat) (v10 : (List Z3) × Int) (v12 : (List Z3) × Int) (a1 : Int) (a2 : Int) (v13 : Bool) : Option (Bool) :=
 if v13 = true then
  some false
 else
  F6_l17 K v10 v12 a1 a2 (F6_c19 K v12) K 0 0
noncomputable def F6 (K : Nat) (a0 : Z1e) (a1 : Int) (a2 : Int) : Option (Bool) :=
 (F13 K).bind fun v2 =>
  if (!v2) = true then
   some false
  else
   (F14 K a0).bind fun v4 =>
    if (0 : Int) ≤ (a1.tmod 7) ∧ (a1.tmod 7) < (([[], [97, 112, 105], [100, 98], [119, 101, 98], [108, 97, 116, 101, 110, 99, 121], [101, 114, 114, 111, 114, 115], [116, 114, 97, 102, 102, 105, 99]] : List Str).length : Nat) then
     if (a1.tmod 7).toNat < ([[], [97, 112, 105], [100, 98], [119, 101, 98], [108, 97, 116, 101, 110, 99, 121], [101, 114, 114, 111, 114, 115], [116, 114, 97, 102, 102, 105, 99]] : List Str).length then
      if ([] : List Tnotify_Ack).length + v4.Acks.length ≤ 1073741824 then
       if v4.Acks.length + ([(⟨(([[], [97, 112, 105], [100, 98], [119, 101, 98], [108, 97, 116, 101, 110, 99, 121], [101, 114, 114, 111, 114, 115], [116, 114, 97, 102, 102, 105, 99]] : List Str).getD (a1.tmod 7).toNat []), [101, 118, 101], (IntKind.i64.wrap (a2.tmod 128))⟩ : Tnotify_Ack)]).length ≤ 1073741824 then
        (F27 K v4 255).bind fun v10 =>
         (F27 K (⟨v4.Policy, v4.Firings, v4.Silences, (v4.Acks ++ ([(⟨(([[], [97, 112, 105], [100, 98], [119, 101, 98], [108, 97, 116, 101, 110, 99, 121], [101, 114, 114, 111, 114, 115], [116, 114, 97, 102, 102, 105, 99]] : List Str).getD (a1.tmod 7).toNat []), [101, 118, 101], (IntKind.i64.wrap (a2.tmod 128))⟩ : Tnotify_Ack)]))⟩ : Zm) 255).bind fun v12 =>
          if (v10.2 != 0) = true then
           F6_j14 K v10 v12 a1 a2 true
          else
           if (v12.2 != 0) = true then
            F6_j14 K v10 v12 a1 a2 true
           else
            F6_j14 K v10 v12 a1 a2 (decide ((v12.1.length : Int) > (v10.1.length : Int)))
       else none
      else none
     else none
    else none
end Go.AM.Noti
