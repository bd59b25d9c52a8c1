/- What these functions compute, each with its walk: F5. -/
import Derived.Test.YtmdglfmfefmpkaaNotiT
import Derived.Test.YtmdglfmfefmpkaaNotiG1
import Derived.Test.YtmdglfmfefmpkaaNotiG2
import Derived.Test.YtmdglfmfefmpkaaNotiG3
import Derived.Test.YtmdglfmfefmpkaaNotiG5
import Derived.Test.YtmdglfmfefmpkaaNotiG7
namespace Go.AM.Noti
open Go Go.AM Go.Proofs
set_option maxRecDepth 100000
set_option maxHeartbeats 2000000
def F5_c13 (K : Nat) : Option (Bool) :=
 some true
def F5_j23 (K : Nat) (b15 : Int → Option (Bool)) (v11 : Int) (v22 : Bool) : Option (Bool) :=
 if v22 = true then
  some false
 else
  b15 (IntKind.i64.wrap (v11 + 1))
def F5_l12 (K : Nat) (v8 : (List Z3) × Int) (v4 : Zm) (v6 : (List Z3) × Int) (a2 : Int) (a1 : Int) (c14 : Option (Bool)) : Nat → Int → Option (Bool)
 | 0, _ => none
 | k12 + 1, v11 =>
  if (decide (v11 < (v8.1.length : Int))) = true then
   if (0 : Int) ≤ v11 ∧ v11 < v8.1.length then
    (F24 K v4 (v8.1.getD v11.toNat Zb).Group).bind fun v18 =>
     if (0 : Int) ≤ v11 ∧ v11 < v8.1.length then
      (F31 K v18 (v8.1.getD v11.toNat Zb).At).bind fun v21 =>
       if (0 : Int) ≤ v11 ∧ v11 < v8.1.length then
        if ((decide (v11 < (v6.1.length : Int))) != (decide ((v8.1.getD v11.toNat Zb).At < (IntKind.i64.wrap (if a2 < a1 then a2 else a1))))) = true then
         F5_j23 K (F5_l12 K v8 v4 v6 a2 a1 c14 k12) v11 true
        else
         if (0 : Int) ≤ v11 ∧ v11 < v8.1.length then
          if (decide ((v8.1.getD v11.toNat Zb).At ≥ (IntKind.i64.wrap (if a2 > a1 then a2 else a1)))) = true then
           F5_j23 K (F5_l12 K v8 v4 v6 a2 a1 c14 k12) v11 true
          else
           if (0 : Int) ≤ v11 ∧ v11 < v8.1.length then
            if (v21 == ((v8.1.getD v11.toNat Zb).Kind == 3)) = true then
             F5_j23 K (F5_l12 K v8 v4 v6 a2 a1 c14 k12) v11 true
            else
             if (0 : Int) ≤ v11 ∧ v11 < v8.1.length then
              F5_j23 K (F5_l12 K v8 v4 v6 a2 a1 c14 k12) v11 (v21 != (decide (((v8.1.getD v11.toNat Zb).Rules.length : Int) > 0)))
             else none
           else none
         else none
       else none
     else none
   else none
  else
   c14
def F5_j10 (K : Nat) (v8 : (List Z3) × Int) (v4 : Zm) (v6 : (List Z3) × Int) (a2 : Int) (a1 : Int) (v9 : Bool) : Option (Bool) :=
 if v9 = true then
  some false
 else
  F5_l12 K v8 v4 v6 a2 a1 (F5_c13 K) K 0
noncomputable def F5 (K : Nat) (a0 : Z1e) (a1 : Int) (a2 : Int) : Option (Bool) :=
 (F13 K).bind fun v2 =>
  if (!v2) = true then
   some false
  else
   (F14 K a0).bind fun v4 =>
    (F27 K v4 (IntKind.i64.wrap (if a2 < a1 then a2 else a1))).bind fun v6 =>
     (F27 K v4 (IntKind.i64.wrap (if a2 > a1 then a2 else a1))).bind fun v8 =>
      if (v6.2 != 0) = true then
       F5_j10 K v8 v4 v6 a2 a1 true
      else
       if (v8.2 != 0) = true then
        F5_j10 K v8 v4 v6 a2 a1 true
       else
        if (decide ((v6.1.length : Int) > (v8.1.length : Int))) = true then
         F5_j10 K v8 v4 v6 a2 a1 true
        else
         if (0 : Int) ≤ 0 ∧ 0 ≤ (v6.1.length : Int) ∧ (v6.1.length : Int) ≤ v8.1.length then
          (F29 K v6.1 (v8.1.take (v6.1.length : Int).toNat)).bind fun v30 =>
           F5_j10 K v8 v4 v6 a2 a1 (!v30)
         else none
end Go.AM.Noti
