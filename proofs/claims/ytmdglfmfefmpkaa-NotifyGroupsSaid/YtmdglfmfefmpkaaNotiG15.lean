/- What these functions compute, each with its walk: F7. -/
import Derived.Test.YtmdglfmfefmpkaaNotiT
import Derived.Test.YtmdglfmfefmpkaaNotiG2
import Derived.Test.YtmdglfmfefmpkaaNotiG3
import Derived.Test.YtmdglfmfefmpkaaNotiG7
namespace Go.AM.Noti
open Go Go.AM Go.Proofs
set_option maxRecDepth 100000
set_option maxHeartbeats 2000000
def F7_c21 (K : Nat) : Option (Bool) :=
 some true
def F7_j25 (K : Nat) (b23 : Int → Option (Bool)) (v19 : Int) (v24 : Bool) : Option (Bool) :=
 if v24 = true then
  some false
 else
  b23 (IntKind.i64.wrap (v19 + 1))
def F7_l20 (K : Nat) (v12 : (List Z3) × Int) (v6 : Z4) (c22 : Option (Bool)) : Nat → Int → Option (Bool)
 | 0, _ => none
 | k20 + 1, v19 =>
  if (decide (v19 < (v12.1.length : Int))) = true then
   if (0 : Int) ≤ v19 ∧ v19 < v12.1.length then
    if (decide ((v12.1.getD v19.toNat Zb).At ≥ v6.From)) = true then
     if (0 : Int) ≤ v19 ∧ v19 < v12.1.length then
      if (decide ((v12.1.getD v19.toNat Zb).At < v6.To)) = true then
       if (0 : Int) ≤ v19 ∧ v19 < v12.1.length then
        if ((v12.1.getD v19.toNat Zb).Kind != 3) = true then
         F7_j25 K (F7_l20 K v12 v6 c22 k20) v19 true
        else
         if (0 : Int) ≤ v19 ∧ v19 < v12.1.length then
          F7_j25 K (F7_l20 K v12 v6 c22 k20) v19 ((v12.1.getD v19.toNat Zb).At != v6.From)
         else none
       else none
      else
       F7_j25 K (F7_l20 K v12 v6 c22 k20) v19 false
     else none
    else
     F7_j25 K (F7_l20 K v12 v6 c22 k20) v19 false
   else none
  else
   c22
def F7_j18 (K : Nat) (v12 : (List Z3) × Int) (v6 : Z4) (v17 : Bool) : Option (Bool) :=
 if v17 = true then
  some false
 else
  F7_l20 K v12 v6 (F7_c21 K) K 0
noncomputable def F7 (K : Nat) (a0 : Z1e) (a1 : Int) (a2 : Int) : Option (Bool) :=
 (F13 K).bind fun v2 =>
  if (!v2) = true then
   some false
  else
   (F14 K a0).bind fun v4 =>
    (F33 K a1 a2).bind fun v6 =>
     if ([] : List Z1c).length + v4.Silences.length ≤ 1073741824 then
      if v4.Silences.length + ([(⟨50, [], [], v6⟩ : Z1c)]).length ≤ 1073741824 then
       if ([] : List Z1c).length + v4.Silences.length ≤ 1073741824 then
        if v4.Silences.length + ([(⟨50, [], [99, 97, 99, 104, 101], v6⟩ : Z1c)]).length ≤ 1073741824 then
         (F27 K (⟨v4.Policy, v4.Firings, (v4.Silences ++ ([(⟨50, [], [], v6⟩ : Z1c)])), v4.Acks⟩ : Zm) 255).bind fun v12 =>
          (F27 K (⟨v4.Policy, v4.Firings, (v4.Silences ++ ([(⟨50, [], [99, 97, 99, 104, 101], v6⟩ : Z1c)])), v4.Acks⟩ : Zm) 255).bind fun v14 =>
           (F27 K v4 255).bind fun v16 =>
            if (v12.2 != 0) = true then
             F7_j18 K v12 v6 true
            else
             if (v14.2 != 0) = true then
              F7_j18 K v12 v6 true
             else
              if (v16.2 != 0) = true then
               F7_j18 K v12 v6 true
              else
               (F29 K v14.1 v16.1).bind fun v31 =>
                F7_j18 K v12 v6 (!v31)
        else none
       else none
      else none
     else none
end Go.AM.Noti
