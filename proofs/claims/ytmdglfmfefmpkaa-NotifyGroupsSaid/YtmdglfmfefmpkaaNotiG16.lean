/- What these functions compute, each with its walk: F8. -/
import Derived.Test.YtmdglfmfefmpkaaNotiT
import Derived.Test.YtmdglfmfefmpkaaNotiG2
import Derived.Test.YtmdglfmfefmpkaaNotiG3
import Derived.Test.YtmdglfmfefmpkaaNotiG7
namespace Go.AM.Noti
open Go Go.AM Go.Proofs
set_option maxRecDepth 100000
set_option maxHeartbeats 2000000
def F8_j22 (K : Nat) (v21 : Bool) : Option (Bool) :=
 some v21
noncomputable def F8_c15 (K : Nat) (v4 : Zm) (v8 : (List Zt)) (v14 : (List Tnotify_Ack)) : Option (Bool) :=
 (F27 K v4 255).bind fun v18 =>
  (F27 K (⟨v4.Policy, v8, v4.Silences, v14⟩ : Zm) 255).bind fun v20 =>
   (F29 K v18.1 v20.1).bind fun v24 =>
    if v24 = true then
     if (v18.2 == 0) = true then
      F8_j22 K (v20.2 == 0)
     else
      F8_j22 K false
    else
     F8_j22 K false
def F8_l13 (K : Nat) (v4 : Zm) (c16 : (List Tnotify_Ack) → Option (Bool)) : Nat → Int → (List Tnotify_Ack) → Option (Bool)
 | 0, _, _ => none
 | k13 + 1, v11, v12 =>
  if (decide (v11 ≥ 0)) = true then
   if (0 : Int) ≤ v11 ∧ v11 < v4.Acks.length then
    if (0 : Int) ≤ v11 ∧ v11 < v4.Acks.length then
     if v12.length + [(v4.Acks.getD v11.toNat Z14), (v4.Acks.getD v11.toNat Z14)].length ≤ 1073741824 then
      (F8_l13 K v4 c16 k13) (IntKind.i64.wrap (v11 - 1)) (v12 ++ [(v4.Acks.getD v11.toNat Z14), (v4.Acks.getD v11.toNat Z14)])
     else none
    else none
   else none
  else
   c16 v12
noncomputable def F8_c9 (K : Nat) (v4 : Zm) (v8 : (List Zt)) : Option (Bool) :=
 F8_l13 K v4 (F8_c15 K v4 v8) K (IntKind.i64.wrap ((v4.Acks.length : Int) - 1)) []
def F8_l7 (K : Nat) (v4 : Zm) (c10 : (List Zt) → Option (Bool)) : Nat → Int → (List Zt) → Option (Bool)
 | 0, _, _ => none
 | k7 + 1, v5, v6 =>
  if (decide (v5 ≥ 0)) = true then
   if (0 : Int) ≤ v5 ∧ v5 < v4.Firings.length then
    if (0 : Int) ≤ v5 ∧ v5 < v4.Firings.length then
     if v6.length + [(v4.Firings.getD v5.toNat Zi), (v4.Firings.getD v5.toNat Zi)].length ≤ 1073741824 then
      (F8_l7 K v4 c10 k7) (IntKind.i64.wrap (v5 - 1)) (v6 ++ [(v4.Firings.getD v5.toNat Zi), (v4.Firings.getD v5.toNat Zi)])
     else none
    else none
   else none
  else
   c10 v6
noncomputable def F8 (K : Nat) (a0 : Z1e) : Option (Bool) :=
 (F13 K).bind fun v2 =>
  if (!v2) = true then
   some false
  else
   (F14 K a0).bind fun v4 =>
    F8_l7 K v4 (F8_c9 K v4) K (IntKind.i64.wrap ((v4.Firings.length : Int) - 1)) []
end Go.AM.Noti
