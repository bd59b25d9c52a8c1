/- What these functions compute, each with its walk: F76_i9, F76_i10, F76_i11, F75_i3, F34, F10. -/
import Derived.Test.YtmdglfmfefmpkaaNotiT
import Derived.Test.YtmdglfmfefmpkaaNotiG0
import Derived.Test.YtmdglfmfefmpkaaNotiG1
import Derived.Test.YtmdglfmfefmpkaaNotiG2
import Derived.Test.YtmdglfmfefmpkaaNotiG3
import Derived.Test.YtmdglfmfefmpkaaNotiG4
import Derived.Test.YtmdglfmfefmpkaaNotiG9
import Derived.Test.YtmdglfmfefmpkaaNotiG10
namespace Go.AM.Noti
open Go Go.AM Go.Proofs
set_option maxRecDepth 100000
set_option maxHeartbeats 2000000
def F76_i9 (K : Nat) (a0 : Int) (a1 : Str) (a2 : Str) (a3 : Zm) (a4 : Int) (a5 : (List Str)) (a899 : Z3 → Nat → Z3 → Bool → Option (Nat × Z3 × Bool)) (a900 : Nat) (a901 : Z3) (a902 : Bool) : Option (Bool × Nat × Z3 × Bool) :=
 if a5.length + [a1].length ≤ 1073741824 then
  (F25 K a3 a2 a0).bind fun v7 =>
   if (decide (a0 < a4)) = true then
    some (true, a900, a901, a902)
   else
    (a899 (⟨a0, a2, 1, a1, v7⟩ : Z3) a900 a901 a902).bind fun v8 =>
     some ((Nat.beq v8.1 0), v8.1, (⟨v8.2.1.At, v8.2.1.Group, v8.2.1.Kind, v8.2.1.Who, v8.2.1.Rules⟩ : Z3), v8.2.2)
 else none
def F76_i10 (K : Nat) (a0 : Int) (a1 : Str) (a2 : Str) (a3 : Zm) (a4 : Int) (a5 : (List Str)) (a899 : Z3 → Nat → Z3 → Bool → Option (Nat × Z3 × Bool)) (a900 : Nat) (a901 : Z3) (a902 : Bool) : Option (Bool × Nat × Z3 × Bool) :=
 if a5.length + [a1].length ≤ 1073741824 then
  (F25 K a3 a2 a0).bind fun v7 =>
   if (decide (a0 < a4)) = true then
    some (true, a900, a901, a902)
   else
    (a899 (⟨a0, a2, 2, a1, v7⟩ : Z3) a900 a901 a902).bind fun v8 =>
     some ((Nat.beq v8.1 0), v8.1, (⟨v8.2.1.At, v8.2.1.Group, v8.2.1.Kind, v8.2.1.Who, v8.2.1.Rules⟩ : Z3), v8.2.2)
 else none
def F76_i11 (K : Nat) (a0 : Int) (a1 : Str) (a2 : Str) (a3 : Zm) (a4 : Int) (a899 : Z3 → Nat → Z3 → Bool → Option (Nat × Z3 × Bool)) (a900 : Nat) (a901 : Z3) (a902 : Bool) : Option (Bool × Nat × Z3 × Bool) :=
 if (decide (a0 < a4)) = true then
  some (true, a900, a901, a902)
 else
  (a899 (⟨a0, a2, 3, a1, []⟩ : Z3) a900 a901 a902).bind fun v5 =>
   some ((Nat.beq v5.1 0), v5.1, (⟨v5.2.1.At, v5.2.1.Group, v5.2.1.Kind, v5.2.1.Who, v5.2.1.Rules⟩ : Z3), v5.2.2)
def F75_i3_c33 (K : Nat) (v30 : Nat) (v31 : Z3) (v32 : Bool) : Option (Nat × Z3 × Bool) :=
 some (v30, v31, v32)
def F75_i3_l29 (K : Nat) (v24 : (List Str)) (a3 : Z4) (a2 : Str) (a1 : Zm) (a4 : Int) (a899 : Z3 → Nat → Z3 → Bool → Option (Nat × Z3 × Bool)) (c34 : Nat → Z3 → Bool → Option (Nat × Z3 × Bool)) : Nat → Int → Nat → Z3 → Bool → Option (Nat × Z3 × Bool)
 | 0, _, _, _, _ => none
 | k29 + 1, v25, v26, v27, v28 =>
  if (decide (v25 < (v24.length : Int))) = true then
   if (0 : Int) ≤ v25 ∧ v25 < (v24.length : Nat) then
    if v25.toNat < v24.length then
     (F76_i11 K a3.To (v24.getD v25.toNat []) a2 a1 a4 a899 v26 v27 v28).bind fun v39 =>
      if (!v39.1) = true then
       some (v39.2.1, v39.2.2.1, v39.2.2.2)
      else
       (F75_i3_l29 K v24 a3 a2 a1 a4 a899 c34 k29) (IntKind.i64.wrap (v25 + 1)) v39.2.1 v39.2.2.1 v39.2.2.2
    else none
   else none
  else
   c34 v26 v27 v28
def F75_i3_j20 (K : Nat) (a3 : Z4) (a2 : Str) (a1 : Zm) (a4 : Int) (a899 : Z3 → Nat → Z3 → Bool → Option (Nat × Z3 × Bool)) (v16 : Nat) (v17 : Z3) (v18 : Bool) (v19 : (List Str)) : Option (Nat × Z3 × Bool) :=
 (sortS v19).bind fun v22 =>
  (F50 K v22).bind fun v24 =>
   F75_i3_l29 K v24 a3 a2 a1 a4 a899 (F75_i3_c33 K) K 0 v16 v17 v18
def F75_i3_c54 (K : Nat) (a3 : Z4) (a2 : Str) (a1 : Zm) (a4 : Int) (a899 : Z3 → Nat → Z3 → Bool → Option (Nat × Z3 × Bool)) (v50 : Nat) (v51 : Z3) (v52 : Bool) (v53 : (List Str)) : Option (Nat × Z3 × Bool) :=
 F75_i3_j20 K a3 a2 a1 a4 a899 v50 v51 v52 v53
def F75_i3_l49 (K : Nat) (v2 : Int) (a1 : Zm) (a2 : Str) (a4 : Int) (a899 : Z3 → Nat → Z3 → Bool → Option (Nat × Z3 × Bool)) (c55 : Nat → Z3 → Bool → (List Str) → Option (Nat × Z3 × Bool)) : Nat → Int → Nat → Z3 → Bool → (List Str) → Option (Nat × Z3 × Bool)
 | 0, _, _, _, _, _ => none
 | k49 + 1, v44, v45, v46, v47, v48 =>
  if (decide (v44 < v2)) = true then
   (F76_i10 K v44 (a1.Policy.Steps.getD (IntKind.i64.wrap ((a1.Policy.Steps.length : Int) - 1)).toNat Zk).Who a2 a1 a4 v48 a899 v45 v46 v47).bind fun v58 =>
    if (!v58.1) = true then
     some (v58.2.1, v58.2.2.1, v58.2.2.2)
    else
     (F75_i3_l49 K v2 a1 a2 a4 a899 c55 k49) (IntKind.i64.wrap (v44 + a1.Policy.Repeat)) v58.2.1 v58.2.2.1 v58.2.2.2 (v48 ++ [(a1.Policy.Steps.getD (IntKind.i64.wrap ((a1.Policy.Steps.length : Int) - 1)).toNat Zk).Who])
  else
   c55 v45 v46 v47 v48
def F75_i3_j43 (K : Nat) (v2 : Int) (a1 : Zm) (a2 : Str) (a4 : Int) (a899 : Z3 → Nat → Z3 → Bool → Option (Nat × Z3 × Bool)) (a3 : Z4) (v9 : Nat) (v10 : Z3) (v11 : Bool) (v40 : (List Str)) (v42 : Int) : Option (Nat × Z3 × Bool) :=
 F75_i3_l49 K v2 a1 a2 a4 a899 (F75_i3_c54 K a3 a2 a1 a4 a899) K v42 v9 v10 v11 v40
def F75_i3_j41 (K : Nat) (a3 : Z4) (a1 : Zm) (a4 : Int) (v2 : Int) (a2 : Str) (a899 : Z3 → Nat → Z3 → Bool → Option (Nat × Z3 × Bool)) (v9 : Nat) (v10 : Z3) (v11 : Bool) (v40 : (List Str)) : Option (Nat × Z3 × Bool) :=
 if (decide ((IntKind.i64.wrap ((IntKind.i64.wrap (a3.From + (a1.Policy.Steps.getD (IntKind.i64.wrap ((a1.Policy.Steps.length : Int) - 1)).toNat Zk).After)) + a1.Policy.Repeat)) < a4)) = true then
  if a1.Policy.Repeat ≠ 0 then
   F75_i3_j43 K v2 a1 a2 a4 a899 a3 v9 v10 v11 v40 (IntKind.i64.wrap ((IntKind.i64.wrap ((IntKind.i64.wrap (a3.From + (a1.Policy.Steps.getD (IntKind.i64.wrap ((a1.Policy.Steps.length : Int) - 1)).toNat Zk).After)) + a1.Policy.Repeat)) + (IntKind.i64.wrap ((IntKind.i64.wrap ((IntKind.i64.wrap (a4 - (IntKind.i64.wrap ((IntKind.i64.wrap (a3.From + (a1.Policy.Steps.getD (IntKind.i64.wrap ((a1.Policy.Steps.length : Int) - 1)).toNat Zk).After)) + a1.Policy.Repeat)))).tdiv a1.Policy.Repeat)) * a1.Policy.Repeat))))
  else none
 else
  F75_i3_j43 K v2 a1 a2 a4 a899 a3 v9 v10 v11 v40 (IntKind.i64.wrap ((IntKind.i64.wrap (a3.From + (a1.Policy.Steps.getD (IntKind.i64.wrap ((a1.Policy.Steps.length : Int) - 1)).toNat Zk).After)) + a1.Policy.Repeat))
def F75_i3_c13 (K : Nat) (a1 : Zm) (a3 : Z4) (v2 : Int) (a4 : Int) (a2 : Str) (a899 : Z3 → Nat → Z3 → Bool → Option (Nat × Z3 × Bool)) (v9 : Nat) (v10 : Z3) (v11 : Bool) (v12 : (List Str)) : Option (Nat × Z3 × Bool) :=
 if (0 : Int) ≤ (IntKind.i64.wrap ((a1.Policy.Steps.length : Int) - 1)) ∧ (IntKind.i64.wrap ((a1.Policy.Steps.length : Int) - 1)) < a1.Policy.Steps.length then
  if (decide (a1.Policy.Repeat > 0)) = true then
   if (decide ((IntKind.i64.wrap ((IntKind.i64.wrap (a3.From + (a1.Policy.Steps.getD (IntKind.i64.wrap ((a1.Policy.Steps.length : Int) - 1)).toNat Zk).After)) + a1.Policy.Repeat)) < v2)) = true then
    if v12.length + [(a1.Policy.Steps.getD (IntKind.i64.wrap ((a1.Policy.Steps.length : Int) - 1)).toNat Zk).Who].length ≤ 1073741824 then
     F75_i3_j41 K a3 a1 a4 v2 a2 a899 v9 v10 v11 (v12 ++ [(a1.Policy.Steps.getD (IntKind.i64.wrap ((a1.Policy.Steps.length : Int) - 1)).toNat Zk).Who])
    else none
   else
    F75_i3_j41 K a3 a1 a4 v2 a2 a899 v9 v10 v11 v12
  else
   F75_i3_j20 K a3 a2 a1 a4 a899 v9 v10 v11 v12
 else none
def F75_i3_j66 (K : Nat) (b61 : Int → Nat → Z3 → Bool → (List Str) → Option (Nat × Z3 × Bool)) (v3 : Int) (v62 : Nat) (v63 : Z3) (v64 : Bool) (v65 : (List Str)) : Option (Nat × Z3 × Bool) :=
 b61 (IntKind.i64.wrap (v3 + 1)) v62 v63 v64 v65
def F75_i3_l8 (K : Nat) (a1 : Zm) (a3 : Z4) (v2 : Int) (a2 : Str) (a4 : Int) (a899 : Z3 → Nat → Z3 → Bool → Option (Nat × Z3 × Bool)) (c14 : Nat → Z3 → Bool → (List Str) → Option (Nat × Z3 × Bool)) : Nat → Int → Nat → Z3 → Bool → (List Str) → Option (Nat × Z3 × Bool)
 | 0, _, _, _, _, _ => none
 | k8 + 1, v3, v4, v5, v6, v7 =>
  if (decide (v3 < (a1.Policy.Steps.length : Int))) = true then
   if (0 : Int) ≤ v3 ∧ v3 < a1.Policy.Steps.length then
    if (decide ((IntKind.i64.wrap (a3.From + (a1.Policy.Steps.getD v3.toNat Zk).After)) < v2)) = true then
     (F76_i9 K (IntKind.i64.wrap (a3.From + (a1.Policy.Steps.getD v3.toNat Zk).After)) (a1.Policy.Steps.getD v3.toNat Zk).Who a2 a1 a4 v7 a899 v4 v5 v6).bind fun v69 =>
      if (!v69.1) = true then
       some (v69.2.1, v69.2.2.1, v69.2.2.2)
      else
       F75_i3_j66 K (F75_i3_l8 K a1 a3 v2 a2 a4 a899 c14 k8) v3 v69.2.1 v69.2.2.1 v69.2.2.2 (v7 ++ [(a1.Policy.Steps.getD v3.toNat Zk).Who])
    else
     F75_i3_j66 K (F75_i3_l8 K a1 a3 v2 a2 a4 a899 c14 k8) v3 v4 v5 v6 v7
   else none
  else
   c14 v4 v5 v6 v7
def F75_i3 (K : Nat) (a899 : Z3 → Nat → Z3 → Bool → Option (Nat × Z3 × Bool)) (a900 : Nat) (a901 : Z3) (a902 : Bool) (a1 : Zm) (a2 : Str) (a3 : Z4) (a4 : Int) : Option (Nat × Z3 × Bool) :=
 (F58 K a1 a2 a3).bind fun v2 =>
  F75_i3_l8 K a1 a3 v2 a2 a4 a899 (F75_i3_c13 K a1 a3 v2 a4 a2 a899) K 0 a900 a901 a902 []
def F34_c11 (K : Nat) (v9 : Z3) (v10 : Bool) : Option (Z3 × Bool × Int) :=
 some (v9, v10, 0)
def F34_c23 (K : Nat) (b13 : Int → Z3 → Bool → Option (Z3 × Bool × Int)) (v5 : Int) (v21 : Z3) (v22 : Bool) : Option (Z3 × Bool × Int) :=
 b13 (IntKind.i64.wrap (v5 + 1)) v21 v22
def F34_j31 (K : Nat) (b25 : Int → Z3 → Bool → Option (Z3 × Bool × Int)) (v17 : Int) (v29 : Z3) (v30 : Bool) : Option (Z3 × Bool × Int) :=
 b25 (IntKind.i64.wrap (v17 + 1)) v29 v30
def F34_j40 (K : Nat) (v38 : Z3) (v39 : Bool) : Option (Nat × Z3 × Bool) :=
 some (1, v38, v39)
def F34_j37 (K : Nat) (x35 : Z3) (v32 : Z3) (v33 : Bool) (v36 : Bool) : Option (Nat × Z3 × Bool) :=
 if v36 = true then
  F34_j40 K x35 true
 else
  F34_j40 K v32 v33
def F34_y43 (K : Nat) (x35 : Z3) (v34 : Nat) (v32 : Z3) (v33 : Bool) : Option (Nat × Z3 × Bool) :=
 if v34 = 0 then
  if (decide (x35.At < 1048576)) = true then
   if (!v33) = true then
    F34_j37 K x35 v32 v33 true
   else
    (F54 K x35 v32).bind fun v42 =>
     F34_j37 K x35 v32 v33 (decide (v42 < 0))
  else
   F34_j37 K x35 v32 v33 false
 else none
def F34_l20 (K : Nat) (v16 : (List Z4)) (a0 : Zm) (v4 : (List Str)) (v5 : Int) (a1 : Int) (c24 : Z3 → Bool → Option (Z3 × Bool × Int)) : Nat → Int → Z3 → Bool → Option (Z3 × Bool × Int)
 | 0, _, _, _ => none
 | k20 + 1, v17, v18, v19 =>
  if (decide (v17 < (v16.length : Int))) = true then
   if (0 : Int) ≤ v17 ∧ v17 < v16.length then
    (F52 K a0 (v4.getD v5.toNat []) (v16.getD v17.toNat Zq) a1).bind fun v28 =>
     (F75_i3 K (F34_y43 K) 0 v18 v19 (⟨(⟨v28.1.Policy.By, v28.1.Policy.Repeat, v28.1.Policy.Steps⟩ : Tnotify_Policy), v28.1.Firings, v28.1.Silences, v28.1.Acks⟩ : Zm) v28.2.1 (⟨v28.2.2.1.From, v28.2.2.1.To⟩ : Z4) v28.2.2.2).bind fun v44 =>
      if v44.1 ≤ 1 then
       if v44.1 = 0 then
        F34_j31 K (F34_l20 K v16 a0 v4 v5 a1 c24 k20) v17 v44.2.1 v44.2.2
       else
        F34_j31 K (F34_l20 K v16 a0 v4 v5 a1 c24 k20) v17 v44.2.1 v44.2.2
      else none
   else none
  else
   c24 v18 v19
def F34_l8 (K : Nat) (v4 : (List Str)) (a0 : Zm) (a1 : Int) (c12 : Z3 → Bool → Option (Z3 × Bool × Int)) : Nat → Int → Z3 → Bool → Option (Z3 × Bool × Int)
 | 0, _, _, _ => none
 | k8 + 1, v5, v6, v7 =>
  if (decide (v5 < (v4.length : Int))) = true then
   if (0 : Int) ≤ v5 ∧ v5 < v4.length then
    (F23 K a0 (v4.getD v5.toNat [])).bind fun v16 =>
     F34_l20 K v16 a0 v4 v5 a1 (F34_c23 K (F34_l8 K v4 a0 a1 c12 k8) v5) K 0 v6 v7
   else none
  else
   c12 v6 v7
noncomputable def F34 (K : Nat) (a0 : Zm) (a1 : Int) : Option (Z3 × Bool × Int) :=
 (F51 K a0 a1).bind fun v2 =>
  if (v2 != 0) = true then
   some (Zb, false, v2)
  else
   (F17 K a0).bind fun v4 =>
    F34_l8 K v4 a0 a1 (F34_c11 K) K 0 Zb false
def F10_j10 (K : Nat) (v9 : Bool) : Option (Bool) :=
 some v9
def F10_j21 (K : Nat) (v20 : Bool) : Option (Bool) :=
 some v20
def F10_j25 (K : Nat) (v24 : Bool) : Option (Bool) :=
 some v24
def F10_c18 (K : Nat) (v14 : (List Z3)) (v6 : Z3 × Bool × Int) (v17 : Int) : Option (Bool) :=
 if (v17 == (v14.length : Int)) = true then
  if (!v6.2.1) = true then
   if (v6.2.2 == 0) = true then
    (F32 K v6.1 Zb).bind fun v23 =>
     F10_j21 K v23
   else
    F10_j21 K false
  else
   F10_j21 K false
 else
  if v6.2.1 = true then
   if (v6.2.2 == 0) = true then
    if (0 : Int) ≤ v17 ∧ v17 < v14.length then
     (F32 K v6.1 (v14.getD v17.toNat Zb)).bind fun v28 =>
      F10_j25 K v28
    else none
   else
    F10_j25 K false
  else
   F10_j25 K false
def F10_l16 (K : Nat) (v14 : (List Z3)) (a1 : Int) (c19 : Int → Option (Bool)) : Nat → Int → Option (Bool)
 | 0, _ => none
 | k16 + 1, v15 =>
  if (decide (v15 < (v14.length : Int))) = true then
   if (0 : Int) ≤ v15 ∧ v15 < v14.length then
    if (decide ((v14.getD v15.toNat Zb).At < a1)) = true then
     (F10_l16 K v14 a1 c19 k16) (IntKind.i64.wrap (v15 + 1))
    else
     c19 v15
   else none
  else
   c19 v15
noncomputable def F10 (K : Nat) (a0 : Z1e) (a1 : Int) : Option (Bool) :=
 (F13 K).bind fun v2 =>
  if (!v2) = true then
   some false
  else
   (F14 K a0).bind fun v4 =>
    (F34 K v4 a1).bind fun v6 =>
     (F28 K a1).bind fun v8 =>
      if (!v8) = true then
       if (!v6.2.1) = true then
        if (v6.2.2 == 32) = true then
         (F32 K v6.1 Zb).bind fun v12 =>
          F10_j10 K v12
        else
         F10_j10 K false
       else
        F10_j10 K false
      else
       (F30 K v4 1048576).bind fun v14 =>
        F10_l16 K v14 a1 (F10_c18 K v14 v6) K 0
end Go.AM.Noti
