/- What these functions compute, each with its walk: F5. -/
import Derived.Test.YtmdglfmfefmpkaaNotiT
import Derived.Test.YtmdglfmfefmpkaaNotiG1
import Derived.Test.YtmdglfmfefmpkaaNotiG2
import Derived.Test.YtmdglfmfefmpkaaNotiG4
import Derived.Test.YtmdglfmfefmpkaaNotiG6
import Derived.Test.YtmdglfmfefmpkaaNotiG8
namespace Go.AM.Noti
open Go Go.AM Go.Proofs
set_option maxRecDepth 100000
set_option maxHeartbeats 2000000
def F5_c13 (_K : Nat) : Option (Bool) :=
 some true
def F5_j23 (_K : Nat) (b15 : Int → Option (Bool)) (v11 : Int) (v22 : Bool) : Option (Bool) :=
 if v22 = true then
 some false
 else
 b15 (IntKind.i64.wrap (v11 + 1))
def F5_l12 (K : Nat) (v8 : (List Z2) × Int) (v4 : Ze) (v6 : (List Z2) × Int) (a2 : Int) (a1 : Int) (c14 : Option (Bool)) : Nat → Int → Option (Bool)
 | 0, _ => none
 | k12 + 1, v11 =>
 if (decide (v11 < (v8.1.length : Int))) = true then
 if (0 : Int) ≤ v11 ∧ v11 < v8.1.length then
 (F24 K v4 (v8.1.getD v11.toNat Zi).Group).bind fun v18 =>
 if (0 : Int) ≤ v11 ∧ v11 < v8.1.length then
 (F31 K v18 (v8.1.getD v11.toNat Zi).At).bind fun v21 =>
 if (0 : Int) ≤ v11 ∧ v11 < v8.1.length then
 if ((decide (v11 < (v6.1.length : Int))) != (decide ((v8.1.getD v11.toNat Zi).At < (IntKind.i64.wrap (if a2 < a1 then a2 else a1))))) = true then
 F5_j23 K (F5_l12 K v8 v4 v6 a2 a1 c14 k12) v11 true
 else
 if (0 : Int) ≤ v11 ∧ v11 < v8.1.length then
 if (decide ((v8.1.getD v11.toNat Zi).At ≥ (IntKind.i64.wrap (if a2 > a1 then a2 else a1)))) = true then
 F5_j23 K (F5_l12 K v8 v4 v6 a2 a1 c14 k12) v11 true
 else
 if (0 : Int) ≤ v11 ∧ v11 < v8.1.length then
 if (v21 == ((v8.1.getD v11.toNat Zi).Kind == 3)) = true then
 F5_j23 K (F5_l12 K v8 v4 v6 a2 a1 c14 k12) v11 true
 else
 if (0 : Int) ≤ v11 ∧ v11 < v8.1.length then
 F5_j23 K (F5_l12 K v8 v4 v6 a2 a1 c14 k12) v11 (v21 != (decide (((v8.1.getD v11.toNat Zi).Rules.length : Int) > 0)))
 else none
 else none
 else none
 else none
 else none
 else none
 else
 c14
def F5_j10 (K : Nat) (v8 : (List Z2) × Int) (v4 : Ze) (v6 : (List Z2) × Int) (a2 : Int) (a1 : Int) (v9 : Bool) : Option (Bool) :=
 if v9 = true then
 some false
 else
 F5_l12 K v8 v4 v6 a2 a1 (F5_c13 K) K 0
noncomputable def F5 (K : Nat) (a0 : Z15) (a1 : Int) (a2 : Int) : Option (Bool) :=
 (F13 K).bind fun v2 =>
 if (!v2) = true then
 some false
 else
 (F14 K a0).bind fun v4 =>
 (F27 K v4 (IntKind.i64.wrap (if a2 < a1 then a2 else a1))).bind fun v6 =>
 (F27 K v4 (IntKind.i64.wrap (if a2 > a1 then a2 else a1))).bind fun v8 =>
 if (v6.2 != 0) = true then
 F5_j10 K v8 v4 v6 a2 a1 true
 else
 if (v8.2 != 0) = true then
 F5_j10 K v8 v4 v6 a2 a1 true
 else
 if (decide ((v6.1.length : Int) > (v8.1.length : Int))) = true then
 F5_j10 K v8 v4 v6 a2 a1 true
 else
 if (0 : Int) ≤ 0 ∧ 0 ≤ (v6.1.length : Int) ∧ (v6.1.length : Int) ≤ v8.1.length then
 (F29 K v6.1 (v8.1.take (v6.1.length : Int).toNat)).bind fun v30 =>
 F5_j10 K v8 v4 v6 a2 a1 (!v30)
 else none
theorem F5_ok (K : Nat) (a0 : Z15) (a1 : Int) (a2 : Int) (r : Bool) (h : F5 K a0 a1 a2 = some r) : ACall P 5 ⟨[(Zv a0), (.int .u8 a1), (.int .u8 a2)], [], (.bool r), [], []⟩ := by
 refine Z1v Try.func5 Try.results5 rfl Try.ntmps5 rfl rfl rfl ?_
 intro E Q hP hN hro hret
 obtain ⟨P', nt', w0, F0, p0, S0, β0, ro0⟩ := E
 simp only at hP hN
 subst hP hN
 dsimp only [argT]
 unfold F5 at h
 refine Zb <| Z5 <| Z1 I (Z2r I I I I I) I <| Z1 I (Zd (v := (.bool false)) I I) I <| Z7 <| Z8 <| Zb <| Zb <| Z5 ?_
 have ⟨v2, hv2, h⟩ := Z1a h
 refine Z1 I (Z1d (ar := []) Try.call13 (F13_ok K v2 hv2) I I J0 I) I <| Z1 I (Z2c I I) I <| Z7 <| Z8 ?_
 have hif := Z1h h
 refine Zq I (fun hc => ?_) (fun hc => ?_)
 ·have h := hif.1 hc
  refine Zb <| Z5 <| Z1 I (Zd (v := (.bool false)) I I) I <| Z7 <| Z8 <| Z1e <| Zx ?_
  have h := Option.some.inj h
  subst h
  refine (hret _ ?_).1
  exact ⟨[(.bool false)], ⟨I, J0⟩, I, J0⟩
 have h := hif.2 hc
 refine Z14 <| Z8 <| Zb <| Z5 <| Z1 I (Z1n I a25 I I I I) I ?_
 have ⟨v4, hv4, h⟩ := Z1a h
 refine Z1 I (Z1d (ar := [(Zv a0)]) Try.call14 (F14_ok K a0 v4 hv4) I I ⟨I, J0⟩ I) I <| Z1 I (Z1x I z34 I I I) I <| Z1 I (Z1f sz34 I I I I I I I I) I <| Z7 <| Z8 <| Zb <| Z5 <| Z1 I (Z1n I a34 I I I I) I <| Z1 I (Z9 I I) I <| Z1 I (Z9 I I) I <| Z1 I (st_min (k := .u8) (a := a1) (b := a2) I I I) I <| Z1 I (st_conv I us5 u3 I) I ?_
 have ⟨v6, hv6, h⟩ := Z1a h
 refine Z1 I (Z1d (ar := [(Zf v4), (.int .i64 (IntKind.i64.wrap (if a2 < a1 then a2 else a1)))]) Try.call27 (F27_ok K v4 (IntKind.i64.wrap (if a2 < a1 then a2 else a1)) v6 hv6) I I ⟨I, I, J0⟩ I) I <| Z1 I (Z9 I I) I <| Z1 I (Z20 I I I) I <| Z1 I (Z20 I I I) I <| Z1 I (Zd I I) I <| Z1 I (Zd I I) I <| Z7 <| Z8 <| Zb <| Z5 <| Z1 I (Z1n I a34 I I I I) I <| Z1 I (Z9 I I) I <| Z1 I (Z9 I I) I <| Z1 I (st_max (k := .u8) (a := a1) (b := a2) I I I) I <| Z1 I (st_conv I us5 u3 I) I ?_
 have ⟨v8, hv8, h⟩ := Z1a h
 refine Z1 I (Z1d (ar := [(Zf v4), (.int .i64 (IntKind.i64.wrap (if a2 > a1 then a2 else a1)))]) Try.call27 (F27_ok K v4 (IntKind.i64.wrap (if a2 > a1 then a2 else a1)) v8 hv8) I I ⟨I, I, J0⟩ I) I <| Z1 I (Z9 I I) I <| Z1 I (Z20 I I I) I <| Z1 I (Z20 I I I) I <| Z1 I (Zd I I) I <| Z1 I (Zd I I) I <| Z7 <| Z8 <| Zb <| Zb ?_
 refine Z21 (V := Bool) (lp := fun v => F5_j10 K v8 v4 v6 a2 a1 v = some r) (sh := fun v => ⟨[(1, (.int .u8 a1)), (2, (.int .u8 a2)), (7, (.ptr 7 0)), (8, (.sl 5 (v6.1.map Z3) false)), (10, (.sl 5 (v8.1.map Z3) false)), (57, (.bool v))], [(7, (.box (Zf v4).cells))]⟩) ?_ ?_
 ·intro v h
  revert h
  revert v
  intro v9 h
  try dsimp only at h ⊢
  unfold F5_j10 at h
  refine Z8 ?_
  have hif := Z1h h
  refine Zq I (fun hc => ?_) (fun hc => ?_)
  ·have h := hif.1 hc
   refine Zb <| Z5 <| Z1 I (Zd (v := (.bool false)) I I) I <| Z7 <| Z8 <| Z1e <| Zx ?_
   have h := Option.some.inj h
   subst h
   refine (hret _ ?_).1
   exact ⟨[(.bool false)], ⟨I, J0⟩, I, J0⟩
  have h := hif.2 hc
  refine Z14 <| Z8 <| Zb <| Zb <| Z5 <| Z1 I (Zd (v := (.int .i64 0)) I I) I <| Z7 <| Z8 <| Z1r (st' := ⟨[(1, (.int .u8 a1)), (2, (.int .u8 a2)), (7, (.ptr 7 0)), (8, (.sl 5 (v6.1.map Z3) false)), (10, (.sl 5 (v8.1.map Z3) false)), (12, (.int .i64 0))], [(7, (.box (Zf v4).cells))]⟩) ⟨I, I, I, I, I, I, J0⟩ ⟨I, J0⟩ ?_
  refine Z1o (V := Int) (X := Unit) (lp := fun k v => F5_l12 K v8 v4 v6 a2 a1 (F5_c13 K) k v = some r) (sh := fun v => ⟨[(1, (.int .u8 a1)), (2, (.int .u8 a2)), (7, (.ptr 7 0)), (8, (.sl 5 (v6.1.map Z3) false)), (10, (.sl 5 (v8.1.map Z3) false)), (12, (.int .i64 v))], [(7, (.box (Zf v4).cells))]⟩) (x := fun v => F5_c13 K = some r) (shx := fun v => ⟨[], []⟩) (k := K) (v := 0) h ?_ ?_
  ·intro v h
   try dsimp only at h ⊢
   unfold F5_c13 at h
   refine Z8 <| Zb <| Z5 <| Z1 I (Zd (v := (.bool true)) I I) I <| Z7 <| Z8 <| Z1e ?_
   have h := Option.some.inj h
   subst h
   refine (hret _ ?_).1
   exact ⟨[(.bool true)], ⟨I, J0⟩, I, J0⟩
  intro N k12 v h IH12 J12
  revert h
  revert v
  intro v11 h
  try dsimp only at h IH12 J12 ⊢
  cases k12 with
  | zero => cases h
  | succ k12 =>
   rw [F5_l12] at h
   refine Zb <| Zb <| Z5 <| Z1 I (Z9 I I) I <| Z1 I (Z9 I I) I <| Z1 I (Z24 (l := v8.1) (enc := Z3) I s50 I) I <| Z1 I (Z1c (c := (decide (v11 < (v8.1.length : Int)))) I I I I) I <| Z7 <| Z8 ?_
   have hif := Z1h h
   refine Zq I (fun hc => ?_) (fun hc => ?_)
   ·have h := hif.1 hc
    refine Z14 <| Z8 <| Zb <| Z1t <| Zb <| Z1y mixed <| Za 0 I (Z1n I a34 I I I I) <| Za 1 I (Z9 I I) <| Za 2 I (Z9 I I) ?_
    have ⟨hg16, h⟩ := Zw h
    refine Za 3 I (Z1s (k := .i64) (l := v8.1) (enc := Z3) (z := Zi) (n := v11) (full := false) I s50 I I hg16 I) <| Za 4 I (Z1w I f60_1 I I I) <| Za 5 I (Z1l I o9 I I) ?_
    have ⟨v18, hv18, h⟩ := Z1a h
    refine Za 6 I (Z1d (ar := [(Zf v4), (.str (v8.1.getD v11.toNat Zi).Group)]) Try.call24 (F24_ok K v4 (v8.1.getD v11.toNat Zi).Group v18 hv18) I I ⟨I, I, J0⟩ I) <| Za 7 I (Z9 I I) <| Za 8 I (Z9 I I) ?_
    have ⟨hg19, h⟩ := Zw h
    refine Za 9 I (Z1s (k := .i64) (l := v8.1) (enc := Z3) (z := Zi) (n := v11) (full := false) I s50 I I hg19 I) <| Za 10 I (Z1w I f60_0 I I I) <| Za 11 I (Z1l I o3 I I) ?_
    have ⟨v21, hv21, h⟩ := Z1a h
    refine Za 12 I (Z1d (ar := [(.sl 2 (v18.map Z6) false), (.int .i64 (v8.1.getD v11.toNat Zi).At)]) Try.call31 (F31_ok K v18 (v8.1.getD v11.toNat Zi).At v21 hv21) I I ⟨I, I, J0⟩ I) <| Za 13 I (Zd I I) <| Z1z (by kernel_rfl) I <| Z8 <| Zb ?_
    refine Z21 (V := Bool) (lp := fun v => F5_j23 K (F5_l12 K v8 v4 v6 a2 a1 (F5_c13 K) k12) v11 v = some r) (sh := fun v => ⟨[(1, (.int .u8 a1)), (2, (.int .u8 a2)), (7, (.ptr 7 0)), (8, (.sl 5 (v6.1.map Z3) false)), (10, (.sl 5 (v8.1.map Z3) false)), (12, (.int .i64 v11)), (124, (.bool v))], [(7, (.box (Zf v4).cells))]⟩) ?_ ?_
    ·intro v h
     revert h
     revert v
     intro v22 h
     try dsimp only at h ⊢
     unfold F5_j23 at h
     refine Z8 ?_
     have hif := Z1h h
     refine Zq I (fun hc => ?_) (fun hc => ?_)
     ·have h := hif.1 hc
      refine Zb <| Z5 <| Z1 I (Zd (v := (.bool false)) I I) I <| Z7 <| Z8 <| Z1e <| Z18 <| Zx ?_
      refine Zx (Z18 ?_)
      refine Zx ?_
      have h := Option.some.inj h
      subst h
      refine (hret _ ?_).1
      exact ⟨[(.bool false)], ⟨I, J0⟩, I, J0⟩
     have h := hif.2 hc
     refine Z14 <| Z27 <| Z8 <| Z5 <| Z1 I (Z9 I I) I <| Z1 I (Z1p (k := .i64) (b := 1) (c := (IntKind.i64.wrap (v11 + 1))) I I I I) I <| Z1 I (Zd I I) I <| Z7 ?_
     exact Zz (IH12 _ (IntKind.i64.wrap (v11 + 1)) (Nat.lt_succ_self _) h) ⟨I, I, I, I, I, I, J0⟩ ⟨I, J0⟩
    intro J23
    refine Z5 <| Z1 I (Z9 I I) I <| Z1 I (Z9 I I) I <| Z1 I (Z24 (l := v6.1) (enc := Z3) I s50 I) I <| Z1 I (Z1c (c := (decide (v11 < (v6.1.length : Int)))) I I I I) I <| Z1 I (Z9 I I) I <| Z1 I (Z9 I I) I ?_
    have ⟨hg24, h⟩ := Zw h
    refine Z1 I (Z1s (k := .i64) (l := v8.1) (enc := Z3) (z := Zi) (n := v11) (full := false) I s50 I I hg24 I) I <| Z1 I (Z1w I f60_0 I I I) I <| Z1 I (Z1l I o3 I I) I <| Z1 I (Z9 I I) I <| Z1 I (Z9 I I) I <| Z1 I (st_min (k := .u8) (a := a1) (b := a2) I I I) I <| Z1 I (st_conv I us5 u3 I) I <| Z1 I (Z1c (c := (decide ((v8.1.getD v11.toNat Zi).At < (IntKind.i64.wrap (if a2 < a1 then a2 else a1))))) I I I I) I <| Z1 I (st_cmpB (c := ((decide (v11 < (v6.1.length : Int))) != (decide ((v8.1.getD v11.toNat Zi).At < (IntKind.i64.wrap (if a2 < a1 then a2 else a1)))))) I u4 I I I) I <| Z1 I (Z9 I I) I ?_
    have hif := Z1h h
    refine Z16 (fun hc => ?_) (fun hc => ?_)
    ·have h := hif.1 hc
     iterate 10 refine Zg I I I I I I I ?_
     refine Z1 I (Z19 (v := (.bool true)) I I I) I <| Z1 I (Z9 (v := (.bool true)) I I) I ?_
     iterate 8 refine Zg I I I I I I I ?_
     refine Z1 I (Z19 (v := (.bool true)) I I I) I <| Z1 I (Z9 (v := (.bool true)) I I) I <| Zg I I I I I I I <| Zg I I I I I I I ?_
     iterate 7 refine Zg I I I I I I I ?_
     refine Z1 I (Z19 (v := (.bool true)) I I I) I <| Z7 ?_
     exact Zz (J23 true h) ⟨I, I, I, I, I, I, I, J0⟩ ⟨I, J0⟩
    have h := hif.2 hc
    refine Zc I I I I (Z9 I I) I <| Zc I I I I (Z9 I I) I ?_
    have ⟨hg25, h⟩ := Zw h
    refine Zc I I I I (Z1s (k := .i64) (l := v8.1) (enc := Z3) (z := Zi) (n := v11) (full := false) I s50 I I hg25 I) I <| Zc I I I I (Z1w I f60_0 I I I) I <| Zc I I I I (Z1l I o3 I I) I <| Zc I I I I (Z9 I I) I <| Zc I I I I (Z9 I I) I <| Zc I I I I (st_max (k := .u8) (a := a1) (b := a2) I I I) I <| Zc I I I I (st_conv I us5 u3 I) I <| Zc I I I I (Z1c (c := (decide ((v8.1.getD v11.toNat Zi).At ≥ (IntKind.i64.wrap (if a2 > a1 then a2 else a1))))) I I I I) I <| Z1 I (Zy I I I) I <| Z1 I (Z9 I I) I ?_
    have hif := Z1h h
    refine Z16 (fun hc => ?_) (fun hc => ?_)
    ·have h := hif.1 hc
     iterate 8 refine Zg I I I I I I I ?_
     refine Z1 I (Z19 (v := (.bool true)) I I I) I <| Z1 I (Z9 (v := (.bool true)) I I) I ?_
     iterate 9 refine Zg I I I I I I I ?_
     refine Z1 I (Z19 (v := (.bool true)) I I I) I <| Z7 ?_
     exact Zz (J23 true h) ⟨I, I, I, I, I, I, I, J0⟩ ⟨I, J0⟩
    have h := hif.2 hc
    refine Zc I I I I (Z9 I I) I <| Zc I I I I (Z9 I I) I <| Zc I I I I (Z9 I I) I ?_
    have ⟨hg26, h⟩ := Zw h
    refine Zc I I I I (Z1s (k := .i64) (l := v8.1) (enc := Z3) (z := Zi) (n := v11) (full := false) I s50 I I hg26 I) I <| Zc I I I I (Z1w I f60_2 I I I) I <| Zc I I I I (Z1l I o3 I I) I <| Zc I I I I (Z1c (b := 3) (c := ((v8.1.getD v11.toNat Zi).Kind == 3)) I I I I) I <| Zc I I I I (st_cmpB (c := (v21 == ((v8.1.getD v11.toNat Zi).Kind == 3))) I u4 I I I) I <| Z1 I (Zy I I I) I <| Z1 I (Z9 I I) I ?_
    have hif := Z1h h
    refine Z16 (fun hc => ?_) (fun hc => ?_)
    ·have h := hif.1 hc
     iterate 9 refine Zg I I I I I I I ?_
     refine Z1 I (Z19 (v := (.bool true)) I I I) I <| Z7 ?_
     exact Zz (J23 true h) ⟨I, I, I, I, I, I, I, J0⟩ ⟨I, J0⟩
    have h := hif.2 hc
    refine Zc I I I I (Z9 I I) I <| Zc I I I I (Z9 I I) I <| Zc I I I I (Z9 I I) I ?_
    have ⟨hg27, h⟩ := Zw h
    refine Zc I I I I (Z1s (k := .i64) (l := v8.1) (enc := Z3) (z := Zi) (n := v11) (full := false) I s50 I I hg27 I) I <| Zc I I I I (Z1w I f60_4 I I I) I <| Zc I I I I (Z1l I o36 I I) I <| Zc I I I I (Z24 (l := (v8.1.getD v11.toNat Zi).Rules) (enc := Z1i) I s36 I) I <| Zc I I I I (Z1c (b := 0) (c := (decide (((v8.1.getD v11.toNat Zi).Rules.length : Int) > 0))) I I I I) I <| Zc I I I I (st_cmpB (c := (v21 != (decide (((v8.1.getD v11.toNat Zi).Rules.length : Int) > 0)))) I u4 I I I) I <| Z1 I (Zy I I I) I <| Z7 ?_
    exact Zz (J23 (v21 != (decide (((v8.1.getD v11.toNat Zi).Rules.length : Int) > 0))) h) ⟨I, I, I, I, I, I, I, J0⟩ ⟨I, J0⟩
   have h := hif.2 hc
   refine Z1u <| Z26 ?_
   exact Zz (J12 () h) J0 trivial
 intro J10
 refine Z5 <| Z1 I (Z9 I I) I <| Z1 I (Z1c (b := 0) (c := (v6.2 != 0)) I I I I) I <| Z1 I (Z9 I I) I ?_
 have hif := Z1h h
 refine Z16 (fun hc => ?_) (fun hc => ?_)
 ·have h := hif.1 hc
  refine Zg I I I I I I I <| Zg I I I I I I I <| Z1 I (Z19 (v := (.bool true)) I I I) I <| Z1 I (Z9 (v := (.bool true)) I I) I ?_
  iterate 5 refine Zg I I I I I I I ?_
  refine Z1 I (Z19 (v := (.bool true)) I I I) I <| Z1 I (Z9 (v := (.bool true)) I I) I ?_
  iterate 7 refine Zg I I I I I I I ?_
  refine Z1 I (Z19 (v := (.bool true)) I I I) I <| Z7 ?_
  exact Zz (J10 true h) ⟨I, I, I, I, I, I, J0⟩ ⟨I, J0⟩
 have h := hif.2 hc
 refine Zc I I I I (Z9 I I) I <| Zc I I I I (Z1c (b := 0) (c := (v8.2 != 0)) I I I I) I <| Z1 I (Zy I I I) I <| Z1 I (Z9 I I) I ?_
 have hif := Z1h h
 refine Z16 (fun hc => ?_) (fun hc => ?_)
 ·have h := hif.1 hc
  iterate 5 refine Zg I I I I I I I ?_
  refine Z1 I (Z19 (v := (.bool true)) I I I) I <| Z1 I (Z9 (v := (.bool true)) I I) I ?_
  iterate 7 refine Zg I I I I I I I ?_
  refine Z1 I (Z19 (v := (.bool true)) I I I) I <| Z7 ?_
  exact Zz (J10 true h) ⟨I, I, I, I, I, I, J0⟩ ⟨I, J0⟩
 have h := hif.2 hc
 refine Zc I I I I (Z9 I I) I <| Zc I I I I (Z24 (l := v6.1) (enc := Z3) I s50 I) I <| Zc I I I I (Z9 I I) I <| Zc I I I I (Z24 (l := v8.1) (enc := Z3) I s50 I) I <| Zc I I I I (Z1c (c := (decide ((v6.1.length : Int) > (v8.1.length : Int)))) I I I I) I <| Z1 I (Zy I I I) I <| Z1 I (Z9 I I) I ?_
 have hif := Z1h h
 refine Z16 (fun hc => ?_) (fun hc => ?_)
 ·have h := hif.1 hc
  iterate 7 refine Zg I I I I I I I ?_
  refine Z1 I (Z19 (v := (.bool true)) I I I) I <| Z7 ?_
  exact Zz (J10 true h) ⟨I, I, I, I, I, I, J0⟩ ⟨I, J0⟩
 have h := hif.2 hc
 refine Zc I I I I (Z9 I I) I <| Zc I I I I (Z9 I I) I <| Zc I I I I (Z9 I I) I <| Zc I I I I (Z24 (l := v6.1) (enc := Z3) I s50 I) I ?_
 have ⟨hg28, h⟩ := Zw h
 refine Zc I I I I (stx_sliceH (l := v8.1) (enc := Z3) (kh := .i64) (hi := (v6.1.length : Int)) I s50 I I hg28) I ?_
 have ⟨v30, hv30, h⟩ := Z1a h
 refine Zc I I I I (Z1d (ar := [(.sl 5 (v6.1.map Z3) false), (.sl 5 ((v8.1.take (v6.1.length : Int).toNat).map Z3) false)]) Try.call29 (F29_ok K v6.1 (v8.1.take (v6.1.length : Int).toNat) v30 hv30) I I ⟨I, I, J0⟩ I) I <| Zc I I I I (Z2c I I) I <| Z1 I (Zy I I I) I <| Z7 ?_
 exact Zz (J10 (!v30) h) ⟨I, I, I, I, I, I, J0⟩ ⟨I, J0⟩
end Go.AM.Noti
