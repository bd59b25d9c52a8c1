/- What these functions compute, each with its walk: F65, F84, F62, F66, F67, F39, F51, F18, F46, F45, F17, F86, F71, F109, F108. -/
import Derived.Test.YtmdglfmfefmpkaaNotiT
namespace Go.AM.Noti
open Go Go.AM Go.Proofs
set_option maxRecDepth 100000
set_option maxHeartbeats 2000000
def F65 (_K : Nat) (a0 : Int) : Option (Bool) :=
 if (decide (a0 ≥ 0)) = true then
 some (decide (a0 ≤ 1048576))
 else
 some false
theorem F65_ok (K : Nat) (a0 : Int) (r : Bool) (h : F65 K a0 = some r) : ACall P 65 ⟨[(.int .i64 a0)], [], (.bool r), [], []⟩ := by
 refine Z1v Try.func65 Try.results65 rfl Try.ntmps65 rfl rfl rfl ?_
 intro E Q hP hN hro hret
 obtain ⟨P', nt', w0, F0, p0, S0, β0, ro0⟩ := E
 simp only at hP hN
 subst hP hN
 dsimp only [argT]
 unfold F65 at h
 refine Zb <| Z5 <| Z1 I (Zd (v := (.bool false)) I I) I <| Z7 <| Z8 <| Zb <| Z5 <| Z1 I (Z9 I I) I <| Z1 I (Z1c (b := 0) (c := (decide (a0 ≥ 0))) I I I I) I <| Z1 I (Z9 I I) I ?_
 have hif := Z1h h
 refine Z16 (fun hc => ?_) (fun hc => ?_)
 ·have h := hif.1 hc
  refine Zc I I I I (Z9 I I) I <| Zc I I I I (Z1c (b := 1048576) (c := (decide (a0 ≤ 1048576))) I I I I) I <| Z1 I (Z19 I I I) I <| Z1 I (Zd I I) I <| Z7 <| Z8 <| Z1e ?_
  have h := Option.some.inj h
  subst h
  refine (hret _ ?_).1
  exact ⟨[(.bool (decide (a0 ≤ 1048576)))], ⟨I, J0⟩, I, J0⟩
 have h := hif.2 hc
 refine Zg I I I I I I I <| Zg I I I I I I I <| Z1 I (Zy (v := (.bool false)) I I I) I <| Z1 I (Zd (v := (.bool false)) I I) I <| Z7 <| Z8 <| Z1e ?_
 have h := Option.some.inj h
 subst h
 refine (hret _ ?_).1
 exact ⟨[(.bool false)], ⟨I, J0⟩, I, J0⟩
def F84_c3 (_K : Nat) : Option (Bool) :=
 some true
def F84_l2 (K : Nat) (a0 : Str) (a1 : Int) (a2 : Int) (c4 : Option (Bool)) : Nat → Int → Option (Bool)
 | 0, _ => none
 | k2 + 1, v1 =>
 if (decide (v1 < (a0.length : Int))) = true then
 if (0 : Int) ≤ v1 ∧ v1 < a0.length then
 if (decide ((byteAt a0 v1) < a1)) = true then
 some false
 else
 if (0 : Int) ≤ v1 ∧ v1 < a0.length then
 if (decide ((byteAt a0 v1) > a2)) = true then
 some false
 else
 (F84_l2 K a0 a1 a2 c4 k2) (IntKind.i64.wrap (v1 + 1))
 else none
 else none
 else
 c4
def F84 (K : Nat) (a0 : Str) (a1 : Int) (a2 : Int) : Option (Bool) :=
 F84_l2 K a0 a1 a2 (F84_c3 K) K 0
theorem F84_ok (K : Nat) (a0 : Str) (a1 : Int) (a2 : Int) (r : Bool) (h : F84 K a0 a1 a2 = some r) : ACall P 84 ⟨[(.str a0), (.int .u8 a1), (.int .u8 a2)], [], (.bool r), [], []⟩ := by
 refine Z1v Try.func84 Try.results84 rfl Try.ntmps84 rfl rfl rfl ?_
 intro E Q hP hN hro hret
 obtain ⟨P', nt', w0, F0, p0, S0, β0, ro0⟩ := E
 simp only at hP hN
 subst hP hN
 dsimp only [argT]
 unfold F84 at h
 refine Zb <| Z5 <| Z1 I (Zd (v := (.bool false)) I I) I <| Z7 <| Z8 <| Zb <| Zb <| Z5 <| Z1 I (Z9 I I) I <| Z1 I (st_lenS I u9 I) I <| Z1 I (Z9 (v := (.int .i64 0)) I I) I <| Z7 <| Z8 <| Z1r (st' := ⟨[(0, (.str a0)), (1, (.int .u8 a1)), (2, (.int .u8 a2)), (9, (.int .i64 (a0.length : Int))), (10, (.int .i64 0))], []⟩) ⟨I, I, I, I, I, J0⟩ J0 ?_
 refine Z1o (V := Int) (X := Unit) (lp := fun k v => F84_l2 K a0 a1 a2 (F84_c3 K) k v = some r) (sh := fun v => ⟨[(0, (.str a0)), (1, (.int .u8 a1)), (2, (.int .u8 a2)), (9, (.int .i64 (a0.length : Int))), (10, (.int .i64 v))], []⟩) (x := fun v => F84_c3 K = some r) (shx := fun v => ⟨[], []⟩) (k := K) (v := 0) h ?_ ?_
 ·intro v h
  try dsimp only at h ⊢
  unfold F84_c3 at h
  refine Z8 <| Zb <| Z5 <| Z1 I (Zd (v := (.bool true)) I I) I <| Z7 <| Z8 <| Z1e ?_
  have h := Option.some.inj h
  subst h
  refine (hret _ ?_).1
  exact ⟨[(.bool true)], ⟨I, J0⟩, I, J0⟩
 intro N k2 v h IH2 J2
 revert h
 revert v
 intro v1 h
 try dsimp only at h IH2 J2 ⊢
 cases k2 with
 | zero => cases h
 | succ k2 =>
  rw [F84_l2] at h
  refine Zb <| Z5 <| Z1 I (Z1c (c := (decide (v1 < (a0.length : Int)))) I I I I) I <| Z7 <| Z8 <| Zb ?_
  have hif := Z1h h
  refine Zq I (fun hc => ?_) (fun hc => ?_)
  ·have h := hif.1 hc
   refine Z14 <| Z8 <| Zb <| Z1t <| Zb <| Z5 <| Z1 I (Z9 I I) I <| Z1 I (Zd I I) I <| Z7 <| Z8 <| Zb <| Z5 <| Z1 I (Z9 I I) I <| Z1 I (Z9 I I) I ?_
   have ⟨hg6, h⟩ := Zw h
   refine Z1 I (st_indexS (k := .i64) I u9 I I hg6) I <| Z1 I (Z9 I I) I <| Z1 I (Z1c (c := (decide ((byteAt a0 v1) < a1))) I I I I) I <| Z1 I (Z9 I I) I ?_
   have hif := Z1h h
   refine Z16 (fun hc => ?_) (fun hc => ?_)
   ·have h := hif.1 hc
    iterate 5 refine Zg I I I I I I I ?_
    refine Z1 I (Z19 (v := (.bool true)) I I I) I <| Z7 <| Z8 ?_
    refine Zq (b := true) I (fun hc => ?_) (fun hc => ?_)
    rotate_left
    ·cases hc
    refine Zb <| Z5 <| Z1 I (Zd (v := (.bool false)) I I) I <| Z7 <| Z8 <| Z1e <| Z18 <| Zx ?_
    refine Zx (Z18 ?_)
    refine Zx ?_
    have h := Option.some.inj h
    subst h
    refine (hret _ ?_).1
    exact ⟨[(.bool false)], ⟨I, J0⟩, I, J0⟩
   have h := hif.2 hc
   refine Zc I I I I (Z9 I I) I <| Zc I I I I (Z9 I I) I ?_
   have ⟨hg7, h⟩ := Zw h
   refine Zc I I I I (st_indexS (k := .i64) I u9 I I hg7) I <| Zc I I I I (Z9 I I) I <| Zc I I I I (Z1c (c := (decide ((byteAt a0 v1) > a2))) I I I I) I <| Z1 I (Zy I I I) I <| Z7 <| Z8 ?_
   have hif := Z1h h
   refine Zq I (fun hc => ?_) (fun hc => ?_)
   ·have h := hif.1 hc
    refine Zb <| Z5 <| Z1 I (Zd (v := (.bool false)) I I) I <| Z7 <| Z8 <| Z1e <| Z18 <| Zx ?_
    refine Zx (Z18 ?_)
    refine Zx ?_
    have h := Option.some.inj h
    subst h
    refine (hret _ ?_).1
    exact ⟨[(.bool false)], ⟨I, J0⟩, I, J0⟩
   have h := hif.2 hc
   refine Z14 <| Z27 <| Z8 <| Z5 <| Z1 I (Z1p (k := .i64) (b := 1) (c := (IntKind.i64.wrap (v1 + 1))) I I I I) I <| Z1 I (Z9 I I) I <| Z7 ?_
   exact Zz (IH2 _ (IntKind.i64.wrap (v1 + 1)) (Nat.lt_succ_self _) h) ⟨I, I, I, I, I, J0⟩ trivial
  have h := hif.2 hc
  refine Z1u <| Z26 ?_
  exact Zz (J2 () h) J0 trivial
def F62_j2 (_K : Nat) (v1 : Bool) : Option (Bool) :=
 some v1
def F62 (K : Nat) (a0 : Str) : Option (Bool) :=
 if (!(a0 == [])) = true then
 if (decide ((a0.length : Int) ≤ 64)) = true then
 (F84 K a0 33 126).bind fun v4 =>
 F62_j2 K v4
 else
 F62_j2 K false
 else
 F62_j2 K false
theorem F62_ok (K : Nat) (a0 : Str) (r : Bool) (h : F62 K a0 = some r) : ACall P 62 ⟨[(.str a0)], [], (.bool r), [], []⟩ := by
 refine Z1v Try.func62 Try.results62 rfl Try.ntmps62 rfl rfl rfl ?_
 intro E Q hP hN hro hret
 obtain ⟨P', nt', w0, F0, p0, S0, β0, ro0⟩ := E
 simp only at hP hN
 subst hP hN
 dsimp only [argT]
 unfold F62 at h
 refine Zb <| Z5 <| Z1 I (Zd (v := (.bool false)) I I) I <| Z7 <| Z8 <| Zb ?_
 refine Z21 (V := Bool) (lp := fun v => F62_j2 K v = some r) (sh := fun v => ⟨[(2, (.bool v))], []⟩) ?_ ?_
 ·intro v h
  revert h
  revert v
  intro v1 h
  try dsimp only at h ⊢
  unfold F62_j2 at h
  refine Z8 <| Z1e ?_
  have h := Option.some.inj h
  subst h
  refine (hret _ ?_).1
  exact ⟨[(.bool v1)], ⟨I, J0⟩, I, J0⟩
 intro J2
 refine Z5 <| Z1 I (Z9 I I) I <| Z1 I (Z2z (b := []) (c := (!(a0 == []))) I I I I) I <| Z1 I (Z9 I I) I ?_
 have hif := Z1h h
 refine Z16 (fun hc => ?_) (fun hc => ?_)
 ·have h := hif.1 hc
  refine Zc I I I I (Z9 I I) I <| Zc I I I I (st_lenS I u9 I) I <| Zc I I I I (Z1c (b := 64) (c := (decide ((a0.length : Int) ≤ 64))) I I I I) I <| Z1 I (Z19 I I I) I <| Z1 I (Z9 I I) I ?_
  have hif := Z1h h
  refine Z16 (fun hc => ?_) (fun hc => ?_)
  ·have h := hif.1 hc
   refine Zc I I I I (Z9 I I) I ?_
   have ⟨v4, hv4, h⟩ := Z1a h
   refine Zc I I I I (Z1d (ar := [(.str a0), (.int .u8 33), (.int .u8 126)]) Try.call84 (F84_ok K a0 33 126 v4 hv4) I I ⟨I, I, I, J0⟩ I) I <| Z1 I (Z19 I I I) I <| Z1 I (Zd I I) I <| Z7 ?_
   exact Zz (J2 v4 h) ⟨I, J0⟩ trivial
  have h := hif.2 hc
  refine Zg I I I I I I I <| Zg I I I I I I I <| Z1 I (Zy (v := (.bool false)) I I I) I <| Z1 I (Zd (v := (.bool false)) I I) I <| Z7 ?_
  exact Zz (J2 false h) ⟨I, J0⟩ trivial
 have h := hif.2 hc
 refine Zg I I I I I I I <| Zg I I I I I I I <| Zg I I I I I I I <| Z1 I (Zy (v := (.bool false)) I I I) I <| Z1 I (Z9 (v := (.bool false)) I I) I <| Zg I I I I I I I <| Zg I I I I I I I <| Z1 I (Zy (v := (.bool false)) I I I) I <| Z1 I (Zd (v := (.bool false)) I I) I <| Z7 ?_
 exact Zz (J2 false h) ⟨I, J0⟩ trivial
def F66_j2 (_K : Nat) (v1 : Bool) : Option (Bool) :=
 some v1
def F66 (K : Nat) (a0 : Z4) : Option (Bool) :=
 (F65 K a0.From).bind fun v4 =>
 if v4 = true then
 if (decide (a0.From < a0.To)) = true then
 F66_j2 K (decide (a0.To ≤ 1048576))
 else
 F66_j2 K false
 else
 F66_j2 K false
theorem F66_ok (K : Nat) (a0 : Z4) (r : Bool) (h : F66 K a0 = some r) : ACall P 66 ⟨[(Z6 a0)], [], (.bool r), [], []⟩ := by
 refine Z1v Try.func66 Try.results66 rfl Try.ntmps66 rfl rfl rfl ?_
 intro E Q hP hN hro hret
 obtain ⟨P', nt', w0, F0, p0, S0, β0, ro0⟩ := E
 simp only at hP hN
 subst hP hN
 dsimp only [argT]
 unfold F66 at h
 refine Zb <| Z5 <| Z1 I (Z2r I I I I I) I <| Z1 I (Zd (v := (.bool false)) I I) I <| Z7 <| Z8 <| Zb ?_
 refine Z21 (V := Bool) (lp := fun v => F66_j2 K v = some r) (sh := fun v => ⟨[(2, (.bool v))], []⟩) ?_ ?_
 ·intro v h
  revert h
  revert v
  intro v1 h
  try dsimp only at h ⊢
  unfold F66_j2 at h
  refine Z8 <| Z1e ?_
  have h := Option.some.inj h
  subst h
  refine (hret _ ?_).1
  exact ⟨[(.bool v1)], ⟨I, J0⟩, I, J0⟩
 intro J2
 refine Z5 <| Z1 I (Zm I f40_0 I I) I <| Z1 I (Zs I o3 I I I) I ?_
 have ⟨v4, hv4, h⟩ := Z1a h
 refine Z1 I (Z1d (ar := [(.int .i64 a0.From)]) Try.call65 (F65_ok K a0.From v4 hv4) I I ⟨I, J0⟩ I) I <| Z1 I (Z9 I I) I ?_
 have hif := Z1h h
 refine Z16 (fun hc => ?_) (fun hc => ?_)
 ·have h := hif.1 hc
  refine Zc I I I I (Zm I f40_0 I I) I <| Zc I I I I (Zs I o3 I I I) I <| Zc I I I I (Zm I f40_1 I I) I <| Zc I I I I (Zs I o3 I I I) I <| Zc I I I I (Z1c (c := (decide (a0.From < a0.To))) I I I I) I <| Z1 I (Z19 I I I) I <| Z1 I (Z9 I I) I ?_
  have hif := Z1h h
  refine Z16 (fun hc => ?_) (fun hc => ?_)
  ·have h := hif.1 hc
   refine Zc I I I I (Zm I f40_1 I I) I <| Zc I I I I (Zs I o3 I I I) I <| Zc I I I I (Z1c (b := 1048576) (c := (decide (a0.To ≤ 1048576))) I I I I) I <| Z1 I (Z19 I I I) I <| Z1 I (Zd I I) I <| Z7 ?_
   exact Zz (J2 (decide (a0.To ≤ 1048576)) h) ⟨I, J0⟩ trivial
  have h := hif.2 hc
  refine Zg I I I I I I I <| Zg I I I I I I I <| Zg I I I I I I I <| Z1 I (Zy (v := (.bool false)) I I I) I <| Z1 I (Zd (v := (.bool false)) I I) I <| Z7 ?_
  exact Zz (J2 false h) ⟨I, J0⟩ trivial
 have h := hif.2 hc
 iterate 5 refine Zg I I I I I I I ?_
 refine Z1 I (Zy (v := (.bool false)) I I I) I <| Z1 I (Z9 (v := (.bool false)) I I) I <| Zg I I I I I I I <| Zg I I I I I I I <| Zg I I I I I I I <| Z1 I (Zy (v := (.bool false)) I I I) I <| Z1 I (Zd (v := (.bool false)) I I) I <| Z7 ?_
 exact Zz (J2 false h) ⟨I, J0⟩ trivial
def F67 (K : Nat) (a0 : Str) : Option (Bool) :=
 if (a0 == []) = true then
 some true
 else
 (F62 K a0).bind fun v2 =>
 some v2
theorem F67_ok (K : Nat) (a0 : Str) (r : Bool) (h : F67 K a0 = some r) : ACall P 67 ⟨[(.str a0)], [], (.bool r), [], []⟩ := by
 refine Z1v Try.func67 Try.results67 rfl Try.ntmps67 rfl rfl rfl ?_
 intro E Q hP hN hro hret
 obtain ⟨P', nt', w0, F0, p0, S0, β0, ro0⟩ := E
 simp only at hP hN
 subst hP hN
 dsimp only [argT]
 unfold F67 at h
 refine Zb <| Z5 <| Z1 I (Zd (v := (.bool false)) I I) I <| Z7 <| Z8 <| Zb <| Z5 <| Z1 I (Z9 I I) I <| Z1 I (Z2z (b := []) (c := (a0 == [])) I I I I) I <| Z1 I (Z9 I I) I ?_
 have hif := Z1h h
 refine Z16 (fun hc => ?_) (fun hc => ?_)
 ·have h := hif.1 hc
  refine Zg I I I I I I I <| Zg I I I I I I I <| Z1 I (Z19 (v := (.bool true)) I I I) I <| Z1 I (Zd (v := (.bool true)) I I) I <| Z7 <| Z8 <| Z1e ?_
  have h := Option.some.inj h
  subst h
  refine (hret _ ?_).1
  exact ⟨[(.bool true)], ⟨I, J0⟩, I, J0⟩
 have h := hif.2 hc
 refine Zc I I I I (Z9 I I) I ?_
 have ⟨v2, hv2, h⟩ := Z1a h
 refine Zc I I I I (Z1d (ar := [(.str a0)]) Try.call62 (F62_ok K a0 v2 hv2) I I ⟨I, J0⟩ I) I <| Z1 I (Zy I I I) I <| Z1 I (Zd I I) I <| Z7 <| Z8 <| Z1e ?_
 have h := Option.some.inj h
 subst h
 refine (hret _ ?_).1
 exact ⟨[(.bool v2)], ⟨I, J0⟩, I, J0⟩
def F39_c19 (_K : Nat) : Option (Int) :=
 some 0
def F39_l18 (K : Nat) (a0 : Ze) (c20 : Option (Int)) : Nat → Int → Option (Int)
 | 0, _ => none
 | k18 + 1, v17 =>
 if (decide (v17 < (a0.Acks.length : Int))) = true then
 if (0 : Int) ≤ v17 ∧ v17 < a0.Acks.length then
 (F67 K (a0.Acks.getD v17.toNat Z1q).Group).bind fun v24 =>
 if (!v24) = true then
 some 11
 else
 (F62 K (a0.Acks.getD v17.toNat Z1q).Who).bind fun v26 =>
 if (!v26) = true then
 some 11
 else
 (F65 K (a0.Acks.getD v17.toNat Z1q).At).bind fun v28 =>
 if (!v28) = true then
 some 32
 else
 (F39_l18 K a0 c20 k18) (IntKind.i64.wrap (v17 + 1))
 else none
 else
 c20
def F39_c15 (K : Nat) (a0 : Ze) : Option (Int) :=
 F39_l18 K a0 (F39_c19 K) K 0
def F39_j31 (_K : Nat) (b29 : Int → Option (Int)) (v13 : Int) : Option (Int) :=
 b29 (IntKind.i64.wrap (v13 + 1))
def F39_l14 (K : Nat) (a0 : Ze) (c16 : Option (Int)) : Nat → Int → Option (Int)
 | 0, _ => none
 | k14 + 1, v13 =>
 if (decide (v13 < (a0.Silences.length : Int))) = true then
 if (0 : Int) ≤ v13 ∧ v13 < a0.Silences.length then
 if (decide ((a0.Silences.getD v13.toNat Zr).Id < 1)) = true then
 some 2
 else
 if (decide ((a0.Silences.getD v13.toNat Zr).Id > 1048576)) = true then
 some 2
 else
 if (decide (v13 > 0)) = true then
 if (0 : Int) ≤ (IntKind.i64.wrap (v13 - 1)) ∧ (IntKind.i64.wrap (v13 - 1)) < a0.Silences.length then
 if (decide ((a0.Silences.getD v13.toNat Zr).Id ≤ (a0.Silences.getD (IntKind.i64.wrap (v13 - 1)).toNat Zr).Id)) = true then
 some 8
 else
 (F67 K (a0.Silences.getD v13.toNat Zr).Rule).bind fun v34 =>
 if (!v34) = true then
 some 11
 else
 (F67 K (a0.Silences.getD v13.toNat Zr).Service).bind fun v36 =>
 if (!v36) = true then
 some 11
 else
 (F66 K (a0.Silences.getD v13.toNat Zr).When).bind fun v38 =>
 if (!v38) = true then
 some 32
 else
 F39_j31 K (F39_l14 K a0 c16 k14) v13
 else none
 else
 (F67 K (a0.Silences.getD v13.toNat Zr).Rule).bind fun v40 =>
 if (!v40) = true then
 some 11
 else
 (F67 K (a0.Silences.getD v13.toNat Zr).Service).bind fun v42 =>
 if (!v42) = true then
 some 11
 else
 (F66 K (a0.Silences.getD v13.toNat Zr).When).bind fun v44 =>
 if (!v44) = true then
 some 32
 else
 F39_j31 K (F39_l14 K a0 c16 k14) v13
 else none
 else
 c16
def F39_c11 (K : Nat) (a0 : Ze) : Option (Int) :=
 F39_l14 K a0 (F39_c15 K a0) K 0
def F39_l10 (K : Nat) (a0 : Ze) (c12 : Option (Int)) : Nat → Int → Option (Int)
 | 0, _ => none
 | k10 + 1, v9 =>
 if (decide (v9 < (a0.Firings.length : Int))) = true then
 if (0 : Int) ≤ v9 ∧ v9 < a0.Firings.length then
 (F62 K (a0.Firings.getD v9.toNat Z12).Rule).bind fun v48 =>
 if (!v48) = true then
 some 11
 else
 (F62 K (a0.Firings.getD v9.toNat Z12).Service).bind fun v50 =>
 if (!v50) = true then
 some 11
 else
 (F66 K (a0.Firings.getD v9.toNat Z12).When).bind fun v52 =>
 if (!v52) = true then
 some 32
 else
 (F39_l10 K a0 c12 k10) (IntKind.i64.wrap (v9 + 1))
 else none
 else
 c12
def F39_c7 (K : Nat) (a0 : Ze) : Option (Int) :=
 F39_l10 K a0 (F39_c11 K a0) K 0
def F39_j57 (_K : Nat) (b53 : Int → Option (Int)) (v5 : Int) : Option (Int) :=
 b53 (IntKind.i64.wrap (v5 + 1))
def F39_l6 (K : Nat) (a0 : Ze) (c8 : Option (Int)) : Nat → Int → Option (Int)
 | 0, _ => none
 | k6 + 1, v5 =>
 if (decide (v5 < (a0.Policy.Steps.length : Int))) = true then
 if (0 : Int) ≤ v5 ∧ v5 < a0.Policy.Steps.length then
 (F65 K (a0.Policy.Steps.getD v5.toNat Zl).After).bind fun v56 =>
 if (!v56) = true then
 some 2
 else
 if (decide (v5 > 0)) = true then
 if (0 : Int) ≤ (IntKind.i64.wrap (v5 - 1)) ∧ (IntKind.i64.wrap (v5 - 1)) < a0.Policy.Steps.length then
 if (decide ((a0.Policy.Steps.getD v5.toNat Zl).After ≤ (a0.Policy.Steps.getD (IntKind.i64.wrap (v5 - 1)).toNat Zl).After)) = true then
 some 8
 else
 (F62 K (a0.Policy.Steps.getD v5.toNat Zl).Who).bind fun v60 =>
 if (!v60) = true then
 some 11
 else
 F39_j57 K (F39_l6 K a0 c8 k6) v5
 else none
 else
 (F62 K (a0.Policy.Steps.getD v5.toNat Zl).Who).bind fun v62 =>
 if (!v62) = true then
 some 11
 else
 F39_j57 K (F39_l6 K a0 c8 k6) v5
 else none
 else
 c8
def F39_j4 (K : Nat) (a0 : Ze) (v3 : Bool) : Option (Int) :=
 if v3 = true then
 some 6
 else
 F39_l6 K a0 (F39_c7 K a0) K 0
def F39 (K : Nat) (a0 : Ze) : Option (Int) :=
 if (decide (a0.Policy.By < 0)) = true then
 some 12
 else
 if (decide (a0.Policy.By > 2)) = true then
 some 12
 else
 (F65 K a0.Policy.Repeat).bind fun v2 =>
 if (!v2) = true then
 some 2
 else
 if ((a0.Policy.Steps.length : Int) == 0) = true then
 some 7
 else
 if (decide ((a0.Policy.Steps.length : Int) > 8)) = true then
 F39_j4 K a0 true
 else
 if (decide ((a0.Firings.length : Int) > 256)) = true then
 F39_j4 K a0 true
 else
 if (decide ((a0.Silences.length : Int) > 256)) = true then
 F39_j4 K a0 true
 else
 F39_j4 K a0 (decide ((a0.Acks.length : Int) > 256))
theorem F39_ok (K : Nat) (a0 : Ze) (r : Int) (h : F39 K a0 = some r) : ACall P 39 ⟨[(Zf a0)], [], (.int .i64 r), [], []⟩ := by
 refine Z1v Try.func39 Try.results39 rfl Try.ntmps39 rfl rfl rfl ?_
 intro E Q hP hN hro hret
 obtain ⟨P', nt', w0, F0, p0, S0, β0, ro0⟩ := E
 simp only at hP hN
 subst hP hN
 dsimp only [argT]
 unfold F39 at h
 refine Zb <| Z5 <| Z1 I (Z2r I I I I I) I <| Z1 I (Zd (v := (.int .i64 0)) I I) I <| Z7 <| Z8 <| Zb <| Z5 <| Z1 I (Zm I f34_0 I I) I <| Z1 I (Z1n I a29 I I I I) I <| Z1 I (Z1x I z29 I I I) I <| Z1 I (Z1f sz29 I I I I I I I I) I <| Z7 <| Z8 <| Zb <| Z1t <| Zb <| Z5 <| Z1 I (Zm I f29_0 I I) I <| Z1 I (Zs I o3 I I I) I <| Z1 I (Z1c (b := 0) (c := (decide (a0.Policy.By < 0))) I I I I) I <| Z1 I (Z9 I I) I ?_
 have hif := Z1h h
 refine Z16 (fun hc => ?_) (fun hc => ?_)
 ·have h := hif.1 hc
  refine Zg I I I I I I I <| Zg I I I I I I I <| Zg I I I I I I I <| Z1 I (Z19 (v := (.bool true)) I I I) I <| Z1 I (Zd (v := (.bool true)) I I) I <| Z7 <| Z8 ?_
  refine Zq (b := true) I (fun hc => ?_) (fun hc => ?_)
  rotate_left
  ·cases hc
  refine Zb <| Z5 <| Z1 I (Zd (v := (.int .i64 12)) I I) I <| Z7 <| Z8 <| Z1e <| Z18 <| Zx ?_
  have h := Option.some.inj h
  subst h
  refine (hret _ ?_).1
  exact ⟨[(.int .i64 12)], ⟨I, J0⟩, I, J0⟩
 have h := hif.2 hc
 refine Zc I I I I (Zm I f29_0 I I) I <| Zc I I I I (Zs I o3 I I I) I <| Zc I I I I (Z1c (b := 2) (c := (decide (a0.Policy.By > 2))) I I I I) I <| Z1 I (Zy I I I) I <| Z1 I (Zd I I) I <| Z7 <| Z8 ?_
 have hif := Z1h h
 refine Zq I (fun hc => ?_) (fun hc => ?_)
 ·have h := hif.1 hc
  refine Zb <| Z5 <| Z1 I (Zd (v := (.int .i64 12)) I I) I <| Z7 <| Z8 <| Z1e <| Z18 <| Zx ?_
  have h := Option.some.inj h
  subst h
  refine (hret _ ?_).1
  exact ⟨[(.int .i64 12)], ⟨I, J0⟩, I, J0⟩
 have h := hif.2 hc
 refine Zb <| Z5 <| Z1 I (Zm I f29_1 I I) I <| Z1 I (Zs I o3 I I I) I ?_
 have ⟨v2, hv2, h⟩ := Z1a h
 refine Z1 I (Z1d (ar := [(.int .i64 a0.Policy.Repeat)]) Try.call65 (F65_ok K a0.Policy.Repeat v2 hv2) I I ⟨I, J0⟩ I) I <| Z1 I (Z2c I I) I <| Z1 I (Zd I I) I <| Z7 <| Z8 ?_
 have hif := Z1h h
 refine Zq I (fun hc => ?_) (fun hc => ?_)
 ·have h := hif.1 hc
  refine Zb <| Z5 <| Z1 I (Zd (v := (.int .i64 2)) I I) I <| Z7 <| Z8 <| Z1e <| Z18 <| Zx ?_
  have h := Option.some.inj h
  subst h
  refine (hret _ ?_).1
  exact ⟨[(.int .i64 2)], ⟨I, J0⟩, I, J0⟩
 have h := hif.2 hc
 refine Zb <| Z5 <| Z1 I (Zm I f29_2 I I) I <| Z1 I (Zs I o27 I I I) I <| Z1 I (Z24 (l := a0.Policy.Steps) (enc := Zj) I s27 I) I <| Z1 I (Z1c (b := 0) (c := ((a0.Policy.Steps.length : Int) == 0)) I I I I) I <| Z1 I (Zd I I) I <| Z7 <| Z8 ?_
 have hif := Z1h h
 refine Zq I (fun hc => ?_) (fun hc => ?_)
 ·have h := hif.1 hc
  refine Zb <| Z5 <| Z1 I (Zd (v := (.int .i64 7)) I I) I <| Z7 <| Z8 <| Z1e <| Z18 <| Zx ?_
  have h := Option.some.inj h
  subst h
  refine (hret _ ?_).1
  exact ⟨[(.int .i64 7)], ⟨I, J0⟩, I, J0⟩
 have h := hif.2 hc
 refine Zb ?_
 refine Z21 (V := Bool) (lp := fun v => F39_j4 K a0 v = some r) (sh := fun v => ⟨[(1, (.ptr 1 0)), (3, (.ptr 3 0)), (33, (.bool v))], [(1, (.box (Zf a0).cells)), (3, (.box (Z2i a0.Policy).cells))]⟩) ?_ ?_
 ·intro v h
  revert h
  revert v
  intro v3 h
  try dsimp only at h ⊢
  unfold F39_j4 at h
  refine Z8 ?_
  have hif := Z1h h
  refine Zq I (fun hc => ?_) (fun hc => ?_)
  ·have h := hif.1 hc
   refine Zb <| Z5 <| Z1 I (Zd (v := (.int .i64 6)) I I) I <| Z7 <| Z8 <| Z1e <| Z18 <| Zx ?_
   have h := Option.some.inj h
   subst h
   refine (hret _ ?_).1
   exact ⟨[(.int .i64 6)], ⟨I, J0⟩, I, J0⟩
  have h := hif.2 hc
  refine Z14 <| Z27 <| Z8 <| Zb <| Zb <| Z5 <| Z1 I (Zm I f29_2 I I) I <| Z1 I (Zs I o27 I I I) I <| Z1 I (Z24 (l := a0.Policy.Steps) (enc := Zj) I s27 I) I <| Z1 I (Z9 (v := (.int .i64 0)) I I) I <| Z7 <| Z8 <| Z1r (st' := ⟨[(1, (.ptr 1 0)), (3, (.ptr 3 0)), (57, (.sl 2 (a0.Policy.Steps.map Zj) false)), (58, (.int .i64 (a0.Policy.Steps.length : Int))), (59, (.int .i64 0))], [(1, (.box (Zf a0).cells)), (3, (.box (Z2i a0.Policy).cells))]⟩) ⟨I, I, I, I, I, J0⟩ ⟨I, I, J0⟩ ?_
  refine Z1o (V := Int) (X := Unit) (lp := fun k v => F39_l6 K a0 (F39_c7 K a0) k v = some r) (sh := fun v => ⟨[(1, (.ptr 1 0)), (3, (.ptr 3 0)), (57, (.sl 2 (a0.Policy.Steps.map Zj) false)), (58, (.int .i64 (a0.Policy.Steps.length : Int))), (59, (.int .i64 v))], [(1, (.box (Zf a0).cells)), (3, (.box (Z2i a0.Policy).cells))]⟩) (x := fun v => F39_c7 K a0 = some r) (shx := fun v => ⟨[(1, (.ptr 1 0))], [(1, (.box (Zf a0).cells))]⟩) (k := K) (v := 0) h ?_ ?_
  ·intro v h
   try dsimp only at h ⊢
   unfold F39_c7 at h
   refine Z8 <| Zb <| Zb <| Z5 <| Z1 I (Zm I f34_1 I I) I <| Z1 I (Zs I o30 I I I) I <| Z1 I (Z24 (l := a0.Firings) (enc := Zh) I s30 I) I <| Z1 I (Z9 (v := (.int .i64 0)) I I) I <| Z7 <| Z8 <| Z1r (st' := ⟨[(1, (.ptr 1 0)), (91, (.sl 4 (a0.Firings.map Zh) false)), (92, (.int .i64 (a0.Firings.length : Int))), (93, (.int .i64 0))], [(1, (.box (Zf a0).cells))]⟩) ⟨I, I, I, I, J0⟩ ⟨I, J0⟩ ?_
   refine Z1o (V := Int) (X := Unit) (lp := fun k v => F39_l10 K a0 (F39_c11 K a0) k v = some r) (sh := fun v => ⟨[(1, (.ptr 1 0)), (91, (.sl 4 (a0.Firings.map Zh) false)), (92, (.int .i64 (a0.Firings.length : Int))), (93, (.int .i64 v))], [(1, (.box (Zf a0).cells))]⟩) (x := fun v => F39_c11 K a0 = some r) (shx := fun v => ⟨[(1, (.ptr 1 0))], [(1, (.box (Zf a0).cells))]⟩) (k := K) (v := 0) h ?_ ?_
   ·intro v h
    try dsimp only at h ⊢
    unfold F39_c11 at h
    refine Z8 <| Zb <| Zb <| Z5 <| Z1 I (Zm I f34_2 I I) I <| Z1 I (Zs I o31 I I I) I <| Z1 I (Z24 (l := a0.Silences) (enc := Zk) I s31 I) I <| Z1 I (Z9 (v := (.int .i64 0)) I I) I <| Z7 <| Z8 <| Z1r (st' := ⟨[(1, (.ptr 1 0)), (115, (.sl 5 (a0.Silences.map Zk) false)), (116, (.int .i64 (a0.Silences.length : Int))), (117, (.int .i64 0))], [(1, (.box (Zf a0).cells))]⟩) ⟨I, I, I, I, J0⟩ ⟨I, J0⟩ ?_
    refine Z1o (V := Int) (X := Unit) (lp := fun k v => F39_l14 K a0 (F39_c15 K a0) k v = some r) (sh := fun v => ⟨[(1, (.ptr 1 0)), (115, (.sl 5 (a0.Silences.map Zk) false)), (116, (.int .i64 (a0.Silences.length : Int))), (117, (.int .i64 v))], [(1, (.box (Zf a0).cells))]⟩) (x := fun v => F39_c15 K a0 = some r) (shx := fun v => ⟨[(1, (.ptr 1 0))], [(1, (.box (Zf a0).cells))]⟩) (k := K) (v := 0) h ?_ ?_
    ·intro v h
     try dsimp only at h ⊢
     unfold F39_c15 at h
     refine Z8 <| Zb <| Zb <| Z5 <| Z1 I (Zm I f34_3 I I) I <| Z1 I (Zs I o32 I I I) I <| Z1 I (Z24 (l := a0.Acks) (enc := Zp) I s32 I) I <| Z1 I (Z9 (v := (.int .i64 0)) I I) I <| Z7 <| Z8 <| Z1r (st' := ⟨[(164, (.sl 3 (a0.Acks.map Zp) false)), (165, (.int .i64 (a0.Acks.length : Int))), (166, (.int .i64 0))], []⟩) ⟨I, I, I, J0⟩ J0 ?_
     refine Z1o (V := Int) (X := Unit) (lp := fun k v => F39_l18 K a0 (F39_c19 K) k v = some r) (sh := fun v => ⟨[(164, (.sl 3 (a0.Acks.map Zp) false)), (165, (.int .i64 (a0.Acks.length : Int))), (166, (.int .i64 v))], []⟩) (x := fun v => F39_c19 K = some r) (shx := fun v => ⟨[], []⟩) (k := K) (v := 0) h ?_ ?_
     ·intro v h
      try dsimp only at h ⊢
      unfold F39_c19 at h
      refine Z8 <| Zb <| Z5 <| Z1 I (Zd (v := (.int .i64 0)) I I) I <| Z7 <| Z8 <| Z1e ?_
      have h := Option.some.inj h
      subst h
      refine (hret _ ?_).1
      exact ⟨[(.int .i64 0)], ⟨I, J0⟩, I, J0⟩
     intro N k18 v h IH18 J18
     revert h
     revert v
     intro v17 h
     try dsimp only at h IH18 J18 ⊢
     cases k18 with
     | zero => cases h
     | succ k18 =>
      rw [F39_l18] at h
      refine Zb <| Z5 <| Z1 I (Z1c (c := (decide (v17 < (a0.Acks.length : Int)))) I I I I) I <| Z7 <| Z8 <| Zb ?_
      have hif := Z1h h
      refine Zq I (fun hc => ?_) (fun hc => ?_)
      ·have h := hif.1 hc
       refine Z14 <| Z8 <| Zb <| Z1t <| Zb <| Z5 ?_
       have ⟨hg22, h⟩ := Zw h
       refine Z1 I (Z1s (k := .i64) (l := a0.Acks) (enc := Zp) (z := Z1q) (n := v17) (full := false) I s32 I I hg22 I) I <| Z1 I (Z28 I a63 I I I) I <| Z1 I (Z1x I z63 I I I) I <| Z1 I (Z1f sz63 I I I I I I I I) I <| Z7 <| Z8 <| Z1t <| Zb <| Z5 <| Z1 I (Zm I f63_0 I I) I <| Z1 I (Zs I o9 I I I) I ?_
       have ⟨v24, hv24, h⟩ := Z1a h
       refine Z1 I (Z1d (ar := [(.str (a0.Acks.getD v17.toNat Z1q).Group)]) Try.call67 (F67_ok K (a0.Acks.getD v17.toNat Z1q).Group v24 hv24) I I ⟨I, J0⟩ I) I <| Z1 I (Z2c I I) I <| Z1 I (Z9 I I) I ?_
       have hif := Z1h h
       refine Z16 (fun hc => ?_) (fun hc => ?_)
       ·have h := hif.1 hc
        iterate 4 refine Zg I I I I I I I ?_
        refine Z1 I (Z19 (v := (.bool true)) I I I) I <| Z1 I (Zd (v := (.bool true)) I I) I <| Z7 <| Z8 ?_
        refine Zq (b := true) I (fun hc => ?_) (fun hc => ?_)
        rotate_left
        ·cases hc
        refine Zb <| Z5 <| Z1 I (Zd (v := (.int .i64 11)) I I) I <| Z7 <| Z8 <| Z1e <| Z18 <| Z18 <| Zx ?_
        refine Zx (Z18 ?_)
        refine Zx ?_
        have h := Option.some.inj h
        subst h
        refine (hret _ ?_).1
        exact ⟨[(.int .i64 11)], ⟨I, J0⟩, I, J0⟩
       have h := hif.2 hc
       refine Zc I I I I (Zm I f63_1 I I) I <| Zc I I I I (Zs I o9 I I I) I ?_
       have ⟨v26, hv26, h⟩ := Z1a h
       refine Zc I I I I (Z1d (ar := [(.str (a0.Acks.getD v17.toNat Z1q).Who)]) Try.call62 (F62_ok K (a0.Acks.getD v17.toNat Z1q).Who v26 hv26) I I ⟨I, J0⟩ I) I <| Zc I I I I (Z2c I I) I <| Z1 I (Zy I I I) I <| Z1 I (Zd I I) I <| Z7 <| Z8 ?_
       have hif := Z1h h
       refine Zq I (fun hc => ?_) (fun hc => ?_)
       ·have h := hif.1 hc
        refine Zb <| Z5 <| Z1 I (Zd (v := (.int .i64 11)) I I) I <| Z7 <| Z8 <| Z1e <| Z18 <| Z18 <| Zx ?_
        refine Zx (Z18 ?_)
        refine Zx ?_
        have h := Option.some.inj h
        subst h
        refine (hret _ ?_).1
        exact ⟨[(.int .i64 11)], ⟨I, J0⟩, I, J0⟩
       have h := hif.2 hc
       refine Zb <| Z5 <| Z1 I (Zm I f63_2 I I) I <| Z1 I (Zs I o3 I I I) I ?_
       have ⟨v28, hv28, h⟩ := Z1a h
       refine Z1 I (Z1d (ar := [(.int .i64 (a0.Acks.getD v17.toNat Z1q).At)]) Try.call65 (F65_ok K (a0.Acks.getD v17.toNat Z1q).At v28 hv28) I I ⟨I, J0⟩ I) I <| Z1 I (Z2c I I) I <| Z1 I (Zd I I) I <| Z7 <| Z8 ?_
       have hif := Z1h h
       refine Zq I (fun hc => ?_) (fun hc => ?_)
       ·have h := hif.1 hc
        refine Zb <| Z5 <| Z1 I (Zd (v := (.int .i64 32)) I I) I <| Z7 <| Z8 <| Z1e <| Z18 <| Z18 <| Zx ?_
        refine Zx (Z18 ?_)
        refine Zx ?_
        have h := Option.some.inj h
        subst h
        refine (hret _ ?_).1
        exact ⟨[(.int .i64 32)], ⟨I, J0⟩, I, J0⟩
       have h := hif.2 hc
       refine Z14 <| Z27 <| Z27 <| Z8 <| Z5 <| Z1 I (Z1p (k := .i64) (b := 1) (c := (IntKind.i64.wrap (v17 + 1))) I I I I) I <| Z1 I (Z9 I I) I <| Z7 ?_
       exact Zz (IH18 _ (IntKind.i64.wrap (v17 + 1)) (Nat.lt_succ_self _) h) ⟨I, I, I, J0⟩ trivial
      have h := hif.2 hc
      refine Z1u <| Z26 ?_
      exact Zz (J18 () h) J0 trivial
    intro N k14 v h IH14 J14
    revert h
    revert v
    intro v13 h
    try dsimp only at h IH14 J14 ⊢
    cases k14 with
    | zero => cases h
    | succ k14 =>
     rw [F39_l14] at h
     refine Zb <| Z5 <| Z1 I (Z1c (c := (decide (v13 < (a0.Silences.length : Int)))) I I I I) I <| Z7 <| Z8 <| Zb ?_
     have hif := Z1h h
     refine Zq I (fun hc => ?_) (fun hc => ?_)
     ·have h := hif.1 hc
      refine Z14 <| Z8 <| Zb <| Z1t <| Zb <| Z5 <| Z1 I (Z9 I I) I ?_
      have ⟨hg30, h⟩ := Zw h
      refine Z1 I (Z1s (k := .i64) (l := a0.Silences) (enc := Zk) (z := Zr) (n := v13) (full := false) I s31 I I hg30 I) I <| Z1 I (Z28 I a67 I I I) I <| Z1 I (Z1x I z67 I I I) I <| Z1 I (Zd I I) I <| Z1 I (Z1f sz67 I I I I I I I I) I <| Z7 <| Z8 <| Z1t <| Zb <| Z5 <| Z1 I (Zm I f67_0 I I) I <| Z1 I (Zs I o3 I I I) I <| Z1 I (Z1c (b := 1) (c := (decide ((a0.Silences.getD v13.toNat Zr).Id < 1))) I I I I) I <| Z1 I (Z9 I I) I ?_
      have hif := Z1h h
      refine Z16 (fun hc => ?_) (fun hc => ?_)
      ·have h := hif.1 hc
       refine Zg I I I I I I I <| Zg I I I I I I I <| Zg I I I I I I I <| Z1 I (Z19 (v := (.bool true)) I I I) I <| Z1 I (Zd (v := (.bool true)) I I) I <| Z7 <| Z8 ?_
       refine Zq (b := true) I (fun hc => ?_) (fun hc => ?_)
       rotate_left
       ·cases hc
       refine Zb <| Z5 <| Z1 I (Zd (v := (.int .i64 2)) I I) I <| Z7 <| Z8 <| Z1e <| Z18 <| Z18 <| Zx ?_
       refine Zx (Z18 ?_)
       refine Zx ?_
       have h := Option.some.inj h
       subst h
       refine (hret _ ?_).1
       exact ⟨[(.int .i64 2)], ⟨I, J0⟩, I, J0⟩
      have h := hif.2 hc
      refine Zc I I I I (Zm I f67_0 I I) I <| Zc I I I I (Zs I o3 I I I) I <| Zc I I I I (Z1c (b := 1048576) (c := (decide ((a0.Silences.getD v13.toNat Zr).Id > 1048576))) I I I I) I <| Z1 I (Zy I I I) I <| Z1 I (Zd I I) I <| Z7 <| Z8 ?_
      refine Z21 (V := Unit) (lp := fun v => F39_j31 K (F39_l14 K a0 (F39_c15 K a0) k14) v13 = some r) (sh := fun v => ⟨[(1, (.ptr 1 0)), (115, (.sl 5 (a0.Silences.map Zk) false)), (116, (.int .i64 (a0.Silences.length : Int))), (117, (.int .i64 v13))], [(1, (.box (Zf a0).cells))]⟩) ?_ ?_
      ·intro v h
       try dsimp only at h ⊢
       unfold F39_j31 at h
       refine Z27 <| Z27 <| Z8 <| Z5 <| Z1 I (Z1p (k := .i64) (b := 1) (c := (IntKind.i64.wrap (v13 + 1))) I I I I) I <| Z1 I (Z9 I I) I <| Z7 ?_
       exact Zz (IH14 _ (IntKind.i64.wrap (v13 + 1)) (Nat.lt_succ_self _) h) ⟨I, I, I, I, J0⟩ ⟨I, J0⟩
      intro J31
      have hif := Z1h h
      refine Zq I (fun hc => ?_) (fun hc => ?_)
      ·have h := hif.1 hc
       refine Zb <| Z5 <| Z1 I (Zd (v := (.int .i64 2)) I I) I <| Z7 <| Z8 <| Z1e <| Z18 <| Z18 <| Zx ?_
       refine Zx (Z18 ?_)
       refine Zx ?_
       have h := Option.some.inj h
       subst h
       refine (hret _ ?_).1
       exact ⟨[(.int .i64 2)], ⟨I, J0⟩, I, J0⟩
      have h := hif.2 hc
      refine Zb <| Z1y mixed <| Za 0 I (Z9 I I) <| Za 1 I (Z1c (b := 0) (c := (decide (v13 > 0))) I I I I) <| Za 2 I (Z9 I I) ?_
      have hif := Z1h h
      refine Z3f (fun hc => ?_) (fun hc => ?_)
      ·have h := hif.1 hc
       refine Z17 3 I I I I (Zm I f67_0 I I) <| Z17 4 I I I I (Zs I o3 I I I) <| Z17 5 I I I I (Zm I f34_2 I I) <| Z17 6 I I I I (Zs I o31 I I I) <| Z17 7 I I I I (Z9 I I) <| Z17 8 I I I I (Z1p (k := .i64) (b := 1) (c := (IntKind.i64.wrap (v13 - 1))) I I I I) ?_
       have ⟨hg32, h⟩ := Zw h
       refine Z17 9 I I I I (Z1s (k := .i64) (l := a0.Silences) (enc := Zk) (z := Zr) (n := (IntKind.i64.wrap (v13 - 1))) (full := false) I s31 I I hg32 I) <| Z17 10 I I I I (Z1w I f67_0 I I I) <| Z17 11 I I I I (Z1l I o3 I I) <| Z17 12 I I I I (Z1c (c := (decide ((a0.Silences.getD v13.toNat Zr).Id ≤ (a0.Silences.getD (IntKind.i64.wrap (v13 - 1)).toNat Zr).Id))) I I I I) <| Za 13 I (Z19 I I I) <| Za 14 I (Zd I I) <| Z1z (by kernel_rfl) I <| Z8 ?_
       have hif := Z1h h
       refine Zq I (fun hc => ?_) (fun hc => ?_)
       ·have h := hif.1 hc
        refine Zb <| Z5 <| Z1 I (Zd (v := (.int .i64 8)) I I) I <| Z7 <| Z8 <| Z1e <| Z18 <| Z18 <| Zx ?_
        refine Zx (Z18 ?_)
        refine Zx ?_
        have h := Option.some.inj h
        subst h
        refine (hret _ ?_).1
        exact ⟨[(.int .i64 8)], ⟨I, J0⟩, I, J0⟩
       have h := hif.2 hc
       refine Zb <| Z5 <| Z1 I (Zm I f67_1 I I) I <| Z1 I (Zs I o9 I I I) I ?_
       have ⟨v34, hv34, h⟩ := Z1a h
       refine Z1 I (Z1d (ar := [(.str (a0.Silences.getD v13.toNat Zr).Rule)]) Try.call67 (F67_ok K (a0.Silences.getD v13.toNat Zr).Rule v34 hv34) I I ⟨I, J0⟩ I) I <| Z1 I (Z2c I I) I <| Z1 I (Z9 I I) I ?_
       have hif := Z1h h
       refine Z16 (fun hc => ?_) (fun hc => ?_)
       ·have h := hif.1 hc
        iterate 4 refine Zg I I I I I I I ?_
        refine Z1 I (Z19 (v := (.bool true)) I I I) I <| Z1 I (Zd (v := (.bool true)) I I) I <| Z7 <| Z8 ?_
        refine Zq (b := true) I (fun hc => ?_) (fun hc => ?_)
        rotate_left
        ·cases hc
        refine Zb <| Z5 <| Z1 I (Zd (v := (.int .i64 11)) I I) I <| Z7 <| Z8 <| Z1e <| Z18 <| Z18 <| Zx ?_
        refine Zx (Z18 ?_)
        refine Zx ?_
        have h := Option.some.inj h
        subst h
        refine (hret _ ?_).1
        exact ⟨[(.int .i64 11)], ⟨I, J0⟩, I, J0⟩
       have h := hif.2 hc
       refine Zc I I I I (Zm I f67_2 I I) I <| Zc I I I I (Zs I o9 I I I) I ?_
       have ⟨v36, hv36, h⟩ := Z1a h
       refine Zc I I I I (Z1d (ar := [(.str (a0.Silences.getD v13.toNat Zr).Service)]) Try.call67 (F67_ok K (a0.Silences.getD v13.toNat Zr).Service v36 hv36) I I ⟨I, J0⟩ I) I <| Zc I I I I (Z2c I I) I <| Z1 I (Zy I I I) I <| Z1 I (Zd I I) I <| Z7 <| Z8 ?_
       have hif := Z1h h
       refine Zq I (fun hc => ?_) (fun hc => ?_)
       ·have h := hif.1 hc
        refine Zb <| Z5 <| Z1 I (Zd (v := (.int .i64 11)) I I) I <| Z7 <| Z8 <| Z1e <| Z18 <| Z18 <| Zx ?_
        refine Zx (Z18 ?_)
        refine Zx ?_
        have h := Option.some.inj h
        subst h
        refine (hret _ ?_).1
        exact ⟨[(.int .i64 11)], ⟨I, J0⟩, I, J0⟩
       have h := hif.2 hc
       refine Zb <| Z5 <| Z1 I (Zm I f67_3 I I) I <| Z1 I (Z1n I a40 I I I I) I ?_
       have ⟨v38, hv38, h⟩ := Z1a h
       refine Z1 I (Z1d (ar := [(Z6 (a0.Silences.getD v13.toNat Zr).When)]) Try.call66 (F66_ok K (a0.Silences.getD v13.toNat Zr).When v38 hv38) I I ⟨I, J0⟩ I) I <| Z1 I (Z2c I I) I <| Z1 I (Zd I I) I <| Z7 <| Z8 ?_
       have hif := Z1h h
       refine Zq I (fun hc => ?_) (fun hc => ?_)
       ·have h := hif.1 hc
        refine Zb <| Z5 <| Z1 I (Zd (v := (.int .i64 32)) I I) I <| Z7 <| Z8 <| Z1e <| Z18 <| Z18 <| Zx ?_
        refine Zx (Z18 ?_)
        refine Zx ?_
        have h := Option.some.inj h
        subst h
        refine (hret _ ?_).1
        exact ⟨[(.int .i64 32)], ⟨I, J0⟩, I, J0⟩
       have h := hif.2 hc
       refine Z14 ?_
       exact Zz (J31 () h) ⟨I, I, I, I, J0⟩ ⟨I, J0⟩
      have h := hif.2 hc
      refine Z11 3 I I I I I I I <| Z11 4 I I I I I I I <| Z11 5 I I I I I I I <| Z11 6 I I I I I I I <| Z11 7 I I I I I I I <| Z11 8 I I I I I I I <| Z11 9 I I I I I I I <| Z11 10 I I I I I I I <| Z11 11 I I I I I I I <| Z11 12 I I I I I I I <| Za 13 I (Zy (v := (.bool false)) I I I) <| Za 14 I (Zd (v := (.bool false)) I I) <| Z1z (by kernel_rfl) I <| Z8 ?_
      refine Zq (b := false) I (fun hc => ?_) (fun hc => ?_)
      ·cases hc
      refine Zb <| Z5 <| Z1 I (Zm I f67_1 I I) I <| Z1 I (Zs I o9 I I I) I ?_
      have ⟨v40, hv40, h⟩ := Z1a h
      refine Z1 I (Z1d (ar := [(.str (a0.Silences.getD v13.toNat Zr).Rule)]) Try.call67 (F67_ok K (a0.Silences.getD v13.toNat Zr).Rule v40 hv40) I I ⟨I, J0⟩ I) I <| Z1 I (Z2c I I) I <| Z1 I (Z9 I I) I ?_
      have hif := Z1h h
      refine Z16 (fun hc => ?_) (fun hc => ?_)
      ·have h := hif.1 hc
       iterate 4 refine Zg I I I I I I I ?_
       refine Z1 I (Z19 (v := (.bool true)) I I I) I <| Z1 I (Zd (v := (.bool true)) I I) I <| Z7 <| Z8 ?_
       refine Zq (b := true) I (fun hc => ?_) (fun hc => ?_)
       rotate_left
       ·cases hc
       refine Zb <| Z5 <| Z1 I (Zd (v := (.int .i64 11)) I I) I <| Z7 <| Z8 <| Z1e <| Z18 <| Z18 <| Zx ?_
       refine Zx (Z18 ?_)
       refine Zx ?_
       have h := Option.some.inj h
       subst h
       refine (hret _ ?_).1
       exact ⟨[(.int .i64 11)], ⟨I, J0⟩, I, J0⟩
      have h := hif.2 hc
      refine Zc I I I I (Zm I f67_2 I I) I <| Zc I I I I (Zs I o9 I I I) I ?_
      have ⟨v42, hv42, h⟩ := Z1a h
      refine Zc I I I I (Z1d (ar := [(.str (a0.Silences.getD v13.toNat Zr).Service)]) Try.call67 (F67_ok K (a0.Silences.getD v13.toNat Zr).Service v42 hv42) I I ⟨I, J0⟩ I) I <| Zc I I I I (Z2c I I) I <| Z1 I (Zy I I I) I <| Z1 I (Zd I I) I <| Z7 <| Z8 ?_
      have hif := Z1h h
      refine Zq I (fun hc => ?_) (fun hc => ?_)
      ·have h := hif.1 hc
       refine Zb <| Z5 <| Z1 I (Zd (v := (.int .i64 11)) I I) I <| Z7 <| Z8 <| Z1e <| Z18 <| Z18 <| Zx ?_
       refine Zx (Z18 ?_)
       refine Zx ?_
       have h := Option.some.inj h
       subst h
       refine (hret _ ?_).1
       exact ⟨[(.int .i64 11)], ⟨I, J0⟩, I, J0⟩
      have h := hif.2 hc
      refine Zb <| Z5 <| Z1 I (Zm I f67_3 I I) I <| Z1 I (Z1n I a40 I I I I) I ?_
      have ⟨v44, hv44, h⟩ := Z1a h
      refine Z1 I (Z1d (ar := [(Z6 (a0.Silences.getD v13.toNat Zr).When)]) Try.call66 (F66_ok K (a0.Silences.getD v13.toNat Zr).When v44 hv44) I I ⟨I, J0⟩ I) I <| Z1 I (Z2c I I) I <| Z1 I (Zd I I) I <| Z7 <| Z8 ?_
      have hif := Z1h h
      refine Zq I (fun hc => ?_) (fun hc => ?_)
      ·have h := hif.1 hc
       refine Zb <| Z5 <| Z1 I (Zd (v := (.int .i64 32)) I I) I <| Z7 <| Z8 <| Z1e <| Z18 <| Z18 <| Zx ?_
       refine Zx (Z18 ?_)
       refine Zx ?_
       have h := Option.some.inj h
       subst h
       refine (hret _ ?_).1
       exact ⟨[(.int .i64 32)], ⟨I, J0⟩, I, J0⟩
      have h := hif.2 hc
      refine Z14 ?_
      exact Zz (J31 () h) ⟨I, I, I, I, J0⟩ ⟨I, J0⟩
     have h := hif.2 hc
     refine Z1u <| Z26 ?_
     exact Zz (J14 () h) ⟨I, J0⟩ ⟨I, J0⟩
   intro N k10 v h IH10 J10
   revert h
   revert v
   intro v9 h
   try dsimp only at h IH10 J10 ⊢
   cases k10 with
   | zero => cases h
   | succ k10 =>
    rw [F39_l10] at h
    refine Zb <| Z5 <| Z1 I (Z1c (c := (decide (v9 < (a0.Firings.length : Int)))) I I I I) I <| Z7 <| Z8 <| Zb ?_
    have hif := Z1h h
    refine Zq I (fun hc => ?_) (fun hc => ?_)
    ·have h := hif.1 hc
     refine Z14 <| Z8 <| Zb <| Z1t <| Zb <| Z5 ?_
     have ⟨hg46, h⟩ := Zw h
     refine Z1 I (Z1s (k := .i64) (l := a0.Firings) (enc := Zh) (z := Z12) (n := v9) (full := false) I s30 I I hg46 I) I <| Z1 I (Z28 I a42 I I I) I <| Z1 I (Z1x I z42 I I I) I <| Z1 I (Z1f sz42 I I I I I I I I) I <| Z7 <| Z8 <| Z1t <| Zb <| Z5 <| Z1 I (Zm I f42_0 I I) I <| Z1 I (Zs I o9 I I I) I ?_
     have ⟨v48, hv48, h⟩ := Z1a h
     refine Z1 I (Z1d (ar := [(.str (a0.Firings.getD v9.toNat Z12).Rule)]) Try.call62 (F62_ok K (a0.Firings.getD v9.toNat Z12).Rule v48 hv48) I I ⟨I, J0⟩ I) I <| Z1 I (Z2c I I) I <| Z1 I (Z9 I I) I ?_
     have hif := Z1h h
     refine Z16 (fun hc => ?_) (fun hc => ?_)
     ·have h := hif.1 hc
      iterate 4 refine Zg I I I I I I I ?_
      refine Z1 I (Z19 (v := (.bool true)) I I I) I <| Z1 I (Zd (v := (.bool true)) I I) I <| Z7 <| Z8 ?_
      refine Zq (b := true) I (fun hc => ?_) (fun hc => ?_)
      rotate_left
      ·cases hc
      refine Zb <| Z5 <| Z1 I (Zd (v := (.int .i64 11)) I I) I <| Z7 <| Z8 <| Z1e <| Z18 <| Z18 <| Zx ?_
      refine Zx (Z18 ?_)
      refine Zx ?_
      have h := Option.some.inj h
      subst h
      refine (hret _ ?_).1
      exact ⟨[(.int .i64 11)], ⟨I, J0⟩, I, J0⟩
     have h := hif.2 hc
     refine Zc I I I I (Zm I f42_1 I I) I <| Zc I I I I (Zs I o9 I I I) I ?_
     have ⟨v50, hv50, h⟩ := Z1a h
     refine Zc I I I I (Z1d (ar := [(.str (a0.Firings.getD v9.toNat Z12).Service)]) Try.call62 (F62_ok K (a0.Firings.getD v9.toNat Z12).Service v50 hv50) I I ⟨I, J0⟩ I) I <| Zc I I I I (Z2c I I) I <| Z1 I (Zy I I I) I <| Z1 I (Zd I I) I <| Z7 <| Z8 ?_
     have hif := Z1h h
     refine Zq I (fun hc => ?_) (fun hc => ?_)
     ·have h := hif.1 hc
      refine Zb <| Z5 <| Z1 I (Zd (v := (.int .i64 11)) I I) I <| Z7 <| Z8 <| Z1e <| Z18 <| Z18 <| Zx ?_
      refine Zx (Z18 ?_)
      refine Zx ?_
      have h := Option.some.inj h
      subst h
      refine (hret _ ?_).1
      exact ⟨[(.int .i64 11)], ⟨I, J0⟩, I, J0⟩
     have h := hif.2 hc
     refine Zb <| Z5 <| Z1 I (Zm I f42_2 I I) I <| Z1 I (Z1n I a40 I I I I) I ?_
     have ⟨v52, hv52, h⟩ := Z1a h
     refine Z1 I (Z1d (ar := [(Z6 (a0.Firings.getD v9.toNat Z12).When)]) Try.call66 (F66_ok K (a0.Firings.getD v9.toNat Z12).When v52 hv52) I I ⟨I, J0⟩ I) I <| Z1 I (Z2c I I) I <| Z1 I (Zd I I) I <| Z7 <| Z8 ?_
     have hif := Z1h h
     refine Zq I (fun hc => ?_) (fun hc => ?_)
     ·have h := hif.1 hc
      refine Zb <| Z5 <| Z1 I (Zd (v := (.int .i64 32)) I I) I <| Z7 <| Z8 <| Z1e <| Z18 <| Z18 <| Zx ?_
      refine Zx (Z18 ?_)
      refine Zx ?_
      have h := Option.some.inj h
      subst h
      refine (hret _ ?_).1
      exact ⟨[(.int .i64 32)], ⟨I, J0⟩, I, J0⟩
     have h := hif.2 hc
     refine Z14 <| Z27 <| Z27 <| Z8 <| Z5 <| Z1 I (Z1p (k := .i64) (b := 1) (c := (IntKind.i64.wrap (v9 + 1))) I I I I) I <| Z1 I (Z9 I I) I <| Z7 ?_
     exact Zz (IH10 _ (IntKind.i64.wrap (v9 + 1)) (Nat.lt_succ_self _) h) ⟨I, I, I, I, J0⟩ ⟨I, J0⟩
    have h := hif.2 hc
    refine Z1u <| Z26 ?_
    exact Zz (J10 () h) ⟨I, J0⟩ ⟨I, J0⟩
  intro N k6 v h IH6 J6
  revert h
  revert v
  intro v5 h
  try dsimp only at h IH6 J6 ⊢
  cases k6 with
  | zero => cases h
  | succ k6 =>
   rw [F39_l6] at h
   refine Zb <| Z5 <| Z1 I (Z1c (c := (decide (v5 < (a0.Policy.Steps.length : Int)))) I I I I) I <| Z7 <| Z8 <| Zb ?_
   have hif := Z1h h
   refine Zq I (fun hc => ?_) (fun hc => ?_)
   ·have h := hif.1 hc
    refine Z14 <| Z8 <| Zb <| Z1t <| Zb <| Z5 <| Z1 I (Z9 I I) I ?_
    have ⟨hg54, h⟩ := Zw h
    refine Z1 I (Z1s (k := .i64) (l := a0.Policy.Steps) (enc := Zj) (z := Zl) (n := v5) (full := false) I s27 I I hg54 I) I <| Z1 I (Z28 I a71 I I I) I <| Z1 I (Z1x I z71 I I I) I <| Z1 I (Zd I I) I <| Z1 I (Z1f sz71 I I I I I I I I) I <| Z7 <| Z8 <| Z1t <| Zb <| Z5 <| Z1 I (Zm I f71_0 I I) I <| Z1 I (Zs I o3 I I I) I ?_
    have ⟨v56, hv56, h⟩ := Z1a h
    refine Z1 I (Z1d (ar := [(.int .i64 (a0.Policy.Steps.getD v5.toNat Zl).After)]) Try.call65 (F65_ok K (a0.Policy.Steps.getD v5.toNat Zl).After v56 hv56) I I ⟨I, J0⟩ I) I <| Z1 I (Z2c I I) I <| Z1 I (Zd I I) I <| Z7 <| Z8 ?_
    refine Z21 (V := Unit) (lp := fun v => F39_j57 K (F39_l6 K a0 (F39_c7 K a0) k6) v5 = some r) (sh := fun v => ⟨[(1, (.ptr 1 0)), (3, (.ptr 3 0)), (57, (.sl 2 (a0.Policy.Steps.map Zj) false)), (58, (.int .i64 (a0.Policy.Steps.length : Int))), (59, (.int .i64 v5))], [(1, (.box (Zf a0).cells)), (3, (.box (Z2i a0.Policy).cells))]⟩) ?_ ?_
    ·intro v h
     try dsimp only at h ⊢
     unfold F39_j57 at h
     refine Z27 <| Z27 <| Z8 <| Z5 <| Z1 I (Z1p (k := .i64) (b := 1) (c := (IntKind.i64.wrap (v5 + 1))) I I I I) I <| Z1 I (Z9 I I) I <| Z7 ?_
     exact Zz (IH6 _ (IntKind.i64.wrap (v5 + 1)) (Nat.lt_succ_self _) h) ⟨I, I, I, I, I, J0⟩ ⟨I, I, J0⟩
    intro J57
    have hif := Z1h h
    refine Zq I (fun hc => ?_) (fun hc => ?_)
    ·have h := hif.1 hc
     refine Zb <| Z5 <| Z1 I (Zd (v := (.int .i64 2)) I I) I <| Z7 <| Z8 <| Z1e <| Z18 <| Z18 <| Zx ?_
     refine Zx (Z18 ?_)
     refine Zx ?_
     have h := Option.some.inj h
     subst h
     refine (hret _ ?_).1
     exact ⟨[(.int .i64 2)], ⟨I, J0⟩, I, J0⟩
    have h := hif.2 hc
    refine Zb <| Z1y mixed <| Za 0 I (Z9 I I) <| Za 1 I (Z1c (b := 0) (c := (decide (v5 > 0))) I I I I) <| Za 2 I (Z9 I I) ?_
    have hif := Z1h h
    refine Z3f (fun hc => ?_) (fun hc => ?_)
    ·have h := hif.1 hc
     refine Z17 3 I I I I (Zm I f71_0 I I) <| Z17 4 I I I I (Zs I o3 I I I) <| Z17 5 I I I I (Zm I f29_2 I I) <| Z17 6 I I I I (Zs I o27 I I I) <| Z17 7 I I I I (Z9 I I) <| Z17 8 I I I I (Z1p (k := .i64) (b := 1) (c := (IntKind.i64.wrap (v5 - 1))) I I I I) ?_
     have ⟨hg58, h⟩ := Zw h
     refine Z17 9 I I I I (Z1s (k := .i64) (l := a0.Policy.Steps) (enc := Zj) (z := Zl) (n := (IntKind.i64.wrap (v5 - 1))) (full := false) I s27 I I hg58 I) <| Z17 10 I I I I (Z1w I f71_0 I I I) <| Z17 11 I I I I (Z1l I o3 I I) <| Z17 12 I I I I (Z1c (c := (decide ((a0.Policy.Steps.getD v5.toNat Zl).After ≤ (a0.Policy.Steps.getD (IntKind.i64.wrap (v5 - 1)).toNat Zl).After))) I I I I) <| Za 13 I (Z19 I I I) <| Za 14 I (Zd I I) <| Z1z (by kernel_rfl) I <| Z8 ?_
     have hif := Z1h h
     refine Zq I (fun hc => ?_) (fun hc => ?_)
     ·have h := hif.1 hc
      refine Zb <| Z5 <| Z1 I (Zd (v := (.int .i64 8)) I I) I <| Z7 <| Z8 <| Z1e <| Z18 <| Z18 <| Zx ?_
      refine Zx (Z18 ?_)
      refine Zx ?_
      have h := Option.some.inj h
      subst h
      refine (hret _ ?_).1
      exact ⟨[(.int .i64 8)], ⟨I, J0⟩, I, J0⟩
     have h := hif.2 hc
     refine Zb <| Z5 <| Z1 I (Zm I f71_1 I I) I <| Z1 I (Zs I o9 I I I) I ?_
     have ⟨v60, hv60, h⟩ := Z1a h
     refine Z1 I (Z1d (ar := [(.str (a0.Policy.Steps.getD v5.toNat Zl).Who)]) Try.call62 (F62_ok K (a0.Policy.Steps.getD v5.toNat Zl).Who v60 hv60) I I ⟨I, J0⟩ I) I <| Z1 I (Z2c I I) I <| Z1 I (Zd I I) I <| Z7 <| Z8 ?_
     have hif := Z1h h
     refine Zq I (fun hc => ?_) (fun hc => ?_)
     ·have h := hif.1 hc
      refine Zb <| Z5 <| Z1 I (Zd (v := (.int .i64 11)) I I) I <| Z7 <| Z8 <| Z1e <| Z18 <| Z18 <| Zx ?_
      refine Zx (Z18 ?_)
      refine Zx ?_
      have h := Option.some.inj h
      subst h
      refine (hret _ ?_).1
      exact ⟨[(.int .i64 11)], ⟨I, J0⟩, I, J0⟩
     have h := hif.2 hc
     refine Z14 ?_
     exact Zz (J57 () h) ⟨I, I, I, I, I, J0⟩ ⟨I, I, J0⟩
    have h := hif.2 hc
    refine Z11 3 I I I I I I I <| Z11 4 I I I I I I I <| Z11 5 I I I I I I I <| Z11 6 I I I I I I I <| Z11 7 I I I I I I I <| Z11 8 I I I I I I I <| Z11 9 I I I I I I I <| Z11 10 I I I I I I I <| Z11 11 I I I I I I I <| Z11 12 I I I I I I I <| Za 13 I (Zy (v := (.bool false)) I I I) <| Za 14 I (Zd (v := (.bool false)) I I) <| Z1z (by kernel_rfl) I <| Z8 ?_
    refine Zq (b := false) I (fun hc => ?_) (fun hc => ?_)
    ·cases hc
    refine Zb <| Z5 <| Z1 I (Zm I f71_1 I I) I <| Z1 I (Zs I o9 I I I) I ?_
    have ⟨v62, hv62, h⟩ := Z1a h
    refine Z1 I (Z1d (ar := [(.str (a0.Policy.Steps.getD v5.toNat Zl).Who)]) Try.call62 (F62_ok K (a0.Policy.Steps.getD v5.toNat Zl).Who v62 hv62) I I ⟨I, J0⟩ I) I <| Z1 I (Z2c I I) I <| Z1 I (Zd I I) I <| Z7 <| Z8 ?_
    have hif := Z1h h
    refine Zq I (fun hc => ?_) (fun hc => ?_)
    ·have h := hif.1 hc
     refine Zb <| Z5 <| Z1 I (Zd (v := (.int .i64 11)) I I) I <| Z7 <| Z8 <| Z1e <| Z18 <| Z18 <| Zx ?_
     refine Zx (Z18 ?_)
     refine Zx ?_
     have h := Option.some.inj h
     subst h
     refine (hret _ ?_).1
     exact ⟨[(.int .i64 11)], ⟨I, J0⟩, I, J0⟩
    have h := hif.2 hc
    refine Z14 ?_
    exact Zz (J57 () h) ⟨I, I, I, I, I, J0⟩ ⟨I, I, J0⟩
   have h := hif.2 hc
   refine Z1u <| Z26 ?_
   exact Zz (J6 () h) ⟨I, J0⟩ ⟨I, J0⟩
 intro J4
 refine Z5 <| Z1 I (Zm I f29_2 I I) I <| Z1 I (Zs I o27 I I I) I <| Z1 I (Z24 (l := a0.Policy.Steps) (enc := Zj) I s27 I) I <| Z1 I (Z1c (b := 8) (c := (decide ((a0.Policy.Steps.length : Int) > 8))) I I I I) I <| Z1 I (Z9 I I) I ?_
 have hif := Z1h h
 refine Z16 (fun hc => ?_) (fun hc => ?_)
 ·have h := hif.1 hc
  iterate 4 refine Zg I I I I I I I ?_
  refine Z1 I (Z19 (v := (.bool true)) I I I) I <| Z1 I (Z9 (v := (.bool true)) I I) I ?_
  iterate 4 refine Zg I I I I I I I ?_
  refine Z1 I (Z19 (v := (.bool true)) I I I) I <| Z1 I (Z9 (v := (.bool true)) I I) I ?_
  iterate 4 refine Zg I I I I I I I ?_
  refine Z1 I (Z19 (v := (.bool true)) I I I) I <| Z1 I (Zd (v := (.bool true)) I I) I <| Z7 ?_
  exact Zz (J4 true h) ⟨I, I, I, J0⟩ ⟨I, I, J0⟩
 have h := hif.2 hc
 refine Zc I I I I (Zm I f34_1 I I) I <| Zc I I I I (Zs I o30 I I I) I <| Zc I I I I (Z24 (l := a0.Firings) (enc := Zh) I s30 I) I <| Zc I I I I (Z1c (b := 256) (c := (decide ((a0.Firings.length : Int) > 256))) I I I I) I <| Z1 I (Zy I I I) I <| Z1 I (Z9 I I) I ?_
 have hif := Z1h h
 refine Z16 (fun hc => ?_) (fun hc => ?_)
 ·have h := hif.1 hc
  iterate 4 refine Zg I I I I I I I ?_
  refine Z1 I (Z19 (v := (.bool true)) I I I) I <| Z1 I (Z9 (v := (.bool true)) I I) I ?_
  iterate 4 refine Zg I I I I I I I ?_
  refine Z1 I (Z19 (v := (.bool true)) I I I) I <| Z1 I (Zd (v := (.bool true)) I I) I <| Z7 ?_
  exact Zz (J4 true h) ⟨I, I, I, J0⟩ ⟨I, I, J0⟩
 have h := hif.2 hc
 refine Zc I I I I (Zm I f34_2 I I) I <| Zc I I I I (Zs I o31 I I I) I <| Zc I I I I (Z24 (l := a0.Silences) (enc := Zk) I s31 I) I <| Zc I I I I (Z1c (b := 256) (c := (decide ((a0.Silences.length : Int) > 256))) I I I I) I <| Z1 I (Zy I I I) I <| Z1 I (Z9 I I) I ?_
 have hif := Z1h h
 refine Z16 (fun hc => ?_) (fun hc => ?_)
 ·have h := hif.1 hc
  iterate 4 refine Zg I I I I I I I ?_
  refine Z1 I (Z19 (v := (.bool true)) I I I) I <| Z1 I (Zd (v := (.bool true)) I I) I <| Z7 ?_
  exact Zz (J4 true h) ⟨I, I, I, J0⟩ ⟨I, I, J0⟩
 have h := hif.2 hc
 refine Zc I I I I (Zm I f34_3 I I) I <| Zc I I I I (Zs I o32 I I I) I <| Zc I I I I (Z24 (l := a0.Acks) (enc := Zp) I s32 I) I <| Zc I I I I (Z1c (b := 256) (c := (decide ((a0.Acks.length : Int) > 256))) I I I I) I <| Z1 I (Zy I I I) I <| Z1 I (Zd I I) I <| Z7 ?_
 exact Zz (J4 (decide ((a0.Acks.length : Int) > 256)) h) ⟨I, I, I, J0⟩ ⟨I, I, J0⟩
def F51 (K : Nat) (a0 : Ze) (a1 : Int) : Option (Int) :=
 (F39 K a0).bind fun v2 =>
 if (v2 != 0) = true then
 some v2
 else
 (F65 K a1).bind fun v4 =>
 if (!v4) = true then
 some 32
 else
 some 0
theorem F51_ok (K : Nat) (a0 : Ze) (a1 : Int) (r : Int) (h : F51 K a0 a1 = some r) : ACall P 51 ⟨[(Zf a0), (.int .i64 a1)], [], (.int .i64 r), [], []⟩ := by
 refine Z1v Try.func51 Try.results51 rfl Try.ntmps51 rfl rfl rfl ?_
 intro E Q hP hN hro hret
 obtain ⟨P', nt', w0, F0, p0, S0, β0, ro0⟩ := E
 simp only at hP hN
 subst hP hN
 dsimp only [argT]
 unfold F51 at h
 refine Zb <| Z5 <| Z1 I (Z2r I I I I I) I <| Z1 I (Zd (v := (.int .i64 0)) I I) I <| Z7 <| Z8 <| Zb <| Zb <| Z5 <| Z1 I (Z1n I a34 I I I I) I ?_
 have ⟨v2, hv2, h⟩ := Z1a h
 refine Z1 I (Z1d (ar := [(Zf a0)]) Try.call39 (F39_ok K a0 v2 hv2) I I ⟨I, J0⟩ I) I <| Z1 I (Zd I I) I <| Z7 <| Z8 <| Zb <| Z5 <| Z1 I (Z9 I I) I <| Z1 I (Z1c (b := 0) (c := (v2 != 0)) I I I I) I <| Z7 <| Z8 ?_
 have hif := Z1h h
 refine Zq I (fun hc => ?_) (fun hc => ?_)
 ·have h := hif.1 hc
  refine Zb <| Z5 <| Z1 I (Z9 I I) I <| Z1 I (Zd I I) I <| Z7 <| Z8 <| Z1e <| Zx ?_
  have h := Option.some.inj h
  subst h
  refine (hret _ ?_).1
  exact ⟨[(.int .i64 v2)], ⟨I, J0⟩, I, J0⟩
 have h := hif.2 hc
 refine Z14 <| Z8 <| Zb <| Zb <| Z5 <| Z1 I (Z9 I I) I ?_
 have ⟨v4, hv4, h⟩ := Z1a h
 refine Z1 I (Z1d (ar := [(.int .i64 a1)]) Try.call65 (F65_ok K a1 v4 hv4) I I ⟨I, J0⟩ I) I <| Z1 I (Z2c I I) I <| Z7 <| Z8 ?_
 have hif := Z1h h
 refine Zq I (fun hc => ?_) (fun hc => ?_)
 ·have h := hif.1 hc
  refine Zb <| Z5 <| Z1 I (Zd (v := (.int .i64 32)) I I) I <| Z7 <| Z8 <| Z1e <| Zx ?_
  have h := Option.some.inj h
  subst h
  refine (hret _ ?_).1
  exact ⟨[(.int .i64 32)], ⟨I, J0⟩, I, J0⟩
 have h := hif.2 hc
 refine Z14 <| Z8 <| Zb <| Z5 <| Z1 I (Zd (v := (.int .i64 0)) I I) I <| Z7 <| Z8 <| Z1e ?_
 have h := Option.some.inj h
 subst h
 refine (hret _ ?_).1
 exact ⟨[(.int .i64 0)], ⟨I, J0⟩, I, J0⟩
def F18 (_K : Nat) (a0 : Z29) (a1 : Zo) : Option (Str) :=
 if (a0.By == 1) = true then
 some a1.Service
 else
 if (a0.By == 2) = true then
 some a1.Rule
 else
 some []
theorem F18_ok (K : Nat) (a0 : Z29) (a1 : Zo) (r : Str) (h : F18 K a0 a1 = some r) : ACall P 18 ⟨[(Z2i a0), (Zh a1)], [], (.str r), [], []⟩ := by
 refine Z1v Try.func18 Try.results18 rfl Try.ntmps18 rfl rfl rfl ?_
 intro E Q hP hN hro hret
 obtain ⟨P', nt', w0, F0, p0, S0, β0, ro0⟩ := E
 simp only at hP hN
 subst hP hN
 dsimp only [argT]
 unfold F18 at h
 refine Zb <| Z5 <| Z1 I (Z2r I I I I I) I <| Z1 I (Z2r I I I I I) I <| Z1 I (Zd (v := (.str [])) I I) I <| Z7 <| Z8 <| Zb <| Zb <| Z5 <| Z1 I (Zm I f29_0 I I) I <| Z1 I (Zs I o3 I I I) I <| Z7 <| Z8 <| Z1t <| Zb <| Z5 <| Z1 I (Z1c (b := 1) (c := (a0.By == 1)) I I I I) I <| Z1 I (Zd I I) I <| Z7 <| Z8 ?_
 have hif := Z1h h
 refine Zq I (fun hc => ?_) (fun hc => ?_)
 ·have h := hif.1 hc
  refine Zb <| Z5 <| Z1 I (Zm I f42_1 I I) I <| Z1 I (Zs I o9 I I I) I <| Z1 I (Zd I I) I <| Z7 <| Z8 <| Z1e <| Z18 <| Zx ?_
  have h := Option.some.inj h
  subst h
  refine (hret _ ?_).1
  exact ⟨[(.str a1.Service)], ⟨I, J0⟩, I, J0⟩
 have h := hif.2 hc
 refine Zb <| Z5 <| Z1 I (Z1c (b := 2) (c := (a0.By == 2)) I I I I) I <| Z1 I (Zd I I) I <| Z7 <| Z8 ?_
 have hif := Z1h h
 refine Zq I (fun hc => ?_) (fun hc => ?_)
 ·have h := hif.1 hc
  refine Zb <| Z5 <| Z1 I (Zm I f42_0 I I) I <| Z1 I (Zs I o9 I I I) I <| Z1 I (Zd I I) I <| Z7 <| Z8 <| Z1e <| Z18 <| Zx ?_
  have h := Option.some.inj h
  subst h
  refine (hret _ ?_).1
  exact ⟨[(.str a1.Rule)], ⟨I, J0⟩, I, J0⟩
 have h := hif.2 hc
 refine Z14 <| Z27 <| Z8 <| Zb <| Z5 <| Z1 I (Zd (v := (.str [])) I I) I <| Z7 <| Z8 <| Z1e ?_
 have h := Option.some.inj h
 subst h
 refine (hret _ ?_).1
 exact ⟨[(.str [])], ⟨I, J0⟩, I, J0⟩
def F46 (_K : Nat) (_a0 : (List (Str × Bool))) : Option (Unit) :=
 some ()
theorem F46_ok (K : Nat) (a0 : (List (Str × Bool))) (r : Unit) (h : F46 K a0 = some r) : ACall P 46 ⟨[(.map 2000)], [(2000, (.map (encKV Z1i Z3a a0)))], (.clo 69 [(.ptr 1 0)]), [(2000, (.map (encKV Z1i Z3a a0))), (1, (.box [(.map 2000)]))], [1]⟩ := by
 refine Z1v Try.func46 Try.results46 rfl Try.ntmps46 rfl rfl rfl ?_
 intro E Q hP hN hro hret
 obtain ⟨P', nt', w0, F0, p0, S0, β0, ro0⟩ := E
 simp only at hP hN
 subst hP hN
 dsimp only [argT]
 unfold F46 at h
 refine Zb <| Z5 <| Z1 I (Z2r I I I I I) I <| Z1 I (Zd (v := .nilf) I I) I <| Z7 <| Z8 <| Zb <| Z5 <| Z1 I (stx_makeFunc (vs := [(.ptr 1 0)]) I ⟨I, J0⟩) I <| Z1 I (Zd I I) I <| Z7 <| Z8 <| Z1e ?_
 have h := Option.some.inj h
 subst h
 refine (hret _ ?_).1
 exact ⟨[(.clo 69 [(.ptr 1 0)])], ⟨I, J0⟩, I, ⟨I, I, J0⟩⟩
theorem F69_keys (kvs : List (Str × Bool)) (lr : Go.Loop) (hps : lr.params.size = 1) (hy : ∀ (x : Str) (l : List Str), l.length + 1 ≤ 1073741824 → YCall P lr 1000 ⟨[(Z1i x)], [(1000, .loop lr [2] [.ptr 1001 0]), (1001, .box [.vs 9]), (9, .vec 1 (List.map Z1i l))], .bool true, [(1000, .loop lr [2] [.ptr 1001 0]), (1001, .box [.vs 9]), (9, .vec 1 (List.map Z1i (l ++ [x])))], [9]⟩) (hb : kvs.length ≤ 1073741824) :
  ACallX (X := List (Str × Bool)) P 69 [.yld 1000, .ptr 2000 0] [(1000, .loop lr [2] [.ptr 1001 0]), (1001, .box [.vs 9]), (9, .vec 1 (List.map Z1i ([] : List Str))), (2000, .box [.map 2001]), (2001, .fmap (encKV Z1i Z3a kvs))] (fun ω => ω.Perm kvs) (fun _ => .tup []) (fun ω => [(1000, .loop lr [2] [.ptr 1001 0]), (1001, .box [.vs 9]), (9, .vec 1 (List.map Z1i (List.map (fun e => e.1) ω))), (2000, .box [.map 2001]), (2001, .fmap (encKV Z1i Z3a kvs))]) [9] := by
 refine acallX_of Try.func69 Try.results69 rfl Try.ntmps69 rfl rfl (fun _ => rfl) ?_
 intro E Q hP hN hro hret
 obtain ⟨P', nt', w0, F0, p0, S0, β0, ro0⟩ := E
 simp only at hP hN
 subst hP hN
 dsimp only [argT]
 refine Zb ?_
 refine Z5 ?_
 refine Z1 I (Zs I o90 I I I) I ?_
 refine Z1 I (st_range (encK := Z1i) (encV := Z3a) (l := kvs) I ⟨9, 4, by kernel_rfl⟩ I I) I ?_
 refine Z7 ?_
 refine Z8 ?_
 refine Z1r (st' := ⟨[(0, .yld 1000), (5, .itr 5)], [(5, .iter none (encKV Z1i Z3a kvs)), (9, .vec 1 (List.map Z1i ([] : List Str))), (1000, .loop lr [2] [.ptr 1001 0]), (1001, .box [.vs 9]), (2000, .box [.map 2001]), (2001, .fmap (encKV Z1i Z3a kvs))]⟩) ⟨I, I, J0⟩ ⟨I, I, I, I, I, I, J0⟩ ?_
 refine Z1o (V := List (Str × Bool) × List (Str × Bool)) (X := List (Str × Bool)) (lp := fun k v => v.2.length < k ∧ (v.1 ++ v.2).Perm kvs) (sh := fun v => ⟨[(0, .yld 1000), (5, .itr 5)], [(5, .iter none (encKV Z1i Z3a v.2)), (9, .vec 1 (List.map Z1i (List.map (fun e => e.1) v.1))), (1000, .loop lr [2] [.ptr 1001 0]), (1001, .box [.vs 9]), (2000, .box [.map 2001]), (2001, .fmap (encKV Z1i Z3a kvs))]⟩) (x := fun ω => ω.Perm kvs) (shx := fun ω => ⟨[], [(9, .vec 1 (List.map Z1i (List.map (fun e => e.1) ω))), (1000, .loop lr [2] [.ptr 1001 0]), (1001, .box [.vs 9]), (2000, .box [.map 2001]), (2001, .fmap (encKV Z1i Z3a kvs))]⟩) (k := kvs.length + 1) (v := ([], kvs)) ⟨Nat.lt_succ_self _, List.Perm.refl _⟩ ?_ ?_
 ·intro ω hω
  refine (hret _ ω hω ?_).2
  exact ⟨[], J0, I, ⟨I, I, I, I, I, J0⟩⟩
 ·intro N k v hv IH J
  obtain ⟨pre, rem⟩ := v
  dsimp only at hv IH J ⊢
  obtain ⟨hk, hperm⟩ := hv
  refine Zb ?_
  refine Z5 ?_
  refine AOps.consNext (encK := Z1i) (encV := Z3a) (rem := rem) I I I (fun hc => ?_) (fun p kv q hc => ?_)
  ·subst hc
   rw [List.append_nil] at hperm
   refine Z1 I (Z20 I I I) I ?_
   refine Z7 ?_
   refine Z8 ?_
   refine Zb ?_
   refine Zq (b := false) I (fun hc => ?_) (fun hc => ?_)
   ·cases hc
   refine Z1u ?_
   refine Z26 ?_
   exact Zz (J pre hperm) J0 ⟨I, I, I, I, I, J0⟩
  ·subst hc
   refine Z1 I (Z20 I I I) I ?_
   refine Z7 ?_
   refine Z8 ?_
   refine Zb ?_
   refine Zq (b := true) I (fun hc => ?_) (fun hc => ?_)
   rotate_left
   ·cases hc
   refine Z14 ?_
   refine Z8 ?_
   refine Z1t ?_
   refine Zb ?_
   refine Z5 ?_
   refine Z1 I (st_entry (k := kv.1) (v := kv.2) (encK := Z1i) (encV := Z3a) I I I) I ?_
   refine Z1 I (Z20 I I I) I ?_
   refine Z1 I (Zd (v := (Z1i kv.1)) I I) I ?_
   refine Z7 ?_
   refine Z8 ?_
   refine Zb ?_
   refine Z5 ?_
   refine Z1 I (Z9 I I) I ?_
   refine Z1 I (Z9 (v := (Z1i kv.1)) I I) I ?_
   have hlen : (List.map (fun e => e.1) pre).length + 1 ≤ 1073741824 := by
    have := hperm.length_eq
    simp only [List.length_append, List.length_cons, List.length_map] at this ⊢
    omega
   refine Z1 I (Z3k (d := some 12) (ks := [2]) (vs := [.ptr 1001 0]) (c := ⟨[(Z1i kv.1)], [(1000, .loop lr [2] [.ptr 1001 0]), (1001, .box [.vs 9]), (9, .vec 1 (List.map Z1i (List.map (fun e => e.1) pre)))], .bool true, [(1000, .loop lr [2] [.ptr 1001 0]), (1001, .box [.vs 9]), (9, .vec 1 (List.map Z1i ((List.map (fun e => e.1) pre) ++ [kv.1])))], [9]⟩) (ar := [(Z1i kv.1)]) (news := []) (forg := [9]) (hy kv.1 _ hlen) I hps I I ⟨I, J0⟩ I ⟨I, I, I, J0⟩ I) I ?_
   refine Z1 I (Z2c I I) I ?_
   refine Z7 ?_
   refine Z8 ?_
   refine Zq (b := false) I (fun hc => ?_) (fun hc => ?_)
   ·cases hc
   refine Z14 ?_
   refine Z27 ?_
   have hstep : (p ++ q).length < (p ++ kv :: q).length := by
    simp only [List.length_append, List.length_cons]
    omega
   have hp2 : ((pre ++ [kv]) ++ (p ++ q)).Perm kvs := by
    refine List.Perm.trans ?_ hperm
    rw [List.append_assoc]
    exact List.Perm.append_left pre (show (kv :: (p ++ q)).Perm (p ++ kv :: q) from List.perm_middle.symm)
   have hm : List.map (fun e : Str × Bool => e.1) (pre ++ [kv]) = List.map (fun e => e.1) pre ++ [kv.1] := by rw [List.map_append]; rfl
   have := IH (p ++ q).length.succ (pre ++ [kv], p ++ q) (by omega) ⟨Nat.lt_succ_self _, hp2⟩
   dsimp only at this
   rw [hm] at this
   refine Z2w (st' := ⟨[(0, .yld 1000), (5, .itr 5)], [(5, .iter none (encKV Z1i Z3a (p ++ q))), (9, .vec 1 (List.map Z1i ((List.map (fun e => e.1) pre) ++ [kv.1]))), (1000, .loop lr [2] [.ptr 1001 0]), (1001, .box [.vs 9]), (2000, .box [.map 2001]), (2001, .fmap (encKV Z1i Z3a kvs))]⟩) (fun a w h => Z1k _ (ghost_iter (m := 5) (cur := some ((Z1i kv.1), (Z3a kv.2))) (kvs := encKV Z1i Z3a (p ++ q)) a w (Z1k ⟨[(0, .yld 1000), (5, .itr 5)], [(5, .iter (some ((Z1i kv.1), (Z3a kv.2))) (encKV Z1i Z3a (p ++ q))), (9, .vec 1 (List.map Z1i ((List.map (fun e => e.1) pre) ++ [kv.1]))), (1000, .loop lr [2] [.ptr 1001 0]), (1001, .box [.vs 9]), (2000, .box [.map 2001]), (2001, .fmap (encKV Z1i Z3a kvs))]⟩ h ⟨I, I, J0⟩ ⟨I, I, I, I, I, I, J0⟩)) ⟨I, I, J0⟩ ⟨I, I, I, I, I, I, J0⟩) this
theorem F85_keys (kvs : List (Str × Bool)) (hb : kvs.length ≤ 1073741824) : ACallX (X := List (Str × Bool)) P 85 [(.sl 1 [] true), .clo 69 [.ptr 2000 0]] [(2000, .box [.map 2001]), (2001, .fmap (encKV Z1i Z3a kvs))] (fun ω => ω.Perm kvs) (fun _ => .vs 9) (fun ω => [(9, .vec 1 (List.map Z1i (List.map (fun e => e.1) ω))), (2000, .box [.map 2001]), (2001, .fmap (encKV Z1i Z3a kvs))]) [9] := by
 refine acallX_of Try.func85 Try.results85 rfl Try.ntmps85 rfl rfl (fun _ => rfl) ?_
 intro E Q hP hN hro hret
 obtain ⟨P', nt', w0, F0, p0, S0, β0, ro0⟩ := E
 simp only at hP hN
 subst hP hN
 dsimp only [argT]
 refine Zb <| Z5 <| Z1 I (Z2r I I I I I) I <| Z1 I (Zd (v := (.sl 1 [] false)) I I) I <| Z7 <| Z8 <| Zb <| Zb <| Z5 <| Z1 I (Z9 I I) I <| Z7 <| Z8 <| Z1t <| Z2p (st' := ⟨[(2, .ptr 2 0), (6, (.clo 69 [.ptr 2000 0]))], [(2, .box [.vs 9]), (9, .vec 1 (List.map Z1i ([] : List Str))), (2000, .box [.map 2001]), (2001, .fmap (encKV Z1i Z3a kvs))]⟩) (fun a w h => Z1k _ (Z3l (n := 2) (m := 9) (sz := 1) (j := 0) I I I a w (Z1k ⟨[(2, .ptr 2 0), (6, (.clo 69 [.ptr 2000 0]))], [(2, .box [(.sl 1 [] true)]), (2000, .box [.map 2001]), (2001, .fmap (encKV Z1i Z3a kvs))]⟩ h ⟨I, I, J0⟩ ⟨I, I, I, J0⟩)) ⟨I, I, J0⟩ ⟨I, I, I, I, J0⟩) ?_
 refine AWp.rangeFuncX (X := List (Str × Bool)) (n := 1) (f := 69) (caps := [.ptr 2000 0]) (ks := [2]) (vs := [.ptr 2 0]) (ins := [(2, .box [.vs 9]), (9, .vec 1 (List.map Z1i ([] : List Str))), (2000, .box [.map 2001]), (2001, .fmap (encKV Z1i Z3a kvs))]) (ok := fun ω => ω.Perm kvs) (outs := fun ω => [(2, .box [.vs 9]), (9, .vec 1 (List.map Z1i (List.map (fun e => e.1) ω))), (2000, .box [.map 2001]), (2001, .fmap (encKV Z1i Z3a kvs))]) (res := fun _ => .tup []) (mv := [9]) (forg := [9]) (jump := fun _ => none) hro Try.call69 I I I I ⟨I, J0⟩ ⟨I, I, I, I, J0⟩ I (fun _ => I) (fun _ => I) I (fun lr hst hpe hpr has hbd hsz => ?_) (fun ω hω _ => ?_) (fun ω c _ hc => by cases hc)
 ·have hend := endRec_self hst hpe
  simp only [hend]
  have hps : lr.params.size = 1 := by rw [hpr]; rfl
  have hy : ∀ (x : Str) (l : List Str), l.length + 1 ≤ 1073741824 → YCall P lr 1000 ⟨[(Z1i x)], [(1000, .loop lr [2] [.ptr 1001 0]), (1001, .box [.vs 9]), (9, .vec 1 (List.map Z1i l))], .bool true, [(1000, .loop lr [2] [.ptr 1001 0]), (1001, .box [.vs 9]), (9, .vec 1 (List.map Z1i (l ++ [x])))], [9]⟩ := by
   intro x l hl
   refine ycall_of (ks := [2]) (vs := [.ptr 1001 0]) (ps := [7]) rfl hst hsz hpr rfl (by decide) rfl rfl rfl ?_
   intro E Qa Qb hP hN hmid hfin
   obtain ⟨P', nt', w0, F0, p0, S0, β0, ro0⟩ := E
   simp only at hP hN
   subst hP hN
   refine AWp.code has ?_
   dsimp only [List.zip, List.zipWith, List.cons_append, List.nil_append]
   refine Z5 <| Z1 I (Zd (v := (Z1i x)) I I) I <| Z7 ?_
   refine hmid _ _ _ rfl ?_
   refine AWp.code hbd <| Z1t <| Z5 <| Z1 I (Zs I o36 I I I) I <| Z1 I (Z9 (v := (Z1i x)) I I) I <| Z1 I (Z1m (vs := [(Z1i x)]) (enc := Z1i) (l := [x]) I el36 I I ⟨I, J0⟩ I Z39 I I I I) I <| Z1 I (Z2d (m := 9) (enc := Z1i) (l := l) (l' := [x]) (src := .vs 10) (rd := [(10, .vec 1 (List.map Z1i [x]))]) I I el36 I u36 I I I I (oneRead I) Z39 hl) I <| Z1 I (Z1f sz36 I I I I I I I I) I <| Z7 <| Z27 ?_
   refine hfin _ _ _ none .normal rfl rfl rfl ?_
   rw [hend]
   exact ⟨I, I, I, J0⟩
  exact ((F69_keys kvs lr hps hy hb).sw 1000 1).sw 1001 2
 refine At.weaken (st' := ⟨[(2, .ptr 2 0)], [(2, .box [.vs 9]), (9, .vec 1 (List.map Z1i (List.map (fun e => e.1) ω))), (2000, .box [.map 2001]), (2001, .fmap (encKV Z1i Z3a kvs))]⟩) ⟨I, J0⟩ ⟨I, I, I, I, J0⟩ <| Z27 <| Z8 <| Zb <| Z5 <| Z1 I (Zs I o36 I I I) I <| Z1 I (Zd I I) I <| Z7 <| Z8 <| Z1e ?_
 refine (hret _ ω hω ?_).1
 exact ⟨[.vs 9], ⟨I, J0⟩, I, ⟨I, I, I, J0⟩⟩
theorem F68_keys (kvs : List (Str × Bool)) (hb : kvs.length ≤ 1073741824) : ACallX (X := List (Str × Bool)) P 68 [.clo 69 [.ptr 2000 0]] [(2000, .box [.map 2001]), (2001, .fmap (encKV Z1i Z3a kvs))] (fun ω => ω.Perm kvs) (fun _ => .vs 4) (fun ω => [(4, .vec 1 (List.map Z1i (List.map (fun e => e.1) ω))), (2000, .box [.map 2001]), (2001, .fmap (encKV Z1i Z3a kvs))]) [4] := by
 refine acallX_of Try.func68 Try.results68 rfl Try.ntmps68 rfl rfl (fun _ => rfl) ?_
 intro E Q hP hN hro hret
 obtain ⟨P', nt', w0, F0, p0, S0, β0, ro0⟩ := E
 simp only at hP hN
 subst hP hN
 dsimp only [argT]
 refine Zb <| Z5 <| Z1 I (Zd (v := (.sl 1 [] false)) I I) I <| Z7 <| Z8 <| Zb <| Z5 <| Z1 I (Z9 I I) I ?_
 refine AOps.callX (ar := [(.sl 1 [] true), (.clo 69 [.ptr 2000 0])]) (caps := []) (news := [4]) (forg := []) Try.call85 ((F85_keys kvs hb).sw 9 4) I I ⟨I, I, J0⟩ I ⟨I, I, J0⟩ (fun _ => I) I (fun ω hω => ?_)
 refine Z1 I (Zd I I) I <| Z7 <| Z8 <| Z1e ?_
 refine (hret _ ω hω ?_).1
 exact ⟨[.vs 4], ⟨I, J0⟩, I, ⟨I, I, I, J0⟩⟩
noncomputable def F45 (_K : Nat) (a0 : (List (Str × Bool))) : Option ((List Str)) :=
 if a0.length ≤ 1073741824 then
 ndPerm a0 fun x3 =>
 (sortS (List.map (fun e : Str × Bool => e.1) x3)).bind fun v5 =>
 some v5
 else none
theorem F45_ok (K : Nat) (a0 : (List (Str × Bool))) (r : (List Str)) (h : F45 K a0 = some r) : ACall P 45 ⟨[(.clo 69 [(.ptr 2000 0)])], [(2000, (.box [(.map 8)])), (8, (.map (encKV Z1i Z3a a0)))], (.vs 5), [(2000, (.box [(.map 8)])), (8, (.fmap (encKV Z1i Z3a a0))), (5, (.vec 1 (List.map Z1i r)))], [8, 5]⟩ := by
 refine Z1v Try.func45 Try.results45 rfl Try.ntmps45 rfl rfl rfl ?_
 intro E Q hP hN hro hret
 obtain ⟨P', nt', w0, F0, p0, S0, β0, ro0⟩ := E
 simp only at hP hN
 subst hP hN
 dsimp only [argT]
 unfold F45 at h
 refine Zb <| Z5 <| Z1 I (Zd (v := (.sl 1 [] false)) I I) I <| Z7 <| Z8 <| Zb <| Z5 <| Z1 I (Z9 I I) I <| Z3b (st' := ⟨[(4, (.clo 69 [(.ptr 2000 0)]))], [(8, (.fmap (encKV Z1i Z3a a0))), (2000, (.box [(.map 8)]))]⟩) (fun a w h => (Z1k _ (ghost_freezeM (m := 8) I a w (Z1k ⟨[(4, (.clo 69 [(.ptr 2000 0)]))], [(8, (.map (encKV Z1i Z3a a0))), (2000, (.box [(.map 8)]))]⟩ h ⟨I, J0⟩ ⟨I, I, J0⟩)) ⟨I, J0⟩ ⟨I, I, J0⟩)) ?_
 have ⟨hg2, h⟩ := Zw h
 have hp6 := of_ndPerm h
 refine AOps.callX (ar := [(.clo 69 [(.ptr 2000 0)])]) (caps := []) (news := [5]) (forg := []) Try.call68 (((F68_keys a0 hg2).sw 2001 8).sw 4 5) I I ⟨I, J0⟩ I ⟨I, I, J0⟩ (fun _ => I) I (fun x3 hw6 => ?_)
 have h := hp6 x3 hw6
 refine Z1 I (Zd I I) I <| Z7 <| Z8 <| Zb <| Z5 <| Z1 I (Z9 I I) I ?_
 have ⟨v5, hv5, h⟩ := Z1a h
 refine Z1 I (st_call (d := some 7) (c := ⟨[(.vs 5)], [(5, (.vec 1 (List.map Z1i (List.map (fun e : Str × Bool => e.1) x3))))], .tup [], [(5, .vec 1 (List.map Z1i v5))], []⟩) (ar := [(.vs 5)]) (caps := []) (news := []) (forg := []) Try.call49 (sortS_ok (n := 5) (enc := Z1i) (l := (List.map (fun e : Str × Bool => e.1) x3)) sortC49 (fun _ => I) hv5) I I ⟨I, J0⟩ I ⟨I, J0⟩ I) I <| Z7 <| Z8 <| Zb <| Z5 <| Z1 I (Z9 I I) I <| Z1 I (Zd I I) I <| Z7 <| Z8 <| Z1e ?_
 have h := Option.some.inj h
 subst h
 refine (hret _ ?_).1
 exact ⟨[(.vs 5)], ⟨I, J0⟩, I, ⟨I, I, I, J0⟩⟩
noncomputable def F17_c5 (K : Nat) (v4 : (List (Str × Bool))) : Option ((List Str)) :=
 (F46 K v4).bind fun _v8 =>
 (F45 K v4).bind fun v10 =>
 some v10
def F17_l3 (K : Nat) (a0 : Ze) (c6 : (List (Str × Bool)) → Option ((List Str))) : Nat → Int → (List (Str × Bool)) → Option ((List Str))
 | 0, _, _ => none
 | k3 + 1, v1, v2 =>
 if (decide (v1 < (a0.Firings.length : Int))) = true then
 if (0 : Int) ≤ v1 ∧ v1 < a0.Firings.length then
 (F18 K a0.Policy (a0.Firings.getD v1.toNat Z12)).bind fun v14 =>
 (F17_l3 K a0 c6 k3) (IntKind.i64.wrap (v1 + 1)) (mput q_str v14 true v2)
 else none
 else
 c6 v2
noncomputable def F17 (K : Nat) (a0 : Ze) : Option ((List Str)) :=
 F17_l3 K a0 (F17_c5 K) K 0 ([] : List (Str × Bool))
theorem F17_ok (K : Nat) (a0 : Ze) (r : (List Str)) (h : F17 K a0 = some r) : ACall P 17 ⟨[(Zf a0)], [], (.sl 1 (r.map Z1i) false), [], []⟩ := by
 refine Z1v Try.func17 Try.results17 rfl Try.ntmps17 rfl rfl rfl ?_
 intro E Q hP hN hro hret
 obtain ⟨P', nt', w0, F0, p0, S0, β0, ro0⟩ := E
 simp only at hP hN
 subst hP hN
 dsimp only [argT]
 unfold F17 at h
 refine Zb <| Z5 <| Z1 I (Z2r I I I I I) I <| Z1 I (Zd (v := (.sl 1 [] false)) I I) I <| Z7 <| Z8 <| Zb <| Z5 <| Z1 I (st_makeMap I) I <| Z1 I (Zd I I) I <| Z7 <| Z8 <| Zb <| Zb <| Z5 <| Z1 I (Zm I f34_1 I I) I <| Z1 I (Zs I o30 I I I) I <| Z1 I (Z24 (l := a0.Firings) (enc := Zh) I s30 I) I <| Z1 I (Z9 (v := (.int .i64 0)) I I) I <| Z7 <| Z8 <| Z1r (st' := ⟨[(1, (.ptr 1 0)), (3, (.map 6)), (8, (.sl 4 (a0.Firings.map Zh) false)), (9, (.int .i64 (a0.Firings.length : Int))), (10, (.int .i64 0))], [(1, (.box (Zf a0).cells)), (6, (.map (encKV Z1i Z3a ([] : List (Str × Bool)))))]⟩) ⟨I, I, I, I, I, J0⟩ ⟨I, I, J0⟩ ?_
 refine Z1o (V := Int × (List (Str × Bool))) (X := (List (Str × Bool))) (lp := fun k v => F17_l3 K a0 (F17_c5 K) k v.1 v.2 = some r) (sh := fun v => ⟨[(1, (.ptr 1 0)), (3, (.map 6)), (8, (.sl 4 (a0.Firings.map Zh) false)), (9, (.int .i64 (a0.Firings.length : Int))), (10, (.int .i64 v.1))], [(1, (.box (Zf a0).cells)), (6, (.map (encKV Z1i Z3a v.2)))]⟩) (x := fun v => F17_c5 K v = some r) (shx := fun v => ⟨[(3, (.map 6))], [(6, (.map (encKV Z1i Z3a v)))]⟩) (k := K) (v := (0, ([] : List (Str × Bool)))) h ?_ ?_
 ·intro v h
  revert h
  revert v
  intro v4 h
  try dsimp only at h ⊢
  unfold F17_c5 at h
  refine Z8 <| Zb <| Z5 <| Z1 I (Z9 I I) I ?_
  have ⟨v8, hv8, h⟩ := Z1a h
  refine Z1 I (st_call (d := some 21) (c := ⟨[(.map 6)] ++ [], [(6, (.map (encKV Z1i Z3a v4)))], (.clo 69 [(.ptr 21 0)]), [(6, (.map (encKV Z1i Z3a v4))), (21, (.box [(.map 6)]))], [21]⟩) (ar := [(.map 6)]) (caps := []) (news := [21]) (forg := []) Try.call46 (((F46_ok K v4 v8 hv8).sw 2000 6).sw 1 21) I I ⟨I, J0⟩ I ⟨I, J0⟩ I) I ?_
  have ⟨v10, hv10, h⟩ := Z1a h
  refine Z1 I (st_call (d := some 22) (c := ⟨[(.clo 69 [(.ptr 21 0)])] ++ [], [(21, (.box [(.map 6)])), (6, (.map (encKV Z1i Z3a v4)))], (.vs 22), [(21, (.box [(.map 6)])), (6, (.fmap (encKV Z1i Z3a v4))), (22, (.vec 1 (List.map Z1i v10)))], [6, 22]⟩) (ar := [(.clo 69 [(.ptr 21 0)])]) (caps := []) (news := [22]) (forg := [6]) Try.call45 ((((F45_ok K v4 v10 hv10).sw 2000 21).sw 8 6).sw 5 22) I I ⟨I, J0⟩ I ⟨I, I, J0⟩ I) I <| Z1 I (Zd I I) I <| Z7 <| Z8 <| Z1e <| Z2w (st' := ⟨[(2, (.sl 1 (v10.map Z1i) false))], []⟩) (fun a w h => (Z1k _ (Z22 (m := 22) (sz := 1) (es := (List.map Z1i v10)) a w (Z1k ⟨[(2, (.vs 22))], [(22, (.vec 1 (List.map Z1i v10)))]⟩ h ⟨I, J0⟩ ⟨I, J0⟩)) ⟨I, J0⟩ J0)) ?_
  have h := Option.some.inj h
  subst h
  refine (hret _ ?_).1
  exact ⟨[(.sl 1 (v10.map Z1i) false)], ⟨I, J0⟩, I, J0⟩
 intro N k3 v h IH3 J3
 obtain ⟨v1, v2⟩ := v
 try dsimp only at h IH3 J3 ⊢
 cases k3 with
 | zero => cases h
 | succ k3 =>
  rw [F17_l3] at h
  refine Zb <| Z5 <| Z1 I (Z1c (c := (decide (v1 < (a0.Firings.length : Int)))) I I I I) I <| Z7 <| Z8 <| Zb ?_
  have hif := Z1h h
  refine Zq I (fun hc => ?_) (fun hc => ?_)
  ·have h := hif.1 hc
   refine Z14 <| Z8 <| Zb <| Z1t <| Zb <| Z5 ?_
   have ⟨hg12, h⟩ := Zw h
   refine Z1 I (Z1s (k := .i64) (l := a0.Firings) (enc := Zh) (z := Z12) (n := v1) (full := false) I s30 I I hg12 I) I <| Z1 I (Z28 I a42 I I I) I <| Z1 I (Z1x I z42 I I I) I <| Z1 I (Z1f sz42 I I I I I I I I) I <| Z7 <| Z8 <| Z5 <| Z1 I (Z9 I I) I <| Z1 I (Zm I f34_0 I I) I <| Z1 I (Z1n I a29 I I I I) I <| Z1 I (Z1n I a42 I I I I) I ?_
   have ⟨v14, hv14, h⟩ := Z1a h
   refine Z1 I (Z1d (ar := [(Z2i a0.Policy), (Zh (a0.Firings.getD v1.toNat Z12))]) Try.call18 (F18_ok K a0.Policy (a0.Firings.getD v1.toNat Z12) v14 hv14) I I ⟨I, I, J0⟩ I) I <| Z1 I (st_mapUpdate (l := v2) (a := v14) (b := true) (kv := (.str v14)) (vv := (.bool true)) mt90 I I I I I I) I <| Z7 <| Z27 <| Z8 <| Z5 <| Z1 I (Z1p (k := .i64) (b := 1) (c := (IntKind.i64.wrap (v1 + 1))) I I I I) I <| Z1 I (Z9 I I) I <| Z7 ?_
   exact Zz (IH3 _ ((IntKind.i64.wrap (v1 + 1)), (mput q_str v14 true v2)) (Nat.lt_succ_self _) h) ⟨I, I, I, I, I, J0⟩ ⟨I, I, J0⟩
  have h := hif.2 hc
  refine Z1u <| Z26 ?_
  exact Zz (J3 v2 h) ⟨I, J0⟩ ⟨I, J0⟩
def F86 (_K : Nat) (a0 : (List Z4)) (a1 : (List Z4)) : Option ((List Z4) × (List Z4)) :=
 some (a0, a1)
theorem F86_ok (K : Nat) (a0 : (List Z4)) (a1 : (List Z4)) (r : (List Z4) × (List Z4)) (h : F86 K a0 a1 = some r) : ACall P 86 ⟨[(.sl 2 (a0.map Z6) false), (.sl 2 (a1.map Z6) false)], [], (.clo 108 [(.ip [(.sl 2 (r.1.map Z6) false)]), (.ip [(.sl 2 (r.2.map Z6) false)])]), [], []⟩ := by
 refine Z1v Try.func86 Try.results86 rfl Try.ntmps86 rfl rfl rfl ?_
 intro E Q hP hN hro hret
 obtain ⟨P', nt', w0, F0, p0, S0, β0, ro0⟩ := E
 simp only at hP hN
 subst hP hN
 dsimp only [argT]
 unfold F86 at h
 refine Zb <| Z5 <| Z1 I (Z2r I I I I I) I <| Z1 I (Z2r I I I I I) I <| Z1 I (Zd (v := .nilf) I I) I <| Z7 <| Z8 <| Zb <| Z5 <| Z1 I (stx_makeFunc (vs := [(.ptr 2 0), (.ptr 3 0)]) I ⟨I, I, J0⟩) I <| Z1 I (Zd I I) I <| Z7 <| Z8 <| Z1e <| Z2w (st' := ⟨[(4, (.clo 108 [(.ip [(.sl 2 (a0.map Z6) false)]), (.ip [(.sl 2 (a1.map Z6) false)])]))], []⟩) (fun a w h => (Z1k _ (Z34 (m := 3) (cs := [(.sl 2 (a1.map Z6) false)]) I a w (Z1k ⟨[(4, (.clo 108 [(.ip [(.sl 2 (a0.map Z6) false)]), (.ptr 3 0)]))], [(3, (.box [(.sl 2 (a1.map Z6) false)]))]⟩ (Z1k ⟨[(4, (.clo 108 [(.ip [(.sl 2 (a0.map Z6) false)]), (.ptr 3 0)]))], [(3, (.box [(.sl 2 (a1.map Z6) false)]))]⟩ (Z34 (m := 2) (cs := [(.sl 2 (a0.map Z6) false)]) I a w (Z1k ⟨[(4, (.clo 108 [(.ptr 2 0), (.ptr 3 0)]))], [(2, (.box [(.sl 2 (a0.map Z6) false)])), (3, (.box [(.sl 2 (a1.map Z6) false)]))]⟩ h ⟨I, J0⟩ ⟨I, I, J0⟩)) ⟨I, J0⟩ ⟨I, J0⟩) ⟨I, J0⟩ ⟨I, J0⟩)) ⟨I, J0⟩ J0)) ?_
 have h := Option.some.inj h
 subst h
 refine (hret _ ?_).1
 exact ⟨[(.clo 108 [(.ip [(.sl 2 (a0.map Z6) false)]), (.ip [(.sl 2 (a1.map Z6) false)])])], ⟨I, J0⟩, I, J0⟩
def F71 (_K : Nat) (a0 : Bool) (a1 : Bool) : Option (Bool) :=
 if a0 = true then
 some true
 else
 some a1
theorem F71_ok (K : Nat) (a0 : Bool) (a1 : Bool) (r : Bool) (h : F71 K a0 a1 = some r) : ACall P 71 ⟨[(.bool a0), (.bool a1)], [], (.bool r), [], []⟩ := by
 refine Z1v Try.func71 Try.results71 rfl Try.ntmps71 rfl rfl rfl ?_
 intro E Q hP hN hro hret
 obtain ⟨P', nt', w0, F0, p0, S0, β0, ro0⟩ := E
 simp only at hP hN
 subst hP hN
 dsimp only [argT]
 unfold F71 at h
 refine Zb <| Z5 <| Z1 I (Zd (v := (.bool false)) I I) I <| Z7 <| Z8 <| Zb <| Z5 <| Z1 I (Z9 I I) I <| Z1 I (Z9 I I) I ?_
 have hif := Z1h h
 refine Z16 (fun hc => ?_) (fun hc => ?_)
 ·have h := hif.1 hc
  refine Zg I I I I I I I <| Z1 I (Z19 (v := (.bool true)) I I I) I <| Z1 I (Zd (v := (.bool true)) I I) I <| Z7 <| Z8 <| Z1e ?_
  have h := Option.some.inj h
  subst h
  refine (hret _ ?_).1
  exact ⟨[(.bool true)], ⟨I, J0⟩, I, J0⟩
 have h := hif.2 hc
 refine Zc I I I I (Z9 I I) I <| Z1 I (Zy I I I) I <| Z1 I (Zd I I) I <| Z7 <| Z8 <| Z1e ?_
 have h := Option.some.inj h
 subst h
 refine (hret _ ?_).1
 exact ⟨[(.bool a1)], ⟨I, J0⟩, I, J0⟩
def F109 (_K : Nat) (a0 : (List Z4)) (a1 : Int) : Option (Int × Bool) :=
 if (a1 == (IntKind.i64.wrap (2 * (a0.length : Int)))) = true then
 some (0, false)
 else
 if ((a1.tmod 2) == 0) = true then
 if (0 : Int) ≤ (IntKind.i64.wrap (a1.tdiv 2)) ∧ (IntKind.i64.wrap (a1.tdiv 2)) < a0.length then
 some ((a0.getD (IntKind.i64.wrap (a1.tdiv 2)).toNat Z10).From, true)
 else none
 else
 if (0 : Int) ≤ (IntKind.i64.wrap (a1.tdiv 2)) ∧ (IntKind.i64.wrap (a1.tdiv 2)) < a0.length then
 some ((a0.getD (IntKind.i64.wrap (a1.tdiv 2)).toNat Z10).To, true)
 else none
theorem F109_ok (K : Nat) (a0 : (List Z4)) (a1 : Int) (r : Int × Bool) (h : F109 K a0 a1 = some r) : ACall P 109 ⟨[(.sl 2 (a0.map Z6) false), (.int .i64 a1)], [], (.tup [(.int .i64 r.1), (.bool r.2)]), [], []⟩ := by
 refine Z1v Try.func109 Try.results109 rfl Try.ntmps109 rfl rfl rfl ?_
 intro E Q hP hN hro hret
 obtain ⟨P', nt', w0, F0, p0, S0, β0, ro0⟩ := E
 simp only at hP hN
 subst hP hN
 dsimp only [argT]
 unfold F109 at h
 refine Zb <| Z5 <| Z1 I (Zd (v := (.int .i64 0)) I I) I <| Z1 I (Zd (v := (.bool false)) I I) I <| Z7 <| Z8 <| Zb <| Z1t <| Zb <| Z5 <| Z1 I (Z9 I I) I <| Z1 I (Z9 I I) I <| Z1 I (Z24 (l := a0) (enc := Z6) I s45 I) I <| Z1 I (Z1p (k := .i64) (a := 2) (c := (IntKind.i64.wrap (2 * (a0.length : Int)))) I I I I) I <| Z1 I (Z1c (c := (a1 == (IntKind.i64.wrap (2 * (a0.length : Int))))) I I I I) I <| Z1 I (Zd I I) I <| Z7 <| Z8 ?_
 have hif := Z1h h
 refine Zq I (fun hc => ?_) (fun hc => ?_)
 ·have h := hif.1 hc
  refine Zb <| Z5 <| Z1 I (Zd (v := (.int .i64 0)) I I) I <| Z1 I (Zd (v := (.bool false)) I I) I <| Z7 <| Z8 <| Z1e <| Z18 <| Zx ?_
  have h := Option.some.inj h
  subst h
  refine (hret _ ?_).1
  exact ⟨[(.int .i64 0), (.bool false)], ⟨I, I, J0⟩, I, J0⟩
 have h := hif.2 hc
 refine Zb <| Z5 <| Z1 I (Z9 I I) I <| Z1 I (Z2s (b := 2) (c := (a1.tmod 2)) I I I I (by decide)) I <| Z1 I (Z1c (b := 0) (c := ((a1.tmod 2) == 0)) I I I I) I <| Z1 I (Zd I I) I <| Z7 <| Z8 ?_
 have hif := Z1h h
 refine Zq I (fun hc => ?_) (fun hc => ?_)
 ·have h := hif.1 hc
  refine Zb <| Z5 <| Z1 I (Z9 I I) I <| Z1 I (Z9 I I) I <| Z1 I (Z2s (b := 2) (c := (IntKind.i64.wrap (a1.tdiv 2))) I I I I (by decide)) I ?_
  have ⟨hg1, h⟩ := Zw h
  refine Z1 I (Z1s (k := .i64) (l := a0) (enc := Z6) (z := Z10) (n := (IntKind.i64.wrap (a1.tdiv 2))) (full := false) I s45 I I hg1 I) I <| Z1 I (Z1w I f40_0 I I I) I <| Z1 I (Z1l I o3 I I) I <| Z1 I (Zd I I) I <| Z1 I (Zd (v := (.bool true)) I I) I <| Z7 <| Z8 <| Z1e <| Z18 <| Zx ?_
  have h := Option.some.inj h
  subst h
  refine (hret _ ?_).1
  exact ⟨[(.int .i64 (a0.getD (IntKind.i64.wrap (a1.tdiv 2)).toNat Z10).From), (.bool true)], ⟨I, I, J0⟩, I, J0⟩
 have h := hif.2 hc
 refine Z14 <| Z27 <| Z8 <| Zb <| Z5 <| Z1 I (Z9 I I) I <| Z1 I (Z9 I I) I <| Z1 I (Z2s (b := 2) (c := (IntKind.i64.wrap (a1.tdiv 2))) I I I I (by decide)) I ?_
 have ⟨hg2, h⟩ := Zw h
 refine Z1 I (Z1s (k := .i64) (l := a0) (enc := Z6) (z := Z10) (n := (IntKind.i64.wrap (a1.tdiv 2))) (full := false) I s45 I I hg2 I) I <| Z1 I (Z1w I f40_1 I I I) I <| Z1 I (Z1l I o3 I I) I <| Z1 I (Zd I I) I <| Z1 I (Zd (v := (.bool true)) I I) I <| Z7 <| Z8 <| Z1e ?_
 have h := Option.some.inj h
 subst h
 refine (hret _ ?_).1
 exact ⟨[(.int .i64 (a0.getD (IntKind.i64.wrap (a1.tdiv 2)).toNat Z10).To), (.bool true)], ⟨I, I, J0⟩, I, J0⟩
def F108_c10 (_K : Nat) (v7 : (List Z4)) (v8 : Int) (v9 : Bool) : Option (Int × Bool × (List Z4)) :=
 some (v8, v9, v7)
def F108_j18 (_K : Nat) (b12 : Int → Int → (List Z4) → Int → Bool → Option (Int × Bool × (List Z4))) (v13 : Int) (v14 : Int) (v15 : (List Z4)) (v16 : Int) (v17 : Bool) : Option (Int × Bool × (List Z4)) :=
 b12 v13 v14 v15 v16 v17
def F108_j30 (K : Nat) (a899 : Int → Z2a → Int → Bool → (List Z4) → Option (Int × Bool × (List Z4))) (v25 : Int) (v27 : Int) (v4 : Int) (v5 : Bool) (v3 : (List Z4)) (b12 : Int → Int → (List Z4) → Int → Bool → Option (Int × Bool × (List Z4))) (v29 : Int) : Option (Int × Bool × (List Z4)) :=
 (a899 v25 (⟨((v27.tmod 2) == 1), ((v29.tmod 2) == 1)⟩ : Z2a) v4 v5 v3).bind fun v31 =>
 F108_j18 K b12 v27 v29 v31.2.2 v31.1 v31.2.1
def F108_j28 (K : Nat) (v22 : Int × Bool) (v25 : Int) (a899 : Int → Z2a → Int → Bool → (List Z4) → Option (Int × Bool × (List Z4))) (v4 : Int) (v5 : Bool) (v3 : (List Z4)) (b12 : Int → Int → (List Z4) → Int → Bool → Option (Int × Bool × (List Z4))) (v2 : Int) (v27 : Int) : Option (Int × Bool × (List Z4)) :=
 if v22.2 = true then
 if (v22.1 == v25) = true then
 F108_j30 K a899 v25 v27 v4 v5 v3 b12 (IntKind.i64.wrap (v2 + 1))
 else
 F108_j30 K a899 v25 v27 v4 v5 v3 b12 v2
 else
 (a899 v25 (⟨((v27.tmod 2) == 1), ((v2.tmod 2) == 1)⟩ : Z2a) v4 v5 v3).bind fun v32 =>
 F108_j18 K b12 v27 v2 v32.2.2 v32.1 v32.2.1
def F108_j34 (K : Nat) (a899 : Int → Z2a → Int → Bool → (List Z4) → Option (Int × Bool × (List Z4))) (v25 : Int) (v1 : Int) (v4 : Int) (v5 : Bool) (v3 : (List Z4)) (b12 : Int → Int → (List Z4) → Int → Bool → Option (Int × Bool × (List Z4))) (v33 : Int) : Option (Int × Bool × (List Z4)) :=
 (a899 v25 (⟨((v1.tmod 2) == 1), ((v33.tmod 2) == 1)⟩ : Z2a) v4 v5 v3).bind fun v35 =>
 F108_j18 K b12 v1 v33 v35.2.2 v35.1 v35.2.1
def F108_j26 (K : Nat) (v20 : Int × Bool) (v22 : Int × Bool) (a899 : Int → Z2a → Int → Bool → (List Z4) → Option (Int × Bool × (List Z4))) (v4 : Int) (v5 : Bool) (v3 : (List Z4)) (b12 : Int → Int → (List Z4) → Int → Bool → Option (Int × Bool × (List Z4))) (v2 : Int) (v1 : Int) (v25 : Int) : Option (Int × Bool × (List Z4)) :=
 if v20.2 = true then
 if (v20.1 == v25) = true then
 F108_j28 K v22 v25 a899 v4 v5 v3 b12 v2 (IntKind.i64.wrap (v1 + 1))
 else
 F108_j28 K v22 v25 a899 v4 v5 v3 b12 v2 v1
 else
 if v22.2 = true then
 if (v22.1 == v25) = true then
 F108_j34 K a899 v25 v1 v4 v5 v3 b12 (IntKind.i64.wrap (v2 + 1))
 else
 F108_j34 K a899 v25 v1 v4 v5 v3 b12 v2
 else
 (a899 v25 (⟨((v1.tmod 2) == 1), ((v2.tmod 2) == 1)⟩ : Z2a) v4 v5 v3).bind fun v36 =>
 F108_j18 K b12 v1 v2 v36.2.2 v36.1 v36.2.1
def F108_j24 (K : Nat) (v20 : Int × Bool) (v22 : Int × Bool) (a899 : Int → Z2a → Int → Bool → (List Z4) → Option (Int × Bool × (List Z4))) (v4 : Int) (v5 : Bool) (v3 : (List Z4)) (b12 : Int → Int → (List Z4) → Int → Bool → Option (Int × Bool × (List Z4))) (v2 : Int) (v1 : Int) (v23 : Bool) : Option (Int × Bool × (List Z4)) :=
 if v23 = true then
 F108_j26 K v20 v22 a899 v4 v5 v3 b12 v2 v1 v22.1
 else
 F108_j26 K v20 v22 a899 v4 v5 v3 b12 v2 v1 v20.1
def F108_j42 (_K : Nat) (b12 : Int → Int → (List Z4) → Int → Bool → Option (Int × Bool × (List Z4))) (v37 : Int) (v38 : Int) (v39 : (List Z4)) (v40 : Int) (v41 : Bool) : Option (Int × Bool × (List Z4)) :=
 b12 v37 v38 v39 v40 v41
def F108_j54 (K : Nat) (a899 : Int → Z2a → Int → Bool → (List Z4) → Option (Int × Bool × (List Z4))) (v49 : Int) (v51 : Int) (v4 : Int) (v5 : Bool) (v3 : (List Z4)) (b12 : Int → Int → (List Z4) → Int → Bool → Option (Int × Bool × (List Z4))) (v53 : Int) : Option (Int × Bool × (List Z4)) :=
 (a899 v49 (⟨((v51.tmod 2) == 1), ((v53.tmod 2) == 1)⟩ : Z2a) v4 v5 v3).bind fun v55 =>
 F108_j42 K b12 v51 v53 v55.2.2 v55.1 v55.2.1
def F108_j52 (K : Nat) (v46 : Int × Bool) (v49 : Int) (a899 : Int → Z2a → Int → Bool → (List Z4) → Option (Int × Bool × (List Z4))) (v4 : Int) (v5 : Bool) (v3 : (List Z4)) (b12 : Int → Int → (List Z4) → Int → Bool → Option (Int × Bool × (List Z4))) (v2 : Int) (v51 : Int) : Option (Int × Bool × (List Z4)) :=
 if v46.2 = true then
 if (v46.1 == v49) = true then
 F108_j54 K a899 v49 v51 v4 v5 v3 b12 (IntKind.i64.wrap (v2 + 1))
 else
 F108_j54 K a899 v49 v51 v4 v5 v3 b12 v2
 else
 (a899 v49 (⟨((v51.tmod 2) == 1), ((v2.tmod 2) == 1)⟩ : Z2a) v4 v5 v3).bind fun v56 =>
 F108_j42 K b12 v51 v2 v56.2.2 v56.1 v56.2.1
def F108_j58 (K : Nat) (a899 : Int → Z2a → Int → Bool → (List Z4) → Option (Int × Bool × (List Z4))) (v49 : Int) (v1 : Int) (v4 : Int) (v5 : Bool) (v3 : (List Z4)) (b12 : Int → Int → (List Z4) → Int → Bool → Option (Int × Bool × (List Z4))) (v57 : Int) : Option (Int × Bool × (List Z4)) :=
 (a899 v49 (⟨((v1.tmod 2) == 1), ((v57.tmod 2) == 1)⟩ : Z2a) v4 v5 v3).bind fun v59 =>
 F108_j42 K b12 v1 v57 v59.2.2 v59.1 v59.2.1
def F108_j50 (K : Nat) (v44 : Int × Bool) (v46 : Int × Bool) (a899 : Int → Z2a → Int → Bool → (List Z4) → Option (Int × Bool × (List Z4))) (v4 : Int) (v5 : Bool) (v3 : (List Z4)) (b12 : Int → Int → (List Z4) → Int → Bool → Option (Int × Bool × (List Z4))) (v2 : Int) (v1 : Int) (v49 : Int) : Option (Int × Bool × (List Z4)) :=
 if v44.2 = true then
 if (v44.1 == v49) = true then
 F108_j52 K v46 v49 a899 v4 v5 v3 b12 v2 (IntKind.i64.wrap (v1 + 1))
 else
 F108_j52 K v46 v49 a899 v4 v5 v3 b12 v2 v1
 else
 if v46.2 = true then
 if (v46.1 == v49) = true then
 F108_j58 K a899 v49 v1 v4 v5 v3 b12 (IntKind.i64.wrap (v2 + 1))
 else
 F108_j58 K a899 v49 v1 v4 v5 v3 b12 v2
 else
 (a899 v49 (⟨((v1.tmod 2) == 1), ((v2.tmod 2) == 1)⟩ : Z2a) v4 v5 v3).bind fun v60 =>
 F108_j42 K b12 v1 v2 v60.2.2 v60.1 v60.2.1
def F108_j48 (K : Nat) (v44 : Int × Bool) (v46 : Int × Bool) (a899 : Int → Z2a → Int → Bool → (List Z4) → Option (Int × Bool × (List Z4))) (v4 : Int) (v5 : Bool) (v3 : (List Z4)) (b12 : Int → Int → (List Z4) → Int → Bool → Option (Int × Bool × (List Z4))) (v2 : Int) (v1 : Int) (v47 : Bool) : Option (Int × Bool × (List Z4)) :=
 if v47 = true then
 F108_j50 K v44 v46 a899 v4 v5 v3 b12 v2 v1 v46.1
 else
 F108_j50 K v44 v46 a899 v4 v5 v3 b12 v2 v1 v44.1
def Z3h (K : Nat) (a1 : (List Z4)) (a2 : (List Z4)) (a899 : Int → Z2a → Int → Bool → (List Z4) → Option (Int × Bool × (List Z4))) (c11 : (List Z4) → Int → Bool → Option (Int × Bool × (List Z4))) : Nat → Int → Int → (List Z4) → Int → Bool → Option (Int × Bool × (List Z4))
 | 0, _, _, _, _, _ => none
 | k6 + 1, v1, v2, v3, v4, v5 =>
 if (decide (v1 < (IntKind.i64.wrap (2 * (a1.length : Int))))) = true then
 (F109 K a1 v1).bind fun v20 =>
 (F109 K a2 v2).bind fun v22 =>
 if (!v20.2) = true then
 F108_j24 K v20 v22 a899 v4 v5 v3 (Z3h K a1 a2 a899 c11 k6) v2 v1 true
 else
 if v22.2 = true then
 F108_j24 K v20 v22 a899 v4 v5 v3 (Z3h K a1 a2 a899 c11 k6) v2 v1 (decide (v22.1 < v20.1))
 else
 F108_j24 K v20 v22 a899 v4 v5 v3 (Z3h K a1 a2 a899 c11 k6) v2 v1 false
 else
 if (decide (v2 < (IntKind.i64.wrap (2 * (a2.length : Int))))) = true then
 (F109 K a1 v1).bind fun v44 =>
 (F109 K a2 v2).bind fun v46 =>
 if (!v44.2) = true then
 F108_j48 K v44 v46 a899 v4 v5 v3 (Z3h K a1 a2 a899 c11 k6) v2 v1 true
 else
 if v46.2 = true then
 F108_j48 K v44 v46 a899 v4 v5 v3 (Z3h K a1 a2 a899 c11 k6) v2 v1 (decide (v46.1 < v44.1))
 else
 F108_j48 K v44 v46 a899 v4 v5 v3 (Z3h K a1 a2 a899 c11 k6) v2 v1 false
 else
 c11 v3 v4 v5
def F108 (K : Nat) (a899 : Int → Z2a → Int → Bool → (List Z4) → Option (Int × Bool × (List Z4))) (a900 : Int) (a901 : Bool) (a902 : (List Z4)) (a1 : (List Z4)) (a2 : (List Z4)) : Option (Int × Bool × (List Z4)) :=
 Z3h K a1 a2 a899 (F108_c10 K) K 0 0 a902 a900 a901
theorem F108_ok (K : Nat) (a899 : Int → Z2a → Int → Bool → (List Z4) → Option (Int × Bool × (List Z4))) (a900 : Int) (a901 : Bool) (a902 : (List Z4)) (a1 : (List Z4)) (a2 : (List Z4)) (r : Int × Bool × (List Z4)) (lr : Go.Loop) (h : F108 K a899 a900 a901 a902 a1 a2 = some r) (hps : lr.params.size = 2) (hy : ∀ (x0 : Int) (x1 : Z2a) (a900 : Int) (a901 : Bool) (a902 : (List Z4)) (w : Int × Bool × (List Z4)), a899 x0 x1 a900 a901 a902 = some w → YCall P lr 1000 ⟨[(.int .i64 x0), (e_A2_Bool x1)], [(1000, (.loop lr [5, 7, 8, 9] [(.ptr 1001 0), (.ptr 1002 0), (.ptr 1003 0), (.ptr 1004 0)])), (0, (.vec 2 (List.map Z6 a902))), (1001, (.box [(.clo 71 [])])), (1002, (.box [(.vs 0)])), (1003, (.box [(.int .i64 a900)])), (1004, (.box [(.bool a901)]))], .bool true, [(1000, (.loop lr [5, 7, 8, 9] [(.ptr 1001 0), (.ptr 1002 0), (.ptr 1003 0), (.ptr 1004 0)])), (0, (.vec 2 (List.map Z6 w.2.2))), (1001, (.box [(.clo 71 [])])), (1002, (.box [(.vs 0)])), (1003, (.box [(.int .i64 w.1)])), (1004, (.box [(.bool w.2.1)]))], [0]⟩) : ACall P 108 ⟨[(.yld 1000), (.ip [(.sl 2 (a1.map Z6) false)]), (.ip [(.sl 2 (a2.map Z6) false)])], [(1000, (.loop lr [5, 7, 8, 9] [(.ptr 1001 0), (.ptr 1002 0), (.ptr 1003 0), (.ptr 1004 0)])), (0, (.vec 2 (List.map Z6 a902))), (1001, (.box [(.clo 71 [])])), (1002, (.box [(.vs 0)])), (1003, (.box [(.int .i64 a900)])), (1004, (.box [(.bool a901)]))], .tup [], [(1000, (.loop lr [5, 7, 8, 9] [(.ptr 1001 0), (.ptr 1002 0), (.ptr 1003 0), (.ptr 1004 0)])), (0, (.vec 2 (List.map Z6 r.2.2))), (1001, (.box [(.clo 71 [])])), (1002, (.box [(.vs 0)])), (1003, (.box [(.int .i64 r.1)])), (1004, (.box [(.bool r.2.1)]))], [0]⟩ := by
 refine Z1v Try.func108 Try.results108 rfl Try.ntmps108 rfl rfl rfl ?_
 intro E Q hP hN hro hret
 obtain ⟨P', nt', w0, F0, p0, S0, β0, ro0⟩ := E
 simp only at hP hN
 subst hP hN
 dsimp only [argT]
 unfold F108 at h
 refine Zb <| Z5 <| Z1 I (Zd (v := (.int .i64 0)) I I) I <| Z1 I (Zd (v := (.int .i64 0)) I I) I <| Z7 <| Z8 <| Z1r (st' := ⟨[(0, (.yld 1000)), (1, (.ip [(.sl 2 (a1.map Z6) false)])), (2, (.ip [(.sl 2 (a2.map Z6) false)])), (4, (.int .i64 0)), (5, (.int .i64 0))], [(0, (.vec 2 (List.map Z6 a902))), (1000, (.loop lr [5, 7, 8, 9] [(.ptr 1001 0), (.ptr 1002 0), (.ptr 1003 0), (.ptr 1004 0)])), (1001, (.box [(.clo 71 [])])), (1002, (.box [(.vs 0)])), (1003, (.box [(.int .i64 a900)])), (1004, (.box [(.bool a901)]))]⟩) ⟨I, I, I, I, I, J0⟩ ⟨I, I, I, I, I, I, J0⟩ ?_
 refine Z1o (V := Int × Int × (List Z4) × Int × Bool) (X := (List Z4) × Int × Bool) (lp := fun k v => Z3h K a1 a2 a899 (F108_c10 K) k v.1 v.2.1 v.2.2.1 v.2.2.2.1 v.2.2.2.2 = some r) (sh := fun v => ⟨[(0, (.yld 1000)), (1, (.ip [(.sl 2 (a1.map Z6) false)])), (2, (.ip [(.sl 2 (a2.map Z6) false)])), (4, (.int .i64 v.1)), (5, (.int .i64 v.2.1))], [(0, (.vec 2 (List.map Z6 v.2.2.1))), (1000, (.loop lr [5, 7, 8, 9] [(.ptr 1001 0), (.ptr 1002 0), (.ptr 1003 0), (.ptr 1004 0)])), (1001, (.box [(.clo 71 [])])), (1002, (.box [(.vs 0)])), (1003, (.box [(.int .i64 v.2.2.2.1)])), (1004, (.box [(.bool v.2.2.2.2)]))]⟩) (x := fun v => F108_c10 K v.1 v.2.1 v.2.2 = some r) (shx := fun v => ⟨[], [(0, (.vec 2 (List.map Z6 v.1))), (1000, (.loop lr [5, 7, 8, 9] [(.ptr 1001 0), (.ptr 1002 0), (.ptr 1003 0), (.ptr 1004 0)])), (1001, (.box [(.clo 71 [])])), (1002, (.box [(.vs 0)])), (1003, (.box [(.int .i64 v.2.1)])), (1004, (.box [(.bool v.2.2)]))]⟩) (k := K) (v := (0, 0, a902, a900, a901)) h ?_ ?_
 ·intro v h
  obtain ⟨v7, v8, v9⟩ := v
  try dsimp only at h ⊢
  unfold F108_c10 at h
  have h := Option.some.inj h
  subst h
  refine (hret _ ?_).2
  exact ⟨[], J0, I, ⟨I, I, I, I, I, I, J0⟩⟩
 intro N k6 v h IH6 J6
 obtain ⟨v1, v2, v3, v4, v5⟩ := v
 try dsimp only at h IH6 J6 ⊢
 cases k6 with
 | zero => cases h
 | succ k6 =>
  rw [Z3h] at h
  refine Zb <| Zb <| Z5 <| Z1 I (Z9 I I) I <| Z1 I (Z1l I o45 I I) I <| Z1 I (Z24 (l := a1) (enc := Z6) I s45 I) I <| Z1 I (Z1p (k := .i64) (a := 2) (c := (IntKind.i64.wrap (2 * (a1.length : Int)))) I I I I) I <| Z1 I (Z1c (c := (decide (v1 < (IntKind.i64.wrap (2 * (a1.length : Int)))))) I I I I) I <| Z1 I (Z9 I I) I ?_
  have hif := Z1h h
  refine Z16 (fun hc => ?_) (fun hc => ?_)
  ·have h := hif.1 hc
   iterate 5 refine Zg I I I I I I I ?_
   refine Z1 I (Z19 (v := (.bool true)) I I I) I <| Z7 <| Z8 ?_
   refine Zq (b := true) I (fun hc => ?_) (fun hc => ?_)
   rotate_left
   ·cases hc
   refine Z14 <| Z8 ?_
   refine Z2m (V := Int × Int × (List Z4) × Int × Bool) (lp := fun v => F108_j18 K (Z3h K a1 a2 a899 (F108_c10 K) k6) v.1 v.2.1 v.2.2.1 v.2.2.2.1 v.2.2.2.2 = some r) (sh := fun v => ⟨[(0, (.yld 1000)), (1, (.ip [(.sl 2 (a1.map Z6) false)])), (2, (.ip [(.sl 2 (a2.map Z6) false)])), (4, (.int .i64 v.1)), (5, (.int .i64 v.2.1))], [(0, (.vec 2 (List.map Z6 v.2.2.1))), (1000, (.loop lr [5, 7, 8, 9] [(.ptr 1001 0), (.ptr 1002 0), (.ptr 1003 0), (.ptr 1004 0)])), (1001, (.box [(.clo 71 [])])), (1002, (.box [(.vs 0)])), (1003, (.box [(.int .i64 v.2.2.2.1)])), (1004, (.box [(.bool v.2.2.2.2)]))]⟩) ?_ ?_
   ·intro v h
    obtain ⟨v13, v14, v15, v16, v17⟩ := v
    try dsimp only at h ⊢
    unfold F108_j18 at h
    exact Zz (IH6 _ (v13, v14, v15, v16, v17) (Nat.lt_succ_self _) h) ⟨I, I, I, I, I, J0⟩ ⟨I, I, I, I, I, I, J0⟩
   intro J18
   refine Zb <| Z5 <| Z1 I (Z1l I o45 I I) I <| Z1 I (Z9 I I) I ?_
   have ⟨v20, hv20, h⟩ := Z1a h
   refine Z1 I (Z1d (ar := [(.sl 2 (a1.map Z6) false), (.int .i64 v1)]) Try.call109 (F109_ok K a1 v1 v20 hv20) I I ⟨I, I, J0⟩ I) I <| Z1 I (Z9 I I) I <| Z1 I (Z20 I I I) I <| Z1 I (Z20 I I I) I <| Z1 I (Zd I I) I <| Z1 I (Zd I I) I <| Z7 <| Z8 <| Zb <| Z5 <| Z1 I (Z1l I o45 I I) I <| Z1 I (Z9 I I) I ?_
   have ⟨v22, hv22, h⟩ := Z1a h
   refine Z1 I (Z1d (ar := [(.sl 2 (a2.map Z6) false), (.int .i64 v2)]) Try.call109 (F109_ok K a2 v2 v22 hv22) I I ⟨I, I, J0⟩ I) I <| Z1 I (Z9 I I) I <| Z1 I (Z20 I I I) I <| Z1 I (Z20 I I I) I <| Z1 I (Zd I I) I <| Z1 I (Zd I I) I <| Z7 <| Z8 <| Zb <| Z5 <| Z1 I (Z9 I I) I <| Z1 I (Zd I I) I <| Z7 <| Z8 <| Zb <| Zb ?_
   refine Z21 (V := Bool) (lp := fun v => F108_j24 K v20 v22 a899 v4 v5 v3 (Z3h K a1 a2 a899 (F108_c10 K) k6) v2 v1 v = some r) (sh := fun v => ⟨[(0, (.yld 1000)), (1, (.ip [(.sl 2 (a1.map Z6) false)])), (2, (.ip [(.sl 2 (a2.map Z6) false)])), (4, (.int .i64 v1)), (5, (.int .i64 v2)), (6, (.int .i64 v20.1)), (7, (.bool v20.2)), (8, (.int .i64 v22.1)), (9, (.bool v22.2)), (10, (.int .i64 v20.1)), (45, (.bool v))], [(0, (.vec 2 (List.map Z6 v3))), (1000, (.loop lr [5, 7, 8, 9] [(.ptr 1001 0), (.ptr 1002 0), (.ptr 1003 0), (.ptr 1004 0)])), (1001, (.box [(.clo 71 [])])), (1002, (.box [(.vs 0)])), (1003, (.box [(.int .i64 v4)])), (1004, (.box [(.bool v5)]))]⟩) ?_ ?_
   ·intro v h
    revert h
    revert v
    intro v23 h
    try dsimp only at h ⊢
    unfold F108_j24 at h
    refine Z8 ?_
    refine Z21 (V := Int) (lp := fun v => F108_j26 K v20 v22 a899 v4 v5 v3 (Z3h K a1 a2 a899 (F108_c10 K) k6) v2 v1 v = some r) (sh := fun v => ⟨[(0, (.yld 1000)), (1, (.ip [(.sl 2 (a1.map Z6) false)])), (2, (.ip [(.sl 2 (a2.map Z6) false)])), (4, (.int .i64 v1)), (5, (.int .i64 v2)), (6, (.int .i64 v20.1)), (7, (.bool v20.2)), (8, (.int .i64 v22.1)), (9, (.bool v22.2)), (10, (.int .i64 v))], [(0, (.vec 2 (List.map Z6 v3))), (1000, (.loop lr [5, 7, 8, 9] [(.ptr 1001 0), (.ptr 1002 0), (.ptr 1003 0), (.ptr 1004 0)])), (1001, (.box [(.clo 71 [])])), (1002, (.box [(.vs 0)])), (1003, (.box [(.int .i64 v4)])), (1004, (.box [(.bool v5)]))]⟩) ?_ ?_
    ·intro v h
     revert h
     revert v
     intro v25 h
     try dsimp only at h ⊢
     unfold F108_j26 at h
     refine Z8 <| Zb <| Zb <| Z5 <| Z1 I (Z9 I I) I <| Z1 I (Z9 I I) I ?_
     have hif := Z1h h
     refine Z16 (fun hc => ?_) (fun hc => ?_)
     ·have h := hif.1 hc
      refine Zc I I I I (Z9 I I) I <| Zc I I I I (Z9 I I) I <| Zc I I I I (Z1c (c := (v20.1 == v25)) I I I I) I <| Z1 I (Z19 I I I) I <| Z7 <| Z8 ?_
      refine Z21 (V := Int) (lp := fun v => F108_j28 K v22 v25 a899 v4 v5 v3 (Z3h K a1 a2 a899 (F108_c10 K) k6) v2 v = some r) (sh := fun v => ⟨[(0, (.yld 1000)), (1, (.ip [(.sl 2 (a1.map Z6) false)])), (2, (.ip [(.sl 2 (a2.map Z6) false)])), (4, (.int .i64 v)), (5, (.int .i64 v2)), (8, (.int .i64 v22.1)), (9, (.bool v22.2)), (10, (.int .i64 v25))], [(0, (.vec 2 (List.map Z6 v3))), (1000, (.loop lr [5, 7, 8, 9] [(.ptr 1001 0), (.ptr 1002 0), (.ptr 1003 0), (.ptr 1004 0)])), (1001, (.box [(.clo 71 [])])), (1002, (.box [(.vs 0)])), (1003, (.box [(.int .i64 v4)])), (1004, (.box [(.bool v5)]))]⟩) ?_ ?_
      ·intro v h
       revert h
       revert v
       intro v27 h
       try dsimp only at h ⊢
       unfold F108_j28 at h
       refine Z8 <| Zb <| Zb <| Z5 <| Z1 I (Z9 I I) I <| Z1 I (Z9 I I) I ?_
       have hif := Z1h h
       refine Z16 (fun hc => ?_) (fun hc => ?_)
       ·have h := hif.1 hc
        refine Zc I I I I (Z9 I I) I <| Zc I I I I (Z9 I I) I <| Zc I I I I (Z1c (c := (v22.1 == v25)) I I I I) I <| Z1 I (Z19 I I I) I <| Z7 <| Z8 ?_
        refine Z21 (V := Int) (lp := fun v => F108_j30 K a899 v25 v27 v4 v5 v3 (Z3h K a1 a2 a899 (F108_c10 K) k6) v = some r) (sh := fun v => ⟨[(0, (.yld 1000)), (1, (.ip [(.sl 2 (a1.map Z6) false)])), (2, (.ip [(.sl 2 (a2.map Z6) false)])), (4, (.int .i64 v27)), (5, (.int .i64 v)), (10, (.int .i64 v25))], [(0, (.vec 2 (List.map Z6 v3))), (1000, (.loop lr [5, 7, 8, 9] [(.ptr 1001 0), (.ptr 1002 0), (.ptr 1003 0), (.ptr 1004 0)])), (1001, (.box [(.clo 71 [])])), (1002, (.box [(.vs 0)])), (1003, (.box [(.int .i64 v4)])), (1004, (.box [(.bool v5)]))]⟩) ?_ ?_
        ·intro v h
         revert h
         revert v
         intro v29 h
         try dsimp only at h ⊢
         unfold F108_j30 at h
         refine Z8 <| Zb <| Z5 <| Z1 I (Z9 I I) I <| Z1 I (Z9 I I) I <| Z1 I (Z9 I I) I <| Z1 I (Z2s (b := 2) (c := (v27.tmod 2)) I I I I (by decide)) I <| Z1 I (Z1c (b := 1) (c := ((v27.tmod 2) == 1)) I I I I) I <| Z1 I (Z9 I I) I <| Z1 I (Z2s (b := 2) (c := (v29.tmod 2)) I I I I (by decide)) I <| Z1 I (Z1c (b := 1) (c := ((v29.tmod 2) == 1)) I I I I) I <| Z1 I (Z3m (vs := [(0, (.bool ((v27.tmod 2) == 1))), (1, (.bool ((v29.tmod 2) == 1)))]) I ar128 ⟨I, I, I, I, J0⟩ I) I ?_
         have ⟨v31, hv31, h⟩ := Z1a h
         refine Z1 I (Z3k (d := some 72) (ks := [5, 7, 8, 9]) (vs := [(.ptr 1001 0), (.ptr 1002 0), (.ptr 1003 0), (.ptr 1004 0)]) (c := ⟨[(.int .i64 v25), (.ag [(.bool ((v27.tmod 2) == 1)), (.bool ((v29.tmod 2) == 1))])], [(1000, (.loop lr [5, 7, 8, 9] [(.ptr 1001 0), (.ptr 1002 0), (.ptr 1003 0), (.ptr 1004 0)])), (0, (.vec 2 (List.map Z6 v3))), (1001, (.box [(.clo 71 [])])), (1002, (.box [(.vs 0)])), (1003, (.box [(.int .i64 v4)])), (1004, (.box [(.bool v5)]))], .bool true, [(1000, (.loop lr [5, 7, 8, 9] [(.ptr 1001 0), (.ptr 1002 0), (.ptr 1003 0), (.ptr 1004 0)])), (0, (.vec 2 (List.map Z6 v31.2.2))), (1001, (.box [(.clo 71 [])])), (1002, (.box [(.vs 0)])), (1003, (.box [(.int .i64 v31.1)])), (1004, (.box [(.bool v31.2.1)]))], [0]⟩) (ar := [(.int .i64 v25), (.ag [(.bool ((v27.tmod 2) == 1)), (.bool ((v29.tmod 2) == 1))])]) (news := []) (forg := [0]) (hy v25 (⟨((v27.tmod 2) == 1), ((v29.tmod 2) == 1)⟩ : Z2a) v4 v5 v3 _ hv31) I hps I I ⟨I, I, J0⟩ I ⟨I, I, I, I, I, I, J0⟩ I) I <| Z1 I (Z2c I I) I <| Z7 <| Z8 ?_
         refine Zq (b := false) I (fun hc => ?_) (fun hc => ?_)
         ·cases hc
         refine Z14 <| Z27 ?_
         exact Zz (J18 (v27, v29, v31.2.2, v31.1, v31.2.1) h) ⟨I, I, I, I, I, J0⟩ ⟨I, I, I, I, I, I, J0⟩
        intro J30
        have hif := Z1h h
        refine Zq I (fun hc => ?_) (fun hc => ?_)
        ·have h := hif.1 hc
         refine Z5 <| Z1 I (Z9 I I) I <| Z1 I (Z1p (k := .i64) (b := 1) (c := (IntKind.i64.wrap (v2 + 1))) I I I I) I <| Z1 I (Zd I I) I <| Z7 ?_
         exact Zz (J30 (IntKind.i64.wrap (v2 + 1)) h) ⟨I, I, I, I, I, I, J0⟩ ⟨I, I, I, I, I, I, J0⟩
        have h := hif.2 hc
        refine Z14 ?_
        exact Zz (J30 v2 h) ⟨I, I, I, I, I, I, J0⟩ ⟨I, I, I, I, I, I, J0⟩
       have h := hif.2 hc
       refine Zg I I I I I I I <| Zg I I I I I I I <| Zg I I I I I I I <| Z1 I (Zy (v := (.bool false)) I I I) I <| Z7 <| Z8 ?_
       refine Zq (b := false) I (fun hc => ?_) (fun hc => ?_)
       ·cases hc
       refine Z14 <| Z8 <| Zb <| Z5 <| Z1 I (Z9 I I) I <| Z1 I (Z9 I I) I <| Z1 I (Z9 I I) I <| Z1 I (Z2s (b := 2) (c := (v27.tmod 2)) I I I I (by decide)) I <| Z1 I (Z1c (b := 1) (c := ((v27.tmod 2) == 1)) I I I I) I <| Z1 I (Z9 I I) I <| Z1 I (Z2s (b := 2) (c := (v2.tmod 2)) I I I I (by decide)) I <| Z1 I (Z1c (b := 1) (c := ((v2.tmod 2) == 1)) I I I I) I <| Z1 I (Z3m (vs := [(0, (.bool ((v27.tmod 2) == 1))), (1, (.bool ((v2.tmod 2) == 1)))]) I ar128 ⟨I, I, I, I, J0⟩ I) I ?_
       have ⟨v32, hv32, h⟩ := Z1a h
       refine Z1 I (Z3k (d := some 72) (ks := [5, 7, 8, 9]) (vs := [(.ptr 1001 0), (.ptr 1002 0), (.ptr 1003 0), (.ptr 1004 0)]) (c := ⟨[(.int .i64 v25), (.ag [(.bool ((v27.tmod 2) == 1)), (.bool ((v2.tmod 2) == 1))])], [(1000, (.loop lr [5, 7, 8, 9] [(.ptr 1001 0), (.ptr 1002 0), (.ptr 1003 0), (.ptr 1004 0)])), (0, (.vec 2 (List.map Z6 v3))), (1001, (.box [(.clo 71 [])])), (1002, (.box [(.vs 0)])), (1003, (.box [(.int .i64 v4)])), (1004, (.box [(.bool v5)]))], .bool true, [(1000, (.loop lr [5, 7, 8, 9] [(.ptr 1001 0), (.ptr 1002 0), (.ptr 1003 0), (.ptr 1004 0)])), (0, (.vec 2 (List.map Z6 v32.2.2))), (1001, (.box [(.clo 71 [])])), (1002, (.box [(.vs 0)])), (1003, (.box [(.int .i64 v32.1)])), (1004, (.box [(.bool v32.2.1)]))], [0]⟩) (ar := [(.int .i64 v25), (.ag [(.bool ((v27.tmod 2) == 1)), (.bool ((v2.tmod 2) == 1))])]) (news := []) (forg := [0]) (hy v25 (⟨((v27.tmod 2) == 1), ((v2.tmod 2) == 1)⟩ : Z2a) v4 v5 v3 _ hv32) I hps I I ⟨I, I, J0⟩ I ⟨I, I, I, I, I, I, J0⟩ I) I <| Z1 I (Z2c I I) I <| Z7 <| Z8 ?_
       refine Zq (b := false) I (fun hc => ?_) (fun hc => ?_)
       ·cases hc
       refine Z14 <| Z27 ?_
       exact Zz (J18 (v27, v2, v32.2.2, v32.1, v32.2.1) h) ⟨I, I, I, I, I, J0⟩ ⟨I, I, I, I, I, I, J0⟩
      intro J28
      have hif := Z1h h
      refine Zq I (fun hc => ?_) (fun hc => ?_)
      ·have h := hif.1 hc
       refine Z5 <| Z1 I (Z9 I I) I <| Z1 I (Z1p (k := .i64) (b := 1) (c := (IntKind.i64.wrap (v1 + 1))) I I I I) I <| Z1 I (Zd I I) I <| Z7 ?_
       exact Zz (J28 (IntKind.i64.wrap (v1 + 1)) h) ⟨I, I, I, I, I, I, I, I, J0⟩ ⟨I, I, I, I, I, I, J0⟩
      have h := hif.2 hc
      refine Z14 ?_
      exact Zz (J28 v1 h) ⟨I, I, I, I, I, I, I, I, J0⟩ ⟨I, I, I, I, I, I, J0⟩
     have h := hif.2 hc
     refine Zg I I I I I I I <| Zg I I I I I I I <| Zg I I I I I I I <| Z1 I (Zy (v := (.bool false)) I I I) I <| Z7 <| Z8 ?_
     refine Zq (b := false) I (fun hc => ?_) (fun hc => ?_)
     ·cases hc
     refine Z14 <| Z8 <| Zb <| Zb <| Z5 <| Z1 I (Z9 I I) I <| Z1 I (Z9 I I) I ?_
     have hif := Z1h h
     refine Z16 (fun hc => ?_) (fun hc => ?_)
     ·have h := hif.1 hc
      refine Zc I I I I (Z9 I I) I <| Zc I I I I (Z9 I I) I <| Zc I I I I (Z1c (c := (v22.1 == v25)) I I I I) I <| Z1 I (Z19 I I I) I <| Z7 <| Z8 ?_
      refine Z21 (V := Int) (lp := fun v => F108_j34 K a899 v25 v1 v4 v5 v3 (Z3h K a1 a2 a899 (F108_c10 K) k6) v = some r) (sh := fun v => ⟨[(0, (.yld 1000)), (1, (.ip [(.sl 2 (a1.map Z6) false)])), (2, (.ip [(.sl 2 (a2.map Z6) false)])), (4, (.int .i64 v1)), (5, (.int .i64 v)), (10, (.int .i64 v25))], [(0, (.vec 2 (List.map Z6 v3))), (1000, (.loop lr [5, 7, 8, 9] [(.ptr 1001 0), (.ptr 1002 0), (.ptr 1003 0), (.ptr 1004 0)])), (1001, (.box [(.clo 71 [])])), (1002, (.box [(.vs 0)])), (1003, (.box [(.int .i64 v4)])), (1004, (.box [(.bool v5)]))]⟩) ?_ ?_
      ·intro v h
       revert h
       revert v
       intro v33 h
       try dsimp only at h ⊢
       unfold F108_j34 at h
       refine Z8 <| Zb <| Z5 <| Z1 I (Z9 I I) I <| Z1 I (Z9 I I) I <| Z1 I (Z9 I I) I <| Z1 I (Z2s (b := 2) (c := (v1.tmod 2)) I I I I (by decide)) I <| Z1 I (Z1c (b := 1) (c := ((v1.tmod 2) == 1)) I I I I) I <| Z1 I (Z9 I I) I <| Z1 I (Z2s (b := 2) (c := (v33.tmod 2)) I I I I (by decide)) I <| Z1 I (Z1c (b := 1) (c := ((v33.tmod 2) == 1)) I I I I) I <| Z1 I (Z3m (vs := [(0, (.bool ((v1.tmod 2) == 1))), (1, (.bool ((v33.tmod 2) == 1)))]) I ar128 ⟨I, I, I, I, J0⟩ I) I ?_
       have ⟨v35, hv35, h⟩ := Z1a h
       refine Z1 I (Z3k (d := some 72) (ks := [5, 7, 8, 9]) (vs := [(.ptr 1001 0), (.ptr 1002 0), (.ptr 1003 0), (.ptr 1004 0)]) (c := ⟨[(.int .i64 v25), (.ag [(.bool ((v1.tmod 2) == 1)), (.bool ((v33.tmod 2) == 1))])], [(1000, (.loop lr [5, 7, 8, 9] [(.ptr 1001 0), (.ptr 1002 0), (.ptr 1003 0), (.ptr 1004 0)])), (0, (.vec 2 (List.map Z6 v3))), (1001, (.box [(.clo 71 [])])), (1002, (.box [(.vs 0)])), (1003, (.box [(.int .i64 v4)])), (1004, (.box [(.bool v5)]))], .bool true, [(1000, (.loop lr [5, 7, 8, 9] [(.ptr 1001 0), (.ptr 1002 0), (.ptr 1003 0), (.ptr 1004 0)])), (0, (.vec 2 (List.map Z6 v35.2.2))), (1001, (.box [(.clo 71 [])])), (1002, (.box [(.vs 0)])), (1003, (.box [(.int .i64 v35.1)])), (1004, (.box [(.bool v35.2.1)]))], [0]⟩) (ar := [(.int .i64 v25), (.ag [(.bool ((v1.tmod 2) == 1)), (.bool ((v33.tmod 2) == 1))])]) (news := []) (forg := [0]) (hy v25 (⟨((v1.tmod 2) == 1), ((v33.tmod 2) == 1)⟩ : Z2a) v4 v5 v3 _ hv35) I hps I I ⟨I, I, J0⟩ I ⟨I, I, I, I, I, I, J0⟩ I) I <| Z1 I (Z2c I I) I <| Z7 <| Z8 ?_
       refine Zq (b := false) I (fun hc => ?_) (fun hc => ?_)
       ·cases hc
       refine Z14 <| Z27 ?_
       exact Zz (J18 (v1, v33, v35.2.2, v35.1, v35.2.1) h) ⟨I, I, I, I, I, J0⟩ ⟨I, I, I, I, I, I, J0⟩
      intro J34
      have hif := Z1h h
      refine Zq I (fun hc => ?_) (fun hc => ?_)
      ·have h := hif.1 hc
       refine Z5 <| Z1 I (Z9 I I) I <| Z1 I (Z1p (k := .i64) (b := 1) (c := (IntKind.i64.wrap (v2 + 1))) I I I I) I <| Z1 I (Zd I I) I <| Z7 ?_
       exact Zz (J34 (IntKind.i64.wrap (v2 + 1)) h) ⟨I, I, I, I, I, I, J0⟩ ⟨I, I, I, I, I, I, J0⟩
      have h := hif.2 hc
      refine Z14 ?_
      exact Zz (J34 v2 h) ⟨I, I, I, I, I, I, J0⟩ ⟨I, I, I, I, I, I, J0⟩
     have h := hif.2 hc
     refine Zg I I I I I I I <| Zg I I I I I I I <| Zg I I I I I I I <| Z1 I (Zy (v := (.bool false)) I I I) I <| Z7 <| Z8 ?_
     refine Zq (b := false) I (fun hc => ?_) (fun hc => ?_)
     ·cases hc
     refine Z14 <| Z8 <| Zb <| Z5 <| Z1 I (Z9 I I) I <| Z1 I (Z9 I I) I <| Z1 I (Z9 I I) I <| Z1 I (Z2s (b := 2) (c := (v1.tmod 2)) I I I I (by decide)) I <| Z1 I (Z1c (b := 1) (c := ((v1.tmod 2) == 1)) I I I I) I <| Z1 I (Z9 I I) I <| Z1 I (Z2s (b := 2) (c := (v2.tmod 2)) I I I I (by decide)) I <| Z1 I (Z1c (b := 1) (c := ((v2.tmod 2) == 1)) I I I I) I <| Z1 I (Z3m (vs := [(0, (.bool ((v1.tmod 2) == 1))), (1, (.bool ((v2.tmod 2) == 1)))]) I ar128 ⟨I, I, I, I, J0⟩ I) I ?_
     have ⟨v36, hv36, h⟩ := Z1a h
     refine Z1 I (Z3k (d := some 72) (ks := [5, 7, 8, 9]) (vs := [(.ptr 1001 0), (.ptr 1002 0), (.ptr 1003 0), (.ptr 1004 0)]) (c := ⟨[(.int .i64 v25), (.ag [(.bool ((v1.tmod 2) == 1)), (.bool ((v2.tmod 2) == 1))])], [(1000, (.loop lr [5, 7, 8, 9] [(.ptr 1001 0), (.ptr 1002 0), (.ptr 1003 0), (.ptr 1004 0)])), (0, (.vec 2 (List.map Z6 v3))), (1001, (.box [(.clo 71 [])])), (1002, (.box [(.vs 0)])), (1003, (.box [(.int .i64 v4)])), (1004, (.box [(.bool v5)]))], .bool true, [(1000, (.loop lr [5, 7, 8, 9] [(.ptr 1001 0), (.ptr 1002 0), (.ptr 1003 0), (.ptr 1004 0)])), (0, (.vec 2 (List.map Z6 v36.2.2))), (1001, (.box [(.clo 71 [])])), (1002, (.box [(.vs 0)])), (1003, (.box [(.int .i64 v36.1)])), (1004, (.box [(.bool v36.2.1)]))], [0]⟩) (ar := [(.int .i64 v25), (.ag [(.bool ((v1.tmod 2) == 1)), (.bool ((v2.tmod 2) == 1))])]) (news := []) (forg := [0]) (hy v25 (⟨((v1.tmod 2) == 1), ((v2.tmod 2) == 1)⟩ : Z2a) v4 v5 v3 _ hv36) I hps I I ⟨I, I, J0⟩ I ⟨I, I, I, I, I, I, J0⟩ I) I <| Z1 I (Z2c I I) I <| Z7 <| Z8 ?_
     refine Zq (b := false) I (fun hc => ?_) (fun hc => ?_)
     ·cases hc
     refine Z14 <| Z27 ?_
     exact Zz (J18 (v1, v2, v36.2.2, v36.1, v36.2.1) h) ⟨I, I, I, I, I, J0⟩ ⟨I, I, I, I, I, I, J0⟩
    intro J26
    have hif := Z1h h
    refine Zq I (fun hc => ?_) (fun hc => ?_)
    ·have h := hif.1 hc
     refine Z5 <| Z1 I (Z9 I I) I <| Z1 I (Zd I I) I <| Z7 ?_
     exact Zz (J26 v22.1 h) ⟨I, I, I, I, I, I, I, I, I, I, J0⟩ ⟨I, I, I, I, I, I, J0⟩
    have h := hif.2 hc
    refine Z14 ?_
    exact Zz (J26 v20.1 h) ⟨I, I, I, I, I, I, I, I, I, I, J0⟩ ⟨I, I, I, I, I, I, J0⟩
   intro J24
   refine Z5 <| Z1 I (Z9 I I) I <| Z1 I (Z2c I I) I <| Z1 I (Z9 I I) I ?_
   have hif := Z1h h
   refine Z16 (fun hc => ?_) (fun hc => ?_)
   ·have h := hif.1 hc
    refine Zg I I I I I I I <| Zg I I I I I I I <| Zg (u := .tup []) I I I I I I I <| Zg (u := .tup []) I I I I I I I <| Zg (u := .tup []) I I I I I I I <| Zg I I I I I I I <| Z1 I (Z19 (v := (.bool true)) I I I) I <| Z7 ?_
    exact Zz (J24 true h) ⟨I, I, I, I, I, I, I, I, I, I, I, J0⟩ ⟨I, I, I, I, I, I, J0⟩
   have h := hif.2 hc
   refine Zc I I I I (Z9 I I) I <| Zc I I I I (Z9 I I) I ?_
   have hif := Z1h h
   refine Z16 (fun hc => ?_) (fun hc => ?_)
   ·have h := hif.1 hc
    refine Zc I I I I (Z9 I I) I <| Zc I I I I (Z9 I I) I <| Zc I I I I (Z1c (c := (decide (v22.1 < v20.1))) I I I I) I <| Zc I I I I (Z19 I I I) I <| Z1 I (Zy I I I) I <| Z7 ?_
    exact Zz (J24 (decide (v22.1 < v20.1)) h) ⟨I, I, I, I, I, I, I, I, I, I, I, J0⟩ ⟨I, I, I, I, I, I, J0⟩
   have h := hif.2 hc
   refine Zg I I I I I I I <| Zg I I I I I I I <| Zg I I I I I I I <| Zc I I I I (Zy (v := (.bool false)) I I I) I <| Z1 I (Zy (v := (.bool false)) I I I) I <| Z7 ?_
   exact Zz (J24 false h) ⟨I, I, I, I, I, I, I, I, I, I, I, J0⟩ ⟨I, I, I, I, I, I, J0⟩
  have h := hif.2 hc
  refine Zc I I I I (Z9 I I) I <| Zc I I I I (Z1l I o45 I I) I <| Zc I I I I (Z24 (l := a2) (enc := Z6) I s45 I) I <| Zc I I I I (Z1p (k := .i64) (a := 2) (c := (IntKind.i64.wrap (2 * (a2.length : Int)))) I I I I) I <| Zc I I I I (Z1c (c := (decide (v2 < (IntKind.i64.wrap (2 * (a2.length : Int)))))) I I I I) I <| Z1 I (Zy I I I) I <| Z7 <| Z8 ?_
  have hif := Z1h h
  refine Zq I (fun hc => ?_) (fun hc => ?_)
  ·have h := hif.1 hc
   refine Z14 <| Z8 ?_
   refine Z2m (V := Int × Int × (List Z4) × Int × Bool) (lp := fun v => F108_j42 K (Z3h K a1 a2 a899 (F108_c10 K) k6) v.1 v.2.1 v.2.2.1 v.2.2.2.1 v.2.2.2.2 = some r) (sh := fun v => ⟨[(0, (.yld 1000)), (1, (.ip [(.sl 2 (a1.map Z6) false)])), (2, (.ip [(.sl 2 (a2.map Z6) false)])), (4, (.int .i64 v.1)), (5, (.int .i64 v.2.1))], [(0, (.vec 2 (List.map Z6 v.2.2.1))), (1000, (.loop lr [5, 7, 8, 9] [(.ptr 1001 0), (.ptr 1002 0), (.ptr 1003 0), (.ptr 1004 0)])), (1001, (.box [(.clo 71 [])])), (1002, (.box [(.vs 0)])), (1003, (.box [(.int .i64 v.2.2.2.1)])), (1004, (.box [(.bool v.2.2.2.2)]))]⟩) ?_ ?_
   ·intro v h
    obtain ⟨v37, v38, v39, v40, v41⟩ := v
    try dsimp only at h ⊢
    unfold F108_j42 at h
    exact Zz (IH6 _ (v37, v38, v39, v40, v41) (Nat.lt_succ_self _) h) ⟨I, I, I, I, I, J0⟩ ⟨I, I, I, I, I, I, J0⟩
   intro J42
   refine Zb <| Z5 <| Z1 I (Z1l I o45 I I) I <| Z1 I (Z9 I I) I ?_
   have ⟨v44, hv44, h⟩ := Z1a h
   refine Z1 I (Z1d (ar := [(.sl 2 (a1.map Z6) false), (.int .i64 v1)]) Try.call109 (F109_ok K a1 v1 v44 hv44) I I ⟨I, I, J0⟩ I) I <| Z1 I (Z9 I I) I <| Z1 I (Z20 I I I) I <| Z1 I (Z20 I I I) I <| Z1 I (Zd I I) I <| Z1 I (Zd I I) I <| Z7 <| Z8 <| Zb <| Z5 <| Z1 I (Z1l I o45 I I) I <| Z1 I (Z9 I I) I ?_
   have ⟨v46, hv46, h⟩ := Z1a h
   refine Z1 I (Z1d (ar := [(.sl 2 (a2.map Z6) false), (.int .i64 v2)]) Try.call109 (F109_ok K a2 v2 v46 hv46) I I ⟨I, I, J0⟩ I) I <| Z1 I (Z9 I I) I <| Z1 I (Z20 I I I) I <| Z1 I (Z20 I I I) I <| Z1 I (Zd I I) I <| Z1 I (Zd I I) I <| Z7 <| Z8 <| Zb <| Z5 <| Z1 I (Z9 I I) I <| Z1 I (Zd I I) I <| Z7 <| Z8 <| Zb <| Zb ?_
   refine Z21 (V := Bool) (lp := fun v => F108_j48 K v44 v46 a899 v4 v5 v3 (Z3h K a1 a2 a899 (F108_c10 K) k6) v2 v1 v = some r) (sh := fun v => ⟨[(0, (.yld 1000)), (1, (.ip [(.sl 2 (a1.map Z6) false)])), (2, (.ip [(.sl 2 (a2.map Z6) false)])), (4, (.int .i64 v1)), (5, (.int .i64 v2)), (6, (.int .i64 v44.1)), (7, (.bool v44.2)), (8, (.int .i64 v46.1)), (9, (.bool v46.2)), (10, (.int .i64 v44.1)), (45, (.bool v))], [(0, (.vec 2 (List.map Z6 v3))), (1000, (.loop lr [5, 7, 8, 9] [(.ptr 1001 0), (.ptr 1002 0), (.ptr 1003 0), (.ptr 1004 0)])), (1001, (.box [(.clo 71 [])])), (1002, (.box [(.vs 0)])), (1003, (.box [(.int .i64 v4)])), (1004, (.box [(.bool v5)]))]⟩) ?_ ?_
   ·intro v h
    revert h
    revert v
    intro v47 h
    try dsimp only at h ⊢
    unfold F108_j48 at h
    refine Z8 ?_
    refine Z21 (V := Int) (lp := fun v => F108_j50 K v44 v46 a899 v4 v5 v3 (Z3h K a1 a2 a899 (F108_c10 K) k6) v2 v1 v = some r) (sh := fun v => ⟨[(0, (.yld 1000)), (1, (.ip [(.sl 2 (a1.map Z6) false)])), (2, (.ip [(.sl 2 (a2.map Z6) false)])), (4, (.int .i64 v1)), (5, (.int .i64 v2)), (6, (.int .i64 v44.1)), (7, (.bool v44.2)), (8, (.int .i64 v46.1)), (9, (.bool v46.2)), (10, (.int .i64 v))], [(0, (.vec 2 (List.map Z6 v3))), (1000, (.loop lr [5, 7, 8, 9] [(.ptr 1001 0), (.ptr 1002 0), (.ptr 1003 0), (.ptr 1004 0)])), (1001, (.box [(.clo 71 [])])), (1002, (.box [(.vs 0)])), (1003, (.box [(.int .i64 v4)])), (1004, (.box [(.bool v5)]))]⟩) ?_ ?_
    ·intro v h
     revert h
     revert v
     intro v49 h
     try dsimp only at h ⊢
     unfold F108_j50 at h
     refine Z8 <| Zb <| Zb <| Z5 <| Z1 I (Z9 I I) I <| Z1 I (Z9 I I) I ?_
     have hif := Z1h h
     refine Z16 (fun hc => ?_) (fun hc => ?_)
     ·have h := hif.1 hc
      refine Zc I I I I (Z9 I I) I <| Zc I I I I (Z9 I I) I <| Zc I I I I (Z1c (c := (v44.1 == v49)) I I I I) I <| Z1 I (Z19 I I I) I <| Z7 <| Z8 ?_
      refine Z21 (V := Int) (lp := fun v => F108_j52 K v46 v49 a899 v4 v5 v3 (Z3h K a1 a2 a899 (F108_c10 K) k6) v2 v = some r) (sh := fun v => ⟨[(0, (.yld 1000)), (1, (.ip [(.sl 2 (a1.map Z6) false)])), (2, (.ip [(.sl 2 (a2.map Z6) false)])), (4, (.int .i64 v)), (5, (.int .i64 v2)), (8, (.int .i64 v46.1)), (9, (.bool v46.2)), (10, (.int .i64 v49))], [(0, (.vec 2 (List.map Z6 v3))), (1000, (.loop lr [5, 7, 8, 9] [(.ptr 1001 0), (.ptr 1002 0), (.ptr 1003 0), (.ptr 1004 0)])), (1001, (.box [(.clo 71 [])])), (1002, (.box [(.vs 0)])), (1003, (.box [(.int .i64 v4)])), (1004, (.box [(.bool v5)]))]⟩) ?_ ?_
      ·intro v h
       revert h
       revert v
       intro v51 h
       try dsimp only at h ⊢
       unfold F108_j52 at h
       refine Z8 <| Zb <| Zb <| Z5 <| Z1 I (Z9 I I) I <| Z1 I (Z9 I I) I ?_
       have hif := Z1h h
       refine Z16 (fun hc => ?_) (fun hc => ?_)
       ·have h := hif.1 hc
        refine Zc I I I I (Z9 I I) I <| Zc I I I I (Z9 I I) I <| Zc I I I I (Z1c (c := (v46.1 == v49)) I I I I) I <| Z1 I (Z19 I I I) I <| Z7 <| Z8 ?_
        refine Z21 (V := Int) (lp := fun v => F108_j54 K a899 v49 v51 v4 v5 v3 (Z3h K a1 a2 a899 (F108_c10 K) k6) v = some r) (sh := fun v => ⟨[(0, (.yld 1000)), (1, (.ip [(.sl 2 (a1.map Z6) false)])), (2, (.ip [(.sl 2 (a2.map Z6) false)])), (4, (.int .i64 v51)), (5, (.int .i64 v)), (10, (.int .i64 v49))], [(0, (.vec 2 (List.map Z6 v3))), (1000, (.loop lr [5, 7, 8, 9] [(.ptr 1001 0), (.ptr 1002 0), (.ptr 1003 0), (.ptr 1004 0)])), (1001, (.box [(.clo 71 [])])), (1002, (.box [(.vs 0)])), (1003, (.box [(.int .i64 v4)])), (1004, (.box [(.bool v5)]))]⟩) ?_ ?_
        ·intro v h
         revert h
         revert v
         intro v53 h
         try dsimp only at h ⊢
         unfold F108_j54 at h
         refine Z8 <| Zb <| Z5 <| Z1 I (Z9 I I) I <| Z1 I (Z9 I I) I <| Z1 I (Z9 I I) I <| Z1 I (Z2s (b := 2) (c := (v51.tmod 2)) I I I I (by decide)) I <| Z1 I (Z1c (b := 1) (c := ((v51.tmod 2) == 1)) I I I I) I <| Z1 I (Z9 I I) I <| Z1 I (Z2s (b := 2) (c := (v53.tmod 2)) I I I I (by decide)) I <| Z1 I (Z1c (b := 1) (c := ((v53.tmod 2) == 1)) I I I I) I <| Z1 I (Z3m (vs := [(0, (.bool ((v51.tmod 2) == 1))), (1, (.bool ((v53.tmod 2) == 1)))]) I ar128 ⟨I, I, I, I, J0⟩ I) I ?_
         have ⟨v55, hv55, h⟩ := Z1a h
         refine Z1 I (Z3k (d := some 72) (ks := [5, 7, 8, 9]) (vs := [(.ptr 1001 0), (.ptr 1002 0), (.ptr 1003 0), (.ptr 1004 0)]) (c := ⟨[(.int .i64 v49), (.ag [(.bool ((v51.tmod 2) == 1)), (.bool ((v53.tmod 2) == 1))])], [(1000, (.loop lr [5, 7, 8, 9] [(.ptr 1001 0), (.ptr 1002 0), (.ptr 1003 0), (.ptr 1004 0)])), (0, (.vec 2 (List.map Z6 v3))), (1001, (.box [(.clo 71 [])])), (1002, (.box [(.vs 0)])), (1003, (.box [(.int .i64 v4)])), (1004, (.box [(.bool v5)]))], .bool true, [(1000, (.loop lr [5, 7, 8, 9] [(.ptr 1001 0), (.ptr 1002 0), (.ptr 1003 0), (.ptr 1004 0)])), (0, (.vec 2 (List.map Z6 v55.2.2))), (1001, (.box [(.clo 71 [])])), (1002, (.box [(.vs 0)])), (1003, (.box [(.int .i64 v55.1)])), (1004, (.box [(.bool v55.2.1)]))], [0]⟩) (ar := [(.int .i64 v49), (.ag [(.bool ((v51.tmod 2) == 1)), (.bool ((v53.tmod 2) == 1))])]) (news := []) (forg := [0]) (hy v49 (⟨((v51.tmod 2) == 1), ((v53.tmod 2) == 1)⟩ : Z2a) v4 v5 v3 _ hv55) I hps I I ⟨I, I, J0⟩ I ⟨I, I, I, I, I, I, J0⟩ I) I <| Z1 I (Z2c I I) I <| Z7 <| Z8 ?_
         refine Zq (b := false) I (fun hc => ?_) (fun hc => ?_)
         ·cases hc
         refine Z14 <| Z27 ?_
         exact Zz (J42 (v51, v53, v55.2.2, v55.1, v55.2.1) h) ⟨I, I, I, I, I, J0⟩ ⟨I, I, I, I, I, I, J0⟩
        intro J54
        have hif := Z1h h
        refine Zq I (fun hc => ?_) (fun hc => ?_)
        ·have h := hif.1 hc
         refine Z5 <| Z1 I (Z9 I I) I <| Z1 I (Z1p (k := .i64) (b := 1) (c := (IntKind.i64.wrap (v2 + 1))) I I I I) I <| Z1 I (Zd I I) I <| Z7 ?_
         exact Zz (J54 (IntKind.i64.wrap (v2 + 1)) h) ⟨I, I, I, I, I, I, J0⟩ ⟨I, I, I, I, I, I, J0⟩
        have h := hif.2 hc
        refine Z14 ?_
        exact Zz (J54 v2 h) ⟨I, I, I, I, I, I, J0⟩ ⟨I, I, I, I, I, I, J0⟩
       have h := hif.2 hc
       refine Zg I I I I I I I <| Zg I I I I I I I <| Zg I I I I I I I <| Z1 I (Zy (v := (.bool false)) I I I) I <| Z7 <| Z8 ?_
       refine Zq (b := false) I (fun hc => ?_) (fun hc => ?_)
       ·cases hc
       refine Z14 <| Z8 <| Zb <| Z5 <| Z1 I (Z9 I I) I <| Z1 I (Z9 I I) I <| Z1 I (Z9 I I) I <| Z1 I (Z2s (b := 2) (c := (v51.tmod 2)) I I I I (by decide)) I <| Z1 I (Z1c (b := 1) (c := ((v51.tmod 2) == 1)) I I I I) I <| Z1 I (Z9 I I) I <| Z1 I (Z2s (b := 2) (c := (v2.tmod 2)) I I I I (by decide)) I <| Z1 I (Z1c (b := 1) (c := ((v2.tmod 2) == 1)) I I I I) I <| Z1 I (Z3m (vs := [(0, (.bool ((v51.tmod 2) == 1))), (1, (.bool ((v2.tmod 2) == 1)))]) I ar128 ⟨I, I, I, I, J0⟩ I) I ?_
       have ⟨v56, hv56, h⟩ := Z1a h
       refine Z1 I (Z3k (d := some 72) (ks := [5, 7, 8, 9]) (vs := [(.ptr 1001 0), (.ptr 1002 0), (.ptr 1003 0), (.ptr 1004 0)]) (c := ⟨[(.int .i64 v49), (.ag [(.bool ((v51.tmod 2) == 1)), (.bool ((v2.tmod 2) == 1))])], [(1000, (.loop lr [5, 7, 8, 9] [(.ptr 1001 0), (.ptr 1002 0), (.ptr 1003 0), (.ptr 1004 0)])), (0, (.vec 2 (List.map Z6 v3))), (1001, (.box [(.clo 71 [])])), (1002, (.box [(.vs 0)])), (1003, (.box [(.int .i64 v4)])), (1004, (.box [(.bool v5)]))], .bool true, [(1000, (.loop lr [5, 7, 8, 9] [(.ptr 1001 0), (.ptr 1002 0), (.ptr 1003 0), (.ptr 1004 0)])), (0, (.vec 2 (List.map Z6 v56.2.2))), (1001, (.box [(.clo 71 [])])), (1002, (.box [(.vs 0)])), (1003, (.box [(.int .i64 v56.1)])), (1004, (.box [(.bool v56.2.1)]))], [0]⟩) (ar := [(.int .i64 v49), (.ag [(.bool ((v51.tmod 2) == 1)), (.bool ((v2.tmod 2) == 1))])]) (news := []) (forg := [0]) (hy v49 (⟨((v51.tmod 2) == 1), ((v2.tmod 2) == 1)⟩ : Z2a) v4 v5 v3 _ hv56) I hps I I ⟨I, I, J0⟩ I ⟨I, I, I, I, I, I, J0⟩ I) I <| Z1 I (Z2c I I) I <| Z7 <| Z8 ?_
       refine Zq (b := false) I (fun hc => ?_) (fun hc => ?_)
       ·cases hc
       refine Z14 <| Z27 ?_
       exact Zz (J42 (v51, v2, v56.2.2, v56.1, v56.2.1) h) ⟨I, I, I, I, I, J0⟩ ⟨I, I, I, I, I, I, J0⟩
      intro J52
      have hif := Z1h h
      refine Zq I (fun hc => ?_) (fun hc => ?_)
      ·have h := hif.1 hc
       refine Z5 <| Z1 I (Z9 I I) I <| Z1 I (Z1p (k := .i64) (b := 1) (c := (IntKind.i64.wrap (v1 + 1))) I I I I) I <| Z1 I (Zd I I) I <| Z7 ?_
       exact Zz (J52 (IntKind.i64.wrap (v1 + 1)) h) ⟨I, I, I, I, I, I, I, I, J0⟩ ⟨I, I, I, I, I, I, J0⟩
      have h := hif.2 hc
      refine Z14 ?_
      exact Zz (J52 v1 h) ⟨I, I, I, I, I, I, I, I, J0⟩ ⟨I, I, I, I, I, I, J0⟩
     have h := hif.2 hc
     refine Zg I I I I I I I <| Zg I I I I I I I <| Zg I I I I I I I <| Z1 I (Zy (v := (.bool false)) I I I) I <| Z7 <| Z8 ?_
     refine Zq (b := false) I (fun hc => ?_) (fun hc => ?_)
     ·cases hc
     refine Z14 <| Z8 <| Zb <| Zb <| Z5 <| Z1 I (Z9 I I) I <| Z1 I (Z9 I I) I ?_
     have hif := Z1h h
     refine Z16 (fun hc => ?_) (fun hc => ?_)
     ·have h := hif.1 hc
      refine Zc I I I I (Z9 I I) I <| Zc I I I I (Z9 I I) I <| Zc I I I I (Z1c (c := (v46.1 == v49)) I I I I) I <| Z1 I (Z19 I I I) I <| Z7 <| Z8 ?_
      refine Z21 (V := Int) (lp := fun v => F108_j58 K a899 v49 v1 v4 v5 v3 (Z3h K a1 a2 a899 (F108_c10 K) k6) v = some r) (sh := fun v => ⟨[(0, (.yld 1000)), (1, (.ip [(.sl 2 (a1.map Z6) false)])), (2, (.ip [(.sl 2 (a2.map Z6) false)])), (4, (.int .i64 v1)), (5, (.int .i64 v)), (10, (.int .i64 v49))], [(0, (.vec 2 (List.map Z6 v3))), (1000, (.loop lr [5, 7, 8, 9] [(.ptr 1001 0), (.ptr 1002 0), (.ptr 1003 0), (.ptr 1004 0)])), (1001, (.box [(.clo 71 [])])), (1002, (.box [(.vs 0)])), (1003, (.box [(.int .i64 v4)])), (1004, (.box [(.bool v5)]))]⟩) ?_ ?_
      ·intro v h
       revert h
       revert v
       intro v57 h
       try dsimp only at h ⊢
       unfold F108_j58 at h
       refine Z8 <| Zb <| Z5 <| Z1 I (Z9 I I) I <| Z1 I (Z9 I I) I <| Z1 I (Z9 I I) I <| Z1 I (Z2s (b := 2) (c := (v1.tmod 2)) I I I I (by decide)) I <| Z1 I (Z1c (b := 1) (c := ((v1.tmod 2) == 1)) I I I I) I <| Z1 I (Z9 I I) I <| Z1 I (Z2s (b := 2) (c := (v57.tmod 2)) I I I I (by decide)) I <| Z1 I (Z1c (b := 1) (c := ((v57.tmod 2) == 1)) I I I I) I <| Z1 I (Z3m (vs := [(0, (.bool ((v1.tmod 2) == 1))), (1, (.bool ((v57.tmod 2) == 1)))]) I ar128 ⟨I, I, I, I, J0⟩ I) I ?_
       have ⟨v59, hv59, h⟩ := Z1a h
       refine Z1 I (Z3k (d := some 72) (ks := [5, 7, 8, 9]) (vs := [(.ptr 1001 0), (.ptr 1002 0), (.ptr 1003 0), (.ptr 1004 0)]) (c := ⟨[(.int .i64 v49), (.ag [(.bool ((v1.tmod 2) == 1)), (.bool ((v57.tmod 2) == 1))])], [(1000, (.loop lr [5, 7, 8, 9] [(.ptr 1001 0), (.ptr 1002 0), (.ptr 1003 0), (.ptr 1004 0)])), (0, (.vec 2 (List.map Z6 v3))), (1001, (.box [(.clo 71 [])])), (1002, (.box [(.vs 0)])), (1003, (.box [(.int .i64 v4)])), (1004, (.box [(.bool v5)]))], .bool true, [(1000, (.loop lr [5, 7, 8, 9] [(.ptr 1001 0), (.ptr 1002 0), (.ptr 1003 0), (.ptr 1004 0)])), (0, (.vec 2 (List.map Z6 v59.2.2))), (1001, (.box [(.clo 71 [])])), (1002, (.box [(.vs 0)])), (1003, (.box [(.int .i64 v59.1)])), (1004, (.box [(.bool v59.2.1)]))], [0]⟩) (ar := [(.int .i64 v49), (.ag [(.bool ((v1.tmod 2) == 1)), (.bool ((v57.tmod 2) == 1))])]) (news := []) (forg := [0]) (hy v49 (⟨((v1.tmod 2) == 1), ((v57.tmod 2) == 1)⟩ : Z2a) v4 v5 v3 _ hv59) I hps I I ⟨I, I, J0⟩ I ⟨I, I, I, I, I, I, J0⟩ I) I <| Z1 I (Z2c I I) I <| Z7 <| Z8 ?_
       refine Zq (b := false) I (fun hc => ?_) (fun hc => ?_)
       ·cases hc
       refine Z14 <| Z27 ?_
       exact Zz (J42 (v1, v57, v59.2.2, v59.1, v59.2.1) h) ⟨I, I, I, I, I, J0⟩ ⟨I, I, I, I, I, I, J0⟩
      intro J58
      have hif := Z1h h
      refine Zq I (fun hc => ?_) (fun hc => ?_)
      ·have h := hif.1 hc
       refine Z5 <| Z1 I (Z9 I I) I <| Z1 I (Z1p (k := .i64) (b := 1) (c := (IntKind.i64.wrap (v2 + 1))) I I I I) I <| Z1 I (Zd I I) I <| Z7 ?_
       exact Zz (J58 (IntKind.i64.wrap (v2 + 1)) h) ⟨I, I, I, I, I, I, J0⟩ ⟨I, I, I, I, I, I, J0⟩
      have h := hif.2 hc
      refine Z14 ?_
      exact Zz (J58 v2 h) ⟨I, I, I, I, I, I, J0⟩ ⟨I, I, I, I, I, I, J0⟩
     have h := hif.2 hc
     refine Zg I I I I I I I <| Zg I I I I I I I <| Zg I I I I I I I <| Z1 I (Zy (v := (.bool false)) I I I) I <| Z7 <| Z8 ?_
     refine Zq (b := false) I (fun hc => ?_) (fun hc => ?_)
     ·cases hc
     refine Z14 <| Z8 <| Zb <| Z5 <| Z1 I (Z9 I I) I <| Z1 I (Z9 I I) I <| Z1 I (Z9 I I) I <| Z1 I (Z2s (b := 2) (c := (v1.tmod 2)) I I I I (by decide)) I <| Z1 I (Z1c (b := 1) (c := ((v1.tmod 2) == 1)) I I I I) I <| Z1 I (Z9 I I) I <| Z1 I (Z2s (b := 2) (c := (v2.tmod 2)) I I I I (by decide)) I <| Z1 I (Z1c (b := 1) (c := ((v2.tmod 2) == 1)) I I I I) I <| Z1 I (Z3m (vs := [(0, (.bool ((v1.tmod 2) == 1))), (1, (.bool ((v2.tmod 2) == 1)))]) I ar128 ⟨I, I, I, I, J0⟩ I) I ?_
     have ⟨v60, hv60, h⟩ := Z1a h
     refine Z1 I (Z3k (d := some 72) (ks := [5, 7, 8, 9]) (vs := [(.ptr 1001 0), (.ptr 1002 0), (.ptr 1003 0), (.ptr 1004 0)]) (c := ⟨[(.int .i64 v49), (.ag [(.bool ((v1.tmod 2) == 1)), (.bool ((v2.tmod 2) == 1))])], [(1000, (.loop lr [5, 7, 8, 9] [(.ptr 1001 0), (.ptr 1002 0), (.ptr 1003 0), (.ptr 1004 0)])), (0, (.vec 2 (List.map Z6 v3))), (1001, (.box [(.clo 71 [])])), (1002, (.box [(.vs 0)])), (1003, (.box [(.int .i64 v4)])), (1004, (.box [(.bool v5)]))], .bool true, [(1000, (.loop lr [5, 7, 8, 9] [(.ptr 1001 0), (.ptr 1002 0), (.ptr 1003 0), (.ptr 1004 0)])), (0, (.vec 2 (List.map Z6 v60.2.2))), (1001, (.box [(.clo 71 [])])), (1002, (.box [(.vs 0)])), (1003, (.box [(.int .i64 v60.1)])), (1004, (.box [(.bool v60.2.1)]))], [0]⟩) (ar := [(.int .i64 v49), (.ag [(.bool ((v1.tmod 2) == 1)), (.bool ((v2.tmod 2) == 1))])]) (news := []) (forg := [0]) (hy v49 (⟨((v1.tmod 2) == 1), ((v2.tmod 2) == 1)⟩ : Z2a) v4 v5 v3 _ hv60) I hps I I ⟨I, I, J0⟩ I ⟨I, I, I, I, I, I, J0⟩ I) I <| Z1 I (Z2c I I) I <| Z7 <| Z8 ?_
     refine Zq (b := false) I (fun hc => ?_) (fun hc => ?_)
     ·cases hc
     refine Z14 <| Z27 ?_
     exact Zz (J42 (v1, v2, v60.2.2, v60.1, v60.2.1) h) ⟨I, I, I, I, I, J0⟩ ⟨I, I, I, I, I, I, J0⟩
    intro J50
    have hif := Z1h h
    refine Zq I (fun hc => ?_) (fun hc => ?_)
    ·have h := hif.1 hc
     refine Z5 <| Z1 I (Z9 I I) I <| Z1 I (Zd I I) I <| Z7 ?_
     exact Zz (J50 v46.1 h) ⟨I, I, I, I, I, I, I, I, I, I, J0⟩ ⟨I, I, I, I, I, I, J0⟩
    have h := hif.2 hc
    refine Z14 ?_
    exact Zz (J50 v44.1 h) ⟨I, I, I, I, I, I, I, I, I, I, J0⟩ ⟨I, I, I, I, I, I, J0⟩
   intro J48
   refine Z5 <| Z1 I (Z9 I I) I <| Z1 I (Z2c I I) I <| Z1 I (Z9 I I) I ?_
   have hif := Z1h h
   refine Z16 (fun hc => ?_) (fun hc => ?_)
   ·have h := hif.1 hc
    refine Zg I I I I I I I <| Zg I I I I I I I <| Zg (u := .tup []) I I I I I I I <| Zg (u := .tup []) I I I I I I I <| Zg (u := .tup []) I I I I I I I <| Zg I I I I I I I <| Z1 I (Z19 (v := (.bool true)) I I I) I <| Z7 ?_
    exact Zz (J48 true h) ⟨I, I, I, I, I, I, I, I, I, I, I, J0⟩ ⟨I, I, I, I, I, I, J0⟩
   have h := hif.2 hc
   refine Zc I I I I (Z9 I I) I <| Zc I I I I (Z9 I I) I ?_
   have hif := Z1h h
   refine Z16 (fun hc => ?_) (fun hc => ?_)
   ·have h := hif.1 hc
    refine Zc I I I I (Z9 I I) I <| Zc I I I I (Z9 I I) I <| Zc I I I I (Z1c (c := (decide (v46.1 < v44.1))) I I I I) I <| Zc I I I I (Z19 I I I) I <| Z1 I (Zy I I I) I <| Z7 ?_
    exact Zz (J48 (decide (v46.1 < v44.1)) h) ⟨I, I, I, I, I, I, I, I, I, I, I, J0⟩ ⟨I, I, I, I, I, I, J0⟩
   have h := hif.2 hc
   refine Zg I I I I I I I <| Zg I I I I I I I <| Zg I I I I I I I <| Zc I I I I (Zy (v := (.bool false)) I I I) I <| Z1 I (Zy (v := (.bool false)) I I I) I <| Z7 ?_
   exact Zz (J48 false h) ⟨I, I, I, I, I, I, I, I, I, I, I, J0⟩ ⟨I, I, I, I, I, I, J0⟩
  have h := hif.2 hc
  refine Z1u <| Z26 ?_
  exact Zz (J6 (v3, v4, v5) h) J0 ⟨I, I, I, I, I, I, J0⟩
end Go.AM.Noti
