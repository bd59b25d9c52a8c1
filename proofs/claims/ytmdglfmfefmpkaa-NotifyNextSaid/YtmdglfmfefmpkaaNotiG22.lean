/- What these functions compute, each with its walk: F10. -/
import Derived.Test.YtmdglfmfefmpkaaNotiT
import Derived.Test.YtmdglfmfefmpkaaNotiG2
import Derived.Test.YtmdglfmfefmpkaaNotiG4
import Derived.Test.YtmdglfmfefmpkaaNotiG5
import Derived.Test.YtmdglfmfefmpkaaNotiG9
import Derived.Test.YtmdglfmfefmpkaaNotiG12
import Derived.Test.YtmdglfmfefmpkaaNotiG13
namespace Go.AM.Noti
open Go Go.AM Go.Proofs
set_option maxRecDepth 100000
set_option maxHeartbeats 2000000
def F10_j10 (_K : Nat) (v9 : Bool) : Option (Bool) :=
 some v9
def F10_j21 (_K : Nat) (v20 : Bool) : Option (Bool) :=
 some v20
def F10_j25 (_K : Nat) (v24 : Bool) : Option (Bool) :=
 some v24
def F10_c18 (K : Nat) (v14 : (List Z2)) (v6 : Z2 × Bool × Int) (v17 : Int) : Option (Bool) :=
 if (v17 == (v14.length : Int)) = true then
 if (!v6.2.1) = true then
 if (v6.2.2 == 0) = true then
 (F32 K v6.1 Zi).bind fun v23 =>
 F10_j21 K v23
 else
 F10_j21 K false
 else
 F10_j21 K false
 else
 if v6.2.1 = true then
 if (v6.2.2 == 0) = true then
 if (0 : Int) ≤ v17 ∧ v17 < v14.length then
 (F32 K v6.1 (v14.getD v17.toNat Zi)).bind fun v28 =>
 F10_j25 K v28
 else none
 else
 F10_j25 K false
 else
 F10_j25 K false
def F10_l16 (K : Nat) (v14 : (List Z2)) (a1 : Int) (c19 : Int → Option (Bool)) : Nat → Int → Option (Bool)
 | 0, _ => none
 | k16 + 1, v15 =>
 if (decide (v15 < (v14.length : Int))) = true then
 if (0 : Int) ≤ v15 ∧ v15 < v14.length then
 if (decide ((v14.getD v15.toNat Zi).At < a1)) = true then
 (F10_l16 K v14 a1 c19 k16) (IntKind.i64.wrap (v15 + 1))
 else
 c19 v15
 else none
 else
 c19 v15
noncomputable def F10 (K : Nat) (a0 : Z15) (a1 : Int) : Option (Bool) :=
 (F13 K).bind fun v2 =>
 if (!v2) = true then
 some false
 else
 (F14 K a0).bind fun v4 =>
 (F34 K v4 a1).bind fun v6 =>
 (F28 K a1).bind fun v8 =>
 if (!v8) = true then
 if (!v6.2.1) = true then
 if (v6.2.2 == 32) = true then
 (F32 K v6.1 Zi).bind fun v12 =>
 F10_j10 K v12
 else
 F10_j10 K false
 else
 F10_j10 K false
 else
 (F30 K v4 1048576).bind fun v14 =>
 F10_l16 K v14 a1 (F10_c18 K v14 v6) K 0
theorem F10_ok (K : Nat) (a0 : Z15) (a1 : Int) (r : Bool) (h : F10 K a0 a1 = some r) : ACall P 10 ⟨[(Zv a0), (.int .i64 a1)], [], (.bool r), [], []⟩ := by
 refine Z1v Try.func10 Try.results10 rfl Try.ntmps10 rfl rfl rfl ?_
 intro E Q hP hN hro hret
 obtain ⟨P', nt', w0, F0, p0, S0, β0, ro0⟩ := E
 simp only at hP hN
 subst hP hN
 dsimp only [argT]
 unfold F10 at h
 refine Zb <| Z5 <| Z1 I (Z2r I I I I I) I <| Z1 I (Zd (v := (.bool false)) I I) I <| Z7 <| Z8 <| Zb <| Zb <| Z5 ?_
 have ⟨v2, hv2, h⟩ := Z1a h
 refine Z1 I (Z1d (ar := []) Try.call13 (F13_ok K v2 hv2) I I J0 I) I <| Z1 I (Z2c I I) I <| Z7 <| Z8 ?_
 have hif := Z1h h
 refine Zq I (fun hc => ?_) (fun hc => ?_)
 ·have h := hif.1 hc
  refine Zb <| Z5 <| Z1 I (Zd (v := (.bool false)) I I) I <| Z7 <| Z8 <| Z1e <| Zx ?_
  have h := Option.some.inj h
  subst h
  refine (hret _ ?_).1
  exact ⟨[(.bool false)], ⟨I, J0⟩, I, J0⟩
 have h := hif.2 hc
 refine Z14 <| Z8 <| Zb <| Z5 <| Z1 I (Z1n I a25 I I I I) I ?_
 have ⟨v4, hv4, h⟩ := Z1a h
 refine Z1 I (Z1d (ar := [(Zv a0)]) Try.call14 (F14_ok K a0 v4 hv4) I I ⟨I, J0⟩ I) I <| Z1 I (Z1x I z34 I I I) I <| Z1 I (Z1f sz34 I I I I I I I I) I <| Z7 <| Z8 <| Zb <| Z5 <| Z1 I (Z1n I a34 I I I I) I <| Z1 I (Z9 I I) I ?_
 have ⟨v6, hv6, h⟩ := Z1a h
 refine Z1 I (Z1d (ar := [(Zf v4), (.int .i64 a1)]) Try.call34 (F34_ok K v4 a1 v6 hv6) I I ⟨I, I, J0⟩ I) I <| Z1 I (Z9 I I) I <| Z1 I (Z20 I I I) I <| Z1 I (Z20 I I I) I <| Z1 I (Z20 I I I) I <| Z1 I (Z1x I z60 I I I) I <| Z1 I (Z1f sz60 I I I I I I I I) I <| Z1 I (Zd I I) I <| Z1 I (Zd I I) I <| Z7 <| Z8 <| Zb <| Zb <| Z5 <| Z1 I (Z9 I I) I ?_
 have ⟨v8, hv8, h⟩ := Z1a h
 refine Z1 I (Z1d (ar := [(.int .i64 a1)]) Try.call28 (F28_ok K a1 v8 hv8) I I ⟨I, J0⟩ I) I <| Z1 I (Z2c I I) I <| Z7 <| Z8 ?_
 have hif := Z1h h
 refine Zq I (fun hc => ?_) (fun hc => ?_)
 ·have h := hif.1 hc
  refine Zb ?_
  refine Z21 (V := Bool) (lp := fun v => F10_j10 K v = some r) (sh := fun v => ⟨[(4, (.bool v))], []⟩) ?_ ?_
  ·intro v h
   revert h
   revert v
   intro v9 h
   try dsimp only at h ⊢
   unfold F10_j10 at h
   refine Z8 <| Z1e <| Zx ?_
   have h := Option.some.inj h
   subst h
   refine (hret _ ?_).1
   exact ⟨[(.bool v9)], ⟨I, J0⟩, I, J0⟩
  intro J10
  refine Z5 <| Z1 I (Z9 I I) I <| Z1 I (Z2c I I) I <| Z1 I (Z9 I I) I ?_
  have hif := Z1h h
  refine Z16 (fun hc => ?_) (fun hc => ?_)
  ·have h := hif.1 hc
   refine Zc I I I I (Z9 I I) I <| Zc I I I I (Z1c (b := 32) (c := (v6.2.2 == 32)) I I I I) I <| Z1 I (Z19 I I I) I <| Z1 I (Z9 I I) I ?_
   have hif := Z1h h
   refine Z16 (fun hc => ?_) (fun hc => ?_)
   ·have h := hif.1 hc
    refine Zc I I I I (Z1n I a60 I I I I) I <| Zc I I I I (Z23 (vs := []) I st60 J0 I) I ?_
    have ⟨v12, hv12, h⟩ := Z1a h
    refine Zc I I I I (Z1d (ar := [(Z3 v6.1), (.ag [(.int .i64 0), (.str []), (.int .i64 0), (.str []), (.sl 1 [] false)])]) Try.call32 (F32_ok K v6.1 Zi v12 hv12) I I ⟨I, I, J0⟩ I) I <| Z1 I (Z19 I I I) I <| Z1 I (Zd I I) I <| Z7 ?_
    exact Zz (J10 v12 h) ⟨I, J0⟩ trivial
   have h := hif.2 hc
   refine Zg I I I I I I I <| Zg I I I I I I I <| Zg I I I I I I I <| Z1 I (Zy (v := (.bool false)) I I I) I <| Z1 I (Zd (v := (.bool false)) I I) I <| Z7 ?_
   exact Zz (J10 false h) ⟨I, J0⟩ trivial
  have h := hif.2 hc
  refine Zg I I I I I I I <| Zg I I I I I I I <| Z1 I (Zy (v := (.bool false)) I I I) I <| Z1 I (Z9 (v := (.bool false)) I I) I <| Zg I I I I I I I <| Zg I I I I I I I <| Zg I I I I I I I <| Z1 I (Zy (v := (.bool false)) I I I) I <| Z1 I (Zd (v := (.bool false)) I I) I <| Z7 ?_
  exact Zz (J10 false h) ⟨I, J0⟩ trivial
 have h := hif.2 hc
 refine Z14 <| Z8 <| Zb <| Z5 <| Z1 I (Z1n I a34 I I I I) I ?_
 have ⟨v14, hv14, h⟩ := Z1a h
 refine Z1 I (Z1d (ar := [(Zf v4), (.int .i64 1048576)]) Try.call30 (F30_ok K v4 1048576 v14 hv14) I I ⟨I, I, J0⟩ I) I <| Z1 I (Zd I I) I <| Z7 <| Z8 <| Zb <| Z5 <| Z1 I (Zd (v := (.int .i64 0)) I I) I <| Z7 <| Z8 <| Zb <| Z1r (st' := ⟨[(1, (.int .i64 a1)), (6, (.ptr 6 0)), (7, (.bool v6.2.1)), (8, (.int .i64 v6.2.2)), (9, (.sl 5 (v14.map Z3) false)), (10, (.int .i64 0))], [(6, (.box (Z3 v6.1).cells))]⟩) ⟨I, I, I, I, I, I, J0⟩ ⟨I, J0⟩ ?_
 refine Z1o (V := Int) (X := Int) (lp := fun k v => F10_l16 K v14 a1 (F10_c18 K v14 v6) k v = some r) (sh := fun v => ⟨[(1, (.int .i64 a1)), (6, (.ptr 6 0)), (7, (.bool v6.2.1)), (8, (.int .i64 v6.2.2)), (9, (.sl 5 (v14.map Z3) false)), (10, (.int .i64 v))], [(6, (.box (Z3 v6.1).cells))]⟩) (x := fun v => F10_c18 K v14 v6 v = some r) (shx := fun v => ⟨[(6, (.ptr 6 0)), (7, (.bool v6.2.1)), (8, (.int .i64 v6.2.2)), (9, (.sl 5 (v14.map Z3) false)), (10, (.int .i64 v))], [(6, (.box (Z3 v6.1).cells))]⟩) (k := K) (v := 0) h ?_ ?_
 ·intro v h
  revert h
  revert v
  intro v17 h
  try dsimp only at h ⊢
  unfold F10_c18 at h
  refine Z8 <| Zb <| Zb <| Z5 <| Z1 I (Z9 I I) I <| Z1 I (Z9 I I) I <| Z1 I (Z24 (l := v14) (enc := Z3) I s50 I) I <| Z1 I (Z1c (c := (v17 == (v14.length : Int))) I I I I) I <| Z7 <| Z8 ?_
  have hif := Z1h h
  refine Zq I (fun hc => ?_) (fun hc => ?_)
  ·have h := hif.1 hc
   refine Zb ?_
   refine Z21 (V := Bool) (lp := fun v => F10_j21 K v = some r) (sh := fun v => ⟨[(4, (.bool v))], []⟩) ?_ ?_
   ·intro v h
    revert h
    revert v
    intro v20 h
    try dsimp only at h ⊢
    unfold F10_j21 at h
    refine Z8 <| Z1e <| Zx ?_
    have h := Option.some.inj h
    subst h
    refine (hret _ ?_).1
    exact ⟨[(.bool v20)], ⟨I, J0⟩, I, J0⟩
   intro J21
   refine Z5 <| Z1 I (Z9 I I) I <| Z1 I (Z2c I I) I <| Z1 I (Z9 I I) I ?_
   have hif := Z1h h
   refine Z16 (fun hc => ?_) (fun hc => ?_)
   ·have h := hif.1 hc
    refine Zc I I I I (Z9 I I) I <| Zc I I I I (Z1c (b := 0) (c := (v6.2.2 == 0)) I I I I) I <| Z1 I (Z19 I I I) I <| Z1 I (Z9 I I) I ?_
    have hif := Z1h h
    refine Z16 (fun hc => ?_) (fun hc => ?_)
    ·have h := hif.1 hc
     refine Zc I I I I (Z1n I a60 I I I I) I <| Zc I I I I (Z23 (vs := []) I st60 J0 I) I ?_
     have ⟨v23, hv23, h⟩ := Z1a h
     refine Zc I I I I (Z1d (ar := [(Z3 v6.1), (.ag [(.int .i64 0), (.str []), (.int .i64 0), (.str []), (.sl 1 [] false)])]) Try.call32 (F32_ok K v6.1 Zi v23 hv23) I I ⟨I, I, J0⟩ I) I <| Z1 I (Z19 I I I) I <| Z1 I (Zd I I) I <| Z7 ?_
     exact Zz (J21 v23 h) ⟨I, J0⟩ trivial
    have h := hif.2 hc
    refine Zg I I I I I I I <| Zg I I I I I I I <| Zg I I I I I I I <| Z1 I (Zy (v := (.bool false)) I I I) I <| Z1 I (Zd (v := (.bool false)) I I) I <| Z7 ?_
    exact Zz (J21 false h) ⟨I, J0⟩ trivial
   have h := hif.2 hc
   refine Zg I I I I I I I <| Zg I I I I I I I <| Z1 I (Zy (v := (.bool false)) I I I) I <| Z1 I (Z9 (v := (.bool false)) I I) I <| Zg I I I I I I I <| Zg I I I I I I I <| Zg I I I I I I I <| Z1 I (Zy (v := (.bool false)) I I I) I <| Z1 I (Zd (v := (.bool false)) I I) I <| Z7 ?_
   exact Zz (J21 false h) ⟨I, J0⟩ trivial
  have h := hif.2 hc
  refine Z14 <| Z8 <| Zb ?_
  refine Z21 (V := Bool) (lp := fun v => F10_j25 K v = some r) (sh := fun v => ⟨[(4, (.bool v))], []⟩) ?_ ?_
  ·intro v h
   revert h
   revert v
   intro v24 h
   try dsimp only at h ⊢
   unfold F10_j25 at h
   refine Z8 <| Z1e ?_
   have h := Option.some.inj h
   subst h
   refine (hret _ ?_).1
   exact ⟨[(.bool v24)], ⟨I, J0⟩, I, J0⟩
  intro J25
  refine Z1y mixed <| Za 0 I (Z9 I I) <| Za 1 I (Z9 I I) ?_
  have hif := Z1h h
  refine Z3f (fun hc => ?_) (fun hc => ?_)
  ·have h := hif.1 hc
   refine Z17 2 I I I I (Z9 I I) <| Z17 3 I I I I (Z1c (b := 0) (c := (v6.2.2 == 0)) I I I I) <| Za 4 I (Z19 I I I) <| Za 5 I (Z9 I I) ?_
   have hif := Z1h h
   refine Z3f (fun hc => ?_) (fun hc => ?_)
   ·have h := hif.1 hc
    refine Z17 6 I I I I (Z1n I a60 I I I I) <| Z17 7 I I I I (Z9 I I) <| Z17 8 I I I I (Z9 I I) ?_
    have ⟨hg26, h⟩ := Zw h
    refine Z17 9 I I I I (Z1s (k := .i64) (l := v14) (enc := Z3) (z := Zi) (n := v17) (full := false) I s50 I I hg26 I) <| Z17 10 I I I I (Z28 I a60 I I I) ?_
    have ⟨v28, hv28, h⟩ := Z1a h
    refine Z17 11 I I I I (Z1d (ar := [(Z3 v6.1), (Z3 (v14.getD v17.toNat Zi))]) Try.call32 (F32_ok K v6.1 (v14.getD v17.toNat Zi) v28 hv28) I I ⟨I, I, J0⟩ I) <| Za 12 I (Z19 I I I) <| Za 13 I (Zd I I) <| Z1z (by kernel_rfl) I ?_
    exact Zz (J25 v28 h) ⟨I, J0⟩ trivial
   have h := hif.2 hc
   refine Z11 6 I I I I I I I <| Z11 7 I I I I I I I <| Z11 8 I I I I I I I <| Z11 9 I I I I I I I <| Z11 10 I I I I I I I <| Z11 11 I I I I I I I <| Za 12 I (Zy (v := (.bool false)) I I I) <| Za 13 I (Zd (v := (.bool false)) I I) <| Z1z (by kernel_rfl) I ?_
   exact Zz (J25 false h) ⟨I, J0⟩ trivial
  have h := hif.2 hc
  refine Z11 2 I I I I I I I <| Z11 3 I I I I I I I <| Za 4 I (Zy (v := (.bool false)) I I I) <| Za 5 I (Z9 (v := (.bool false)) I I) <| Z11 6 I I I I I I I <| Z11 7 I I I I I I I <| Z11 8 I I I I I I I <| Z11 9 I I I I I I I <| Z11 10 I I I I I I I <| Z11 11 I I I I I I I <| Za 12 I (Zy (v := (.bool false)) I I I) <| Za 13 I (Zd (v := (.bool false)) I I) <| Z1z (by kernel_rfl) I ?_
  exact Zz (J25 false h) ⟨I, J0⟩ trivial
 intro N k16 v h IH16 J16
 revert h
 revert v
 intro v15 h
 try dsimp only at h IH16 J16 ⊢
 cases k16 with
 | zero => cases h
 | succ k16 =>
  rw [F10_l16] at h
  refine Zb <| Zb <| Z5 <| Z1 I (Z9 I I) I <| Z1 I (Z9 I I) I <| Z1 I (Z24 (l := v14) (enc := Z3) I s50 I) I <| Z1 I (Z1c (c := (decide (v15 < (v14.length : Int)))) I I I I) I <| Z1 I (Z9 I I) I ?_
  have hif := Z1h h
  refine Z16 (fun hc => ?_) (fun hc => ?_)
  ·have h := hif.1 hc
   refine Zc I I I I (Z9 I I) I <| Zc I I I I (Z9 I I) I ?_
   have ⟨hg30, h⟩ := Zw h
   refine Zc I I I I (Z1s (k := .i64) (l := v14) (enc := Z3) (z := Zi) (n := v15) (full := false) I s50 I I hg30 I) I <| Zc I I I I (Z1w I f60_0 I I I) I <| Zc I I I I (Z1l I o3 I I) I <| Zc I I I I (Z9 I I) I <| Zc I I I I (Z1c (c := (decide ((v14.getD v15.toNat Zi).At < a1))) I I I I) I <| Z1 I (Z19 I I I) I <| Z7 <| Z8 ?_
   have hif := Z1h h
   refine Zq I (fun hc => ?_) (fun hc => ?_)
   ·have h := hif.1 hc
    refine Z14 <| Z8 <| Z1t <| Z5 <| Z1 I (Z9 I I) I <| Z1 I (Z1p (k := .i64) (b := 1) (c := (IntKind.i64.wrap (v15 + 1))) I I I I) I <| Z1 I (Zd I I) I <| Z7 <| Z27 ?_
    exact Zz (IH16 _ (IntKind.i64.wrap (v15 + 1)) (Nat.lt_succ_self _) h) ⟨I, I, I, I, I, I, J0⟩ ⟨I, J0⟩
   have h := hif.2 hc
   refine Z1u <| Z26 ?_
   exact Zz (J16 v15 h) ⟨I, I, I, I, I, J0⟩ ⟨I, J0⟩
  have h := hif.2 hc
  iterate 7 refine Zg I I I I I I I ?_
  refine Z1 I (Zy (v := (.bool false)) I I I) I <| Z7 <| Z8 ?_
  refine Zq (b := false) I (fun hc => ?_) (fun hc => ?_)
  ·cases hc
  refine Z1u <| Z26 ?_
  exact Zz (J16 v15 h) ⟨I, I, I, I, I, J0⟩ ⟨I, J0⟩
end Go.AM.Noti
