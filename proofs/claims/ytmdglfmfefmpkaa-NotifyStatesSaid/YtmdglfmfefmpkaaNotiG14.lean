/- What these functions compute, each with its walk: F60, F83, F59, F35. -/
import Derived.Test.YtmdglfmfefmpkaaNotiT
import Derived.Test.YtmdglfmfefmpkaaNotiG0
import Derived.Test.YtmdglfmfefmpkaaNotiG1
namespace Go.AM.Noti
open Go Go.AM Go.Proofs
set_option maxRecDepth 100000
set_option maxHeartbeats 2000000
def F60_j2 (_K : Nat) (v1 : Bool) : Option (Bool) :=
 some v1
def F60 (K : Nat) (a0 : Z13) (a1 : Str) (a2 : Z4) (a3 : Int) : Option (Bool) :=
 if (a0.Group == a1) = true then
 if (decide (a0.At ≥ a2.From)) = true then
 F60_j2 K (decide (a0.At ≤ a3))
 else
 F60_j2 K false
 else
 F60_j2 K false
theorem F60_ok (K : Nat) (a0 : Z13) (a1 : Str) (a2 : Z4) (a3 : Int) (r : Bool) (h : F60 K a0 a1 a2 a3 = some r) : ACall P 60 ⟨[(Zp a0), (.ip [(.str a1)]), (.ip (Z6 a2).cells), (.ip [(.int .i64 a3)])], [], (.bool r), [], []⟩ := by
 refine Z1v Try.func60 Try.results60 rfl Try.ntmps60 rfl rfl rfl ?_
 intro E Q hP hN hro hret
 obtain ⟨P', nt', w0, F0, p0, S0, β0, ro0⟩ := E
 simp only at hP hN
 subst hP hN
 dsimp only [argT]
 unfold F60 at h
 refine Zb <| Z5 <| Z1 I (Z2r I I I I I) I <| Z1 I (Zd (v := (.bool false)) I I) I <| Z7 <| Z8 <| Zb ?_
 refine Z21 (V := Bool) (lp := fun v => F60_j2 K v = some r) (sh := fun v => ⟨[(5, (.bool v))], []⟩) ?_ ?_
 ·intro v h
  revert h
  revert v
  intro v1 h
  try dsimp only at h ⊢
  unfold F60_j2 at h
  refine Z8 <| Z1e ?_
  have h := Option.some.inj h
  subst h
  refine (hret _ ?_).1
  exact ⟨[(.bool v1)], ⟨I, J0⟩, I, J0⟩
 intro J2
 refine Z5 <| Z1 I (Zm I f63_0 I I) I <| Z1 I (Zs I o9 I I I) I <| Z1 I (Z1l I o9 I I) I <| Z1 I (Z2z (c := (a0.Group == a1)) I I I I) I <| Z1 I (Z9 I I) I ?_
 have hif := Z1h h
 refine Z16 (fun hc => ?_) (fun hc => ?_)
 ·have h := hif.1 hc
  refine Zc I I I I (Zm I f63_2 I I) I <| Zc I I I I (Zs I o3 I I I) I <| Zc I I I I (Z1w I f40_0 I I I) I <| Zc I I I I (Z1l I o3 I I) I <| Zc I I I I (Z1c (c := (decide (a0.At ≥ a2.From))) I I I I) I <| Z1 I (Z19 I I I) I <| Z1 I (Z9 I I) I ?_
  have hif := Z1h h
  refine Z16 (fun hc => ?_) (fun hc => ?_)
  ·have h := hif.1 hc
   refine Zc I I I I (Zm I f63_2 I I) I <| Zc I I I I (Zs I o3 I I I) I <| Zc I I I I (Z1l I o3 I I) I <| Zc I I I I (Z1c (c := (decide (a0.At ≤ a3))) I I I I) I <| Z1 I (Z19 I I I) I <| Z1 I (Zd I I) I <| Z7 ?_
   exact Zz (J2 (decide (a0.At ≤ a3)) h) ⟨I, J0⟩ trivial
  have h := hif.2 hc
  iterate 4 refine Zg I I I I I I I ?_
  refine Z1 I (Zy (v := (.bool false)) I I I) I <| Z1 I (Zd (v := (.bool false)) I I) I <| Z7 ?_
  exact Zz (J2 false h) ⟨I, J0⟩ trivial
 have h := hif.2 hc
 iterate 5 refine Zg I I I I I I I ?_
 refine Z1 I (Zy (v := (.bool false)) I I I) I <| Z1 I (Z9 (v := (.bool false)) I I) I ?_
 iterate 4 refine Zg I I I I I I I ?_
 refine Z1 I (Zy (v := (.bool false)) I I I) I <| Z1 I (Zd (v := (.bool false)) I I) I <| Z7 ?_
 exact Zz (J2 false h) ⟨I, J0⟩ trivial
def F83_c3 (_K : Nat) : Option (Int) :=
 some (Int.negSucc 0)
def F83_l2 (K : Nat) (a0 : (List Z13)) (a100 : Str) (a101 : Z4) (a102 : Int) (c4 : Option (Int)) : Nat → Int → Option (Int)
 | 0, _ => none
 | k2 + 1, v1 =>
 if (decide (v1 < (a0.length : Int))) = true then
 if (0 : Int) ≤ v1 ∧ v1 < a0.length then
 (F60 K (a0.getD v1.toNat Z1q) a100 a101 a102).bind fun v8 =>
 if v8 = true then
 some v1
 else
 (F83_l2 K a0 a100 a101 a102 c4 k2) (IntKind.i64.wrap (v1 + 1))
 else none
 else
 c4
def F83 (K : Nat) (a0 : (List Z13)) (a100 : Str) (a101 : Z4) (a102 : Int) : Option (Int) :=
 F83_l2 K a0 a100 a101 a102 (F83_c3 K) K 0
theorem F83_ok (K : Nat) (a0 : (List Z13)) (a100 : Str) (a101 : Z4) (a102 : Int) (r : Int) (h : F83 K a0 a100 a101 a102 = some r) : ACall P 83 ⟨[(.sl 3 (a0.map Zp) false), (.clo 60 [(.ip [(.str a100)]), (.ip (Z6 a101).cells), (.ip [(.int .i64 a102)])])], [], (.int .i64 r), [], []⟩ := by
 refine Z1v Try.func83 Try.results83 rfl Try.ntmps83 rfl rfl rfl ?_
 intro E Q hP hN hro hret
 obtain ⟨P', nt', w0, F0, p0, S0, β0, ro0⟩ := E
 simp only at hP hN
 subst hP hN
 dsimp only [argT]
 unfold F83 at h
 refine Zb <| Z5 <| Z1 I (Zd (v := (.int .i64 0)) I I) I <| Z7 <| Z8 <| Zb <| Zb <| Z5 <| Z1 I (Z9 I I) I <| Z1 I (Z24 (l := a0) (enc := Zp) I s32 I) I <| Z1 I (Z9 (v := (.int .i64 0)) I I) I <| Z7 <| Z8 <| Z1r (st' := ⟨[(0, (.sl 3 (a0.map Zp) false)), (1, (.clo 60 [(.ip [(.str a100)]), (.ip (Z6 a101).cells), (.ip [(.int .i64 a102)])])), (7, (.int .i64 (a0.length : Int))), (8, (.int .i64 0))], []⟩) ⟨I, I, I, I, J0⟩ J0 ?_
 refine Z1o (V := Int) (X := Unit) (lp := fun k v => F83_l2 K a0 a100 a101 a102 (F83_c3 K) k v = some r) (sh := fun v => ⟨[(0, (.sl 3 (a0.map Zp) false)), (1, (.clo 60 [(.ip [(.str a100)]), (.ip (Z6 a101).cells), (.ip [(.int .i64 a102)])])), (7, (.int .i64 (a0.length : Int))), (8, (.int .i64 v))], []⟩) (x := fun v => F83_c3 K = some r) (shx := fun v => ⟨[], []⟩) (k := K) (v := 0) h ?_ ?_
 ·intro v h
  try dsimp only at h ⊢
  unfold F83_c3 at h
  refine Z8 <| Zb <| Z5 <| Z1 I (Zd (v := (.int .i64 (Int.negSucc 0))) I I) I <| Z7 <| Z8 <| Z1e ?_
  have h := Option.some.inj h
  subst h
  refine (hret _ ?_).1
  exact ⟨[(.int .i64 (Int.negSucc 0))], ⟨I, J0⟩, I, J0⟩
 intro N k2 v h IH2 J2
 revert h
 revert v
 intro v1 h
 try dsimp only at h IH2 J2 ⊢
 cases k2 with
 | zero => cases h
 | succ k2 =>
  rw [F83_l2] at h
  refine Zb <| Z5 <| Z1 I (Z1c (c := (decide (v1 < (a0.length : Int)))) I I I I) I <| Z7 <| Z8 <| Zb ?_
  have hif := Z1h h
  refine Zq I (fun hc => ?_) (fun hc => ?_)
  ·have h := hif.1 hc
   refine Z14 <| Z8 <| Zb <| Z1t <| Zb <| Z5 <| Z1 I (Z9 I I) I <| Z1 I (Zd I I) I <| Z7 <| Z8 <| Zb <| Z5 <| Z1 I (Z9 I I) I <| Z1 I (Z9 I I) I <| Z1 I (Z9 I I) I ?_
   have ⟨hg6, h⟩ := Zw h
   refine Z1 I (Z1s (k := .i64) (l := a0) (enc := Zp) (z := Z1q) (n := v1) (full := false) I s32 I I hg6 I) I <| Z1 I (Z28 I a63 I I I) I ?_
   have ⟨v8, hv8, h⟩ := Z1a h
   refine Z1 I (Z1d (ar := [(Zp (a0.getD v1.toNat Z1q))]) Try.call60 (F60_ok K (a0.getD v1.toNat Z1q) a100 a101 a102 v8 hv8) I I ⟨I, J0⟩ I) I <| Z7 <| Z8 ?_
   have hif := Z1h h
   refine Zq I (fun hc => ?_) (fun hc => ?_)
   ·have h := hif.1 hc
    refine Zb <| Z5 <| Z1 I (Z9 I I) I <| Z1 I (Zd I I) I <| Z7 <| Z8 <| Z1e <| Z18 <| Zx ?_
    refine Zx (Z18 ?_)
    refine Zx ?_
    have h := Option.some.inj h
    subst h
    refine (hret _ ?_).1
    exact ⟨[(.int .i64 v1)], ⟨I, J0⟩, I, J0⟩
   have h := hif.2 hc
   refine Z14 <| Z27 <| Z8 <| Z5 <| Z1 I (Z1p (k := .i64) (b := 1) (c := (IntKind.i64.wrap (v1 + 1))) I I I I) I <| Z1 I (Z9 I I) I <| Z7 ?_
   exact Zz (IH2 _ (IntKind.i64.wrap (v1 + 1)) (Nat.lt_succ_self _) h) ⟨I, I, I, I, J0⟩ trivial
  have h := hif.2 hc
  refine Z1u <| Z26 ?_
  exact Zz (J2 () h) J0 trivial
def F59 (K : Nat) (a0 : (List Z13)) (a100 : Str) (a101 : Z4) (a102 : Int) : Option (Bool) :=
 (F83 K a0 a100 a101 a102).bind fun v2 =>
 some (decide (v2 ≥ 0))
theorem F59_ok (K : Nat) (a0 : (List Z13)) (a100 : Str) (a101 : Z4) (a102 : Int) (r : Bool) (h : F59 K a0 a100 a101 a102 = some r) : ACall P 59 ⟨[(.sl 3 (a0.map Zp) false), (.clo 60 [(.ip [(.str a100)]), (.ip (Z6 a101).cells), (.ip [(.int .i64 a102)])])], [], (.bool r), [], []⟩ := by
 refine Z1v Try.func59 Try.results59 rfl Try.ntmps59 rfl rfl rfl ?_
 intro E Q hP hN hro hret
 obtain ⟨P', nt', w0, F0, p0, S0, β0, ro0⟩ := E
 simp only at hP hN
 subst hP hN
 dsimp only [argT]
 unfold F59 at h
 refine Zb <| Z5 <| Z1 I (Zd (v := (.bool false)) I I) I <| Z7 <| Z8 <| Zb <| Z5 <| Z1 I (Z9 I I) I <| Z1 I (Z9 I I) I ?_
 have ⟨v2, hv2, h⟩ := Z1a h
 refine Z1 I (Z1d (ar := [(.sl 3 (a0.map Zp) false), (.clo 60 [(.ip [(.str a100)]), (.ip (Z6 a101).cells), (.ip [(.int .i64 a102)])])]) Try.call83 (F83_ok K a0 a100 a101 a102 v2 hv2) I I ⟨I, I, J0⟩ I) I <| Z1 I (Z1c (b := 0) (c := (decide (v2 ≥ 0))) I I I I) I <| Z1 I (Zd I I) I <| Z7 <| Z8 <| Z1e ?_
 have h := Option.some.inj h
 subst h
 refine (hret _ ?_).1
 exact ⟨[(.bool (decide (v2 ≥ 0)))], ⟨I, J0⟩, I, J0⟩
def F35_c7 (_K : Nat) : Option (Z1j × Int) :=
 some (z_Tnotify_Status, 0)
def F35_j10 (_K : Nat) (b9 : Int → Option (Z1j × Int)) (v5 : Int) : Option (Z1j × Int) :=
 b9 (IntKind.i64.wrap (v5 + 1))
def F35_c16 (K : Nat) (a0 : Ze) (a1 : Str) (v4 : (List Z4)) (v5 : Int) (a2 : Int) (v15 : Z1j) : Option (Z1j × Int) :=
 (F59 K a0.Acks a1 (v4.getD v5.toNat Z10) a2).bind fun v19 =>
 some ((⟨v15.Active, v15.Since, v15.Steps, v19⟩ : Z1j), 0)
def F35_j22 (_K : Nat) (b20 : Int → Z1j → Option (Z1j × Int)) (v12 : Int) (v21 : Z1j) : Option (Z1j × Int) :=
 b20 (IntKind.i64.wrap (v12 + 1)) v21
def F35_j27 (K : Nat) (b20 : Int → Z1j → Option (Z1j × Int)) (v12 : Int) (v26 : Z1j) : Option (Z1j × Int) :=
 F35_j22 K b20 v12 v26
def F35_l14 (K : Nat) (a0 : Ze) (v4 : (List Z4)) (v5 : Int) (a2 : Int) (a1 : Str) (c17 : Z1j → Option (Z1j × Int)) : Nat → Int → Z1j → Option (Z1j × Int)
 | 0, _, _ => none
 | k14 + 1, v12, v13 =>
 if (decide (v12 < (a0.Policy.Steps.length : Int))) = true then
 if (0 : Int) ≤ v12 ∧ v12 < a0.Policy.Steps.length then
 if (decide ((IntKind.i64.wrap ((v4.getD v5.toNat Z10).From + (a0.Policy.Steps.getD v12.toNat Zl).After)) ≤ a2)) = true then
 (F58 K a0 a1 (v4.getD v5.toNat Z10)).bind fun v25 =>
 if (decide ((IntKind.i64.wrap ((v4.getD v5.toNat Z10).From + (a0.Policy.Steps.getD v12.toNat Zl).After)) < v25)) = true then
 F35_j27 K (F35_l14 K a0 v4 v5 a2 a1 c17 k14) v12 (⟨v13.Active, v13.Since, (IntKind.i64.wrap (v13.Steps + 1)), v13.Acked⟩ : Z1j)
 else
 F35_j27 K (F35_l14 K a0 v4 v5 a2 a1 c17 k14) v12 v13
 else
 F35_j22 K (F35_l14 K a0 v4 v5 a2 a1 c17 k14) v12 v13
 else none
 else
 c17 v13
def F35_l6 (K : Nat) (v4 : (List Z4)) (a2 : Int) (a0 : Ze) (a1 : Str) (c8 : Option (Z1j × Int)) : Nat → Int → Option (Z1j × Int)
 | 0, _ => none
 | k6 + 1, v5 =>
 if (decide (v5 < (v4.length : Int))) = true then
 if (0 : Int) ≤ v5 ∧ v5 < v4.length then
 if (decide (a2 < (v4.getD v5.toNat Z10).From)) = true then
 F35_j10 K (F35_l6 K v4 a2 a0 a1 c8 k6) v5
 else
 if (decide (a2 ≥ (v4.getD v5.toNat Z10).To)) = true then
 F35_j10 K (F35_l6 K v4 a2 a0 a1 c8 k6) v5
 else
 F35_l14 K a0 v4 v5 a2 a1 (F35_c16 K a0 a1 v4 v5 a2) K 0 (⟨true, (v4.getD v5.toNat Z10).From, 0, false⟩ : Z1j)
 else none
 else
 c8
def F35 (K : Nat) (a0 : Ze) (a1 : Str) (a2 : Int) : Option (Z1j × Int) :=
 (F51 K a0 a2).bind fun v2 =>
 if (v2 != 0) = true then
 some (z_Tnotify_Status, v2)
 else
 (F23 K a0 a1).bind fun v4 =>
 F35_l6 K v4 a2 a0 a1 (F35_c7 K) K 0
theorem F35_ok (K : Nat) (a0 : Ze) (a1 : Str) (a2 : Int) (r : Z1j × Int) (h : F35 K a0 a1 a2 = some r) : ACall P 35 ⟨[(Zf a0), (.str a1), (.int .i64 a2)], [], (.tup [(Z2f r.1), (.int .i64 r.2)]), [], []⟩ := by
 refine Z1v Try.func35 Try.results35 rfl Try.ntmps35 rfl rfl rfl ?_
 intro E Q hP hN hro hret
 obtain ⟨P', nt', w0, F0, p0, S0, β0, ro0⟩ := E
 simp only at hP hN
 subst hP hN
 dsimp only [argT]
 unfold F35 at h
 refine Zb <| Z5 <| Z1 I (Z2r I I I I I) I <| Z1 I (Z2r I I I I I) I <| Z1 I (Z2r I I I I I) I <| Z1 I (Z1x I z76 I I I) I <| Z1 I (Zd (v := (.int .i64 0)) I I) I <| Z7 <| Z8 <| Zb <| Zb <| Z5 <| Z1 I (Z1n I a34 I I I I) I <| Z1 I (Zs I o3 I I I) I ?_
 have ⟨v2, hv2, h⟩ := Z1a h
 refine Z1 I (Z1d (ar := [(Zf a0), (.int .i64 a2)]) Try.call51 (F51_ok K a0 a2 v2 hv2) I I ⟨I, I, J0⟩ I) I <| Z1 I (Zd I I) I <| Z7 <| Z8 <| Zb <| Z5 <| Z1 I (Z9 I I) I <| Z1 I (Z1c (b := 0) (c := (v2 != 0)) I I I I) I <| Z7 <| Z8 ?_
 have hif := Z1h h
 refine Zq I (fun hc => ?_) (fun hc => ?_)
 ·have h := hif.1 hc
  refine Zb <| Z5 <| Z1 I (Z23 (vs := []) I st76 J0 I) I <| Z1 I (Z9 I I) I <| Z1 I (Z1f (cs := [(.bool false), (.int .i64 0), (.int .i64 0), (.bool false)]) (vs := [(.bool false), (.int .i64 0), (.int .i64 0), (.bool false)]) (ds := [(.bool false), (.int .i64 0), (.int .i64 0), (.bool false)]) (v := (.ag [(.bool false), (.int .i64 0), (.int .i64 0), (.bool false)])) sz76 I I I I I I I I) I <| Z1 I (Zd I I) I <| Z7 <| Z8 <| Z1e <| Zx ?_
  have h := Option.some.inj h
  subst h
  refine (hret _ ?_).1
  exact ⟨[(.ag [(.bool false), (.int .i64 0), (.int .i64 0), (.bool false)]), (.int .i64 v2)], ⟨⟨6, _, I, I, .inr ⟨_, a76, I, I⟩⟩, I, J0⟩, I, J0⟩
 have h := hif.2 hc
 refine Z14 <| Z8 <| Zb <| Zb <| Z5 <| Z1 I (Z1n I a34 I I I I) I <| Z1 I (Zs I o9 I I I) I ?_
 have ⟨v4, hv4, h⟩ := Z1a h
 refine Z1 I (Z1d (ar := [(Zf a0), (.str a1)]) Try.call23 (F23_ok K a0 a1 v4 hv4) I I ⟨I, I, J0⟩ I) I <| Z1 I (Z24 (l := v4) (enc := Z6) I s45 I) I <| Z1 I (Z9 (v := (.int .i64 0)) I I) I <| Z7 <| Z8 <| Z1r (st' := ⟨[(3, (.ptr 3 0)), (4, (.ptr 4 0)), (5, (.ptr 5 0)), (6, (.ptr 6 0)), (24, (.sl 2 (v4.map Z6) false)), (25, (.int .i64 (v4.length : Int))), (26, (.int .i64 0))], [(3, (.box (Zf a0).cells)), (4, (.box [(.str a1)])), (5, (.box [(.int .i64 a2)])), (6, (.box [(.bool false), (.int .i64 0), (.int .i64 0), (.bool false)]))]⟩) ⟨I, I, I, I, I, I, I, J0⟩ ⟨I, I, I, I, J0⟩ ?_
 refine Z1o (V := Int) (X := Unit) (lp := fun k v => F35_l6 K v4 a2 a0 a1 (F35_c7 K) k v = some r) (sh := fun v => ⟨[(3, (.ptr 3 0)), (4, (.ptr 4 0)), (5, (.ptr 5 0)), (6, (.ptr 6 0)), (24, (.sl 2 (v4.map Z6) false)), (25, (.int .i64 (v4.length : Int))), (26, (.int .i64 v))], [(3, (.box (Zf a0).cells)), (4, (.box [(.str a1)])), (5, (.box [(.int .i64 a2)])), (6, (.box [(.bool false), (.int .i64 0), (.int .i64 0), (.bool false)]))]⟩) (x := fun v => F35_c7 K = some r) (shx := fun v => ⟨[(6, (.ptr 6 0))], [(6, (.box [(.bool false), (.int .i64 0), (.int .i64 0), (.bool false)]))]⟩) (k := K) (v := 0) h ?_ ?_
 ·intro v h
  try dsimp only at h ⊢
  unfold F35_c7 at h
  refine Z8 <| Zb <| Z5 <| Z1 I (Z23 (vs := []) I st76 J0 I) I <| Z1 I (Z1f (cs := [(.bool false), (.int .i64 0), (.int .i64 0), (.bool false)]) (vs := [(.bool false), (.int .i64 0), (.int .i64 0), (.bool false)]) (ds := [(.bool false), (.int .i64 0), (.int .i64 0), (.bool false)]) (v := (.ag [(.bool false), (.int .i64 0), (.int .i64 0), (.bool false)])) sz76 I I I I I I I I) I <| Z1 I (Zd (v := (.int .i64 0)) I I) I <| Z7 <| Z8 <| Z1e ?_
  have h := Option.some.inj h
  subst h
  refine (hret _ ?_).1
  exact ⟨[(.ag [(.bool false), (.int .i64 0), (.int .i64 0), (.bool false)]), (.int .i64 0)], ⟨⟨6, _, I, I, .inr ⟨_, a76, I, I⟩⟩, I, J0⟩, I, J0⟩
 intro N k6 v h IH6 J6
 revert h
 revert v
 intro v5 h
 try dsimp only at h IH6 J6 ⊢
 cases k6 with
 | zero => cases h
 | succ k6 =>
  rw [F35_l6] at h
  refine Zb <| Z5 <| Z1 I (Z1c (c := (decide (v5 < (v4.length : Int)))) I I I I) I <| Z7 <| Z8 <| Zb ?_
  have hif := Z1h h
  refine Zq I (fun hc => ?_) (fun hc => ?_)
  ·have h := hif.1 hc
   refine Z14 <| Z8 <| Zb ?_
   refine Z2m (V := Unit) (lp := fun v => F35_j10 K (F35_l6 K v4 a2 a0 a1 (F35_c7 K) k6) v5 = some r) (sh := fun v => ⟨[(3, (.ptr 3 0)), (4, (.ptr 4 0)), (5, (.ptr 5 0)), (6, (.ptr 6 0)), (24, (.sl 2 (v4.map Z6) false)), (25, (.int .i64 (v4.length : Int))), (26, (.int .i64 v5))], [(3, (.box (Zf a0).cells)), (4, (.box [(.str a1)])), (5, (.box [(.int .i64 a2)])), (6, (.box [(.bool false), (.int .i64 0), (.int .i64 0), (.bool false)]))]⟩) ?_ ?_
   ·intro v h
    try dsimp only at h ⊢
    unfold F35_j10 at h
    refine Z8 <| Z5 <| Z1 I (Z1p (k := .i64) (b := 1) (c := (IntKind.i64.wrap (v5 + 1))) I I I I) I <| Z1 I (Z9 I I) I <| Z7 ?_
    exact Zz (IH6 _ (IntKind.i64.wrap (v5 + 1)) (Nat.lt_succ_self _) h) ⟨I, I, I, I, I, I, I, J0⟩ ⟨I, I, I, I, J0⟩
   intro J10
   refine Zb <| Z5 ?_
   have ⟨hg11, h⟩ := Zw h
   refine Z1 I (Z1s (k := .i64) (l := v4) (enc := Z6) (z := Z10) (n := v5) (full := false) I s45 I I hg11 I) I <| Z1 I (Z28 I a40 I I I) I <| Z1 I (Z1x I z40 I I I) I <| Z1 I (Z1f sz40 I I I I I I I I) I <| Z7 <| Z8 <| Zb <| Zb <| Z5 <| Z1 I (Zs I o3 I I I) I <| Z1 I (Zm I f40_0 I I) I <| Z1 I (Zs I o3 I I I) I <| Z1 I (Z1c (c := (decide (a2 < (v4.getD v5.toNat Z10).From))) I I I I) I <| Z1 I (Z9 I I) I ?_
   have hif := Z1h h
   refine Z16 (fun hc => ?_) (fun hc => ?_)
   ·have h := hif.1 hc
    iterate 4 refine Zg I I I I I I I ?_
    refine Z1 I (Z19 (v := (.bool true)) I I I) I <| Z7 <| Z8 ?_
    refine Zq (b := true) I (fun hc => ?_) (fun hc => ?_)
    rotate_left
    ·cases hc
    refine Z1u <| Z26 <| At.out ?_
    exact Zz (J10 () h) ⟨I, I, I, I, I, I, I, J0⟩ ⟨I, I, I, I, J0⟩
   have h := hif.2 hc
   refine Zc I I I I (Zs I o3 I I I) I <| Zc I I I I (Zm I f40_1 I I) I <| Zc I I I I (Zs I o3 I I I) I <| Zc I I I I (Z1c (c := (decide (a2 ≥ (v4.getD v5.toNat Z10).To))) I I I I) I <| Z1 I (Zy I I I) I <| Z7 <| Z8 ?_
   have hif := Z1h h
   refine Zq I (fun hc => ?_) (fun hc => ?_)
   ·have h := hif.1 hc
    refine Z1u <| Z26 <| At.out ?_
    exact Zz (J10 () h) ⟨I, I, I, I, I, I, I, J0⟩ ⟨I, I, I, I, J0⟩
   have h := hif.2 hc
   refine Z14 <| Z8 <| Zb <| Z5 <| Z1 I (Zm I f40_0 I I) I <| Z1 I (Zs I o3 I I I) I <| Z1 I (Z23 (vs := [(0, (.bool true)), (1, (.int .i64 (v4.getD v5.toNat Z10).From))]) I st76 ⟨I, I, I, I, J0⟩ I) I <| Z1 I (Z1x I z76 I I I) I <| Z1 I (Z1f sz76 I I I I I I I I) I <| Z7 <| Z8 <| Zb <| Zb <| Z5 <| Z1 I (Zm I f34_0 I I) I <| Z1 I (Zm I f29_2 I I) I <| Z1 I (Zs I o27 I I I) I <| Z1 I (Z24 (l := a0.Policy.Steps) (enc := Zj) I s27 I) I <| Z1 I (Z9 (v := (.int .i64 0)) I I) I <| Z7 <| Z8 <| Z1r (st' := ⟨[(3, (.ptr 3 0)), (4, (.ptr 4 0)), (5, (.ptr 5 0)), (6, (.ptr 6 0)), (10, (.ptr 10 0)), (11, (.ptr 11 0)), (45, (.sl 2 (a0.Policy.Steps.map Zj) false)), (46, (.int .i64 (a0.Policy.Steps.length : Int))), (47, (.int .i64 0))], [(3, (.box (Zf a0).cells)), (4, (.box [(.str a1)])), (5, (.box [(.int .i64 a2)])), (6, (.box [(.bool false), (.int .i64 0), (.int .i64 0), (.bool false)])), (10, (.box (Z6 (v4.getD v5.toNat Z10)).cells)), (11, (.box (Z2f (⟨true, (v4.getD v5.toNat Z10).From, 0, false⟩ : Z1j)).cells))]⟩) ⟨I, I, I, I, I, I, I, I, I, J0⟩ ⟨I, I, I, I, I, I, J0⟩ ?_
   refine Z1o (V := Int × Z1j) (X := Z1j) (lp := fun k v => F35_l14 K a0 v4 v5 a2 a1 (F35_c16 K a0 a1 v4 v5 a2) k v.1 v.2 = some r) (sh := fun v => ⟨[(3, (.ptr 3 0)), (4, (.ptr 4 0)), (5, (.ptr 5 0)), (6, (.ptr 6 0)), (10, (.ptr 10 0)), (11, (.ptr 11 0)), (45, (.sl 2 (a0.Policy.Steps.map Zj) false)), (46, (.int .i64 (a0.Policy.Steps.length : Int))), (47, (.int .i64 v.1))], [(3, (.box (Zf a0).cells)), (4, (.box [(.str a1)])), (5, (.box [(.int .i64 a2)])), (6, (.box [(.bool false), (.int .i64 0), (.int .i64 0), (.bool false)])), (10, (.box (Z6 (v4.getD v5.toNat Z10)).cells)), (11, (.box (Z2f v.2).cells))]⟩) (x := fun v => F35_c16 K a0 a1 v4 v5 a2 v = some r) (shx := fun v => ⟨[(3, (.ptr 3 0)), (4, (.ptr 4 0)), (5, (.ptr 5 0)), (6, (.ptr 6 0)), (10, (.ptr 10 0)), (11, (.ptr 11 0))], [(3, (.box (Zf a0).cells)), (4, (.box [(.str a1)])), (5, (.box [(.int .i64 a2)])), (6, (.box [(.bool false), (.int .i64 0), (.int .i64 0), (.bool false)])), (10, (.box (Z6 (v4.getD v5.toNat Z10)).cells)), (11, (.box (Z2f v).cells))]⟩) (k := K) (v := (0, (⟨true, (v4.getD v5.toNat Z10).From, 0, false⟩ : Z1j))) h ?_ ?_
   ·intro v h
    revert h
    revert v
    intro v15 h
    try dsimp only at h ⊢
    unfold F35_c16 at h
    refine Z8 <| Zb <| Z5 <| Z1 I (Zm I f34_3 I I) I <| Z1 I (Zs I o32 I I I) I <| Z1 I (stx_makeFunc (vs := [(.ptr 4 0), (.ptr 10 0), (.ptr 5 0)]) I ⟨I, I, I, J0⟩) I ?_
    have ⟨v19, hv19, h⟩ := Z1a h
    refine Z1 I (st_callB (rd := [(4, (.box [(.str a1)])), (10, (.box (Z6 (v4.getD v5.toNat Z10)).cells)), (5, (.box [(.int .i64 a2)]))]) (ar := [(.sl 3 (a0.Acks.map Zp) false), (.clo 60 [(.ptr 4 0), (.ptr 10 0), (.ptr 5 0)])]) Try.call59 (F59_ok K a0.Acks a1 (v4.getD v5.toNat Z10) a2 v19 hv19) I I ⟨I, I, J0⟩ (subS_mem ⟨I, I, I, J0⟩) I I I) I <| Z1 I (Zm I f76_3 I I) I <| Z1 I (Z1f sz4 I I I I I I I I) I <| Z7 <| Z8 <| Zb <| Z5 <| Z1 I (Z1n I a76 I I I I) I <| Z1 I (Z1f sz76 I I I I I I I I) I <| Z1 I (Zd (v := (.int .i64 0)) I I) I <| Z7 <| Z8 <| Z1e <| Z18 <| Zx ?_
    refine Zx (Z18 ?_)
    refine Zx ?_
    have h := Option.some.inj h
    subst h
    refine (hret _ ?_).1
    exact ⟨[(.ag [(.bool v15.Active), (.int .i64 v15.Since), (.int .i64 v15.Steps), (.bool v19)]), (.int .i64 0)], ⟨⟨6, _, I, I, .inr ⟨_, a76, I, I⟩⟩, I, J0⟩, I, J0⟩
   intro N k14 v h IH14 J14
   obtain ⟨v12, v13⟩ := v
   try dsimp only at h IH14 J14 ⊢
   cases k14 with
   | zero => cases h
   | succ k14 =>
    rw [F35_l14] at h
    refine Zb <| Z5 <| Z1 I (Z1c (c := (decide (v12 < (a0.Policy.Steps.length : Int)))) I I I I) I <| Z7 <| Z8 <| Zb ?_
    have hif := Z1h h
    refine Zq I (fun hc => ?_) (fun hc => ?_)
    ·have h := hif.1 hc
     refine Z14 <| Z8 <| Zb ?_
     refine Z2m (V := Z1j) (lp := fun v => F35_j22 K (F35_l14 K a0 v4 v5 a2 a1 (F35_c16 K a0 a1 v4 v5 a2) k14) v12 v = some r) (sh := fun v => ⟨[(3, (.ptr 3 0)), (4, (.ptr 4 0)), (5, (.ptr 5 0)), (6, (.ptr 6 0)), (10, (.ptr 10 0)), (11, (.ptr 11 0)), (45, (.sl 2 (a0.Policy.Steps.map Zj) false)), (46, (.int .i64 (a0.Policy.Steps.length : Int))), (47, (.int .i64 v12))], [(3, (.box (Zf a0).cells)), (4, (.box [(.str a1)])), (5, (.box [(.int .i64 a2)])), (6, (.box [(.bool false), (.int .i64 0), (.int .i64 0), (.bool false)])), (10, (.box (Z6 (v4.getD v5.toNat Z10)).cells)), (11, (.box (Z2f v).cells))]⟩) ?_ ?_
     ·intro v h
      revert h
      revert v
      intro v21 h
      try dsimp only at h ⊢
      unfold F35_j22 at h
      refine Z8 <| Z5 <| Z1 I (Z1p (k := .i64) (b := 1) (c := (IntKind.i64.wrap (v12 + 1))) I I I I) I <| Z1 I (Z9 I I) I <| Z7 ?_
      exact Zz (IH14 _ ((IntKind.i64.wrap (v12 + 1)), v21) (Nat.lt_succ_self _) h) ⟨I, I, I, I, I, I, I, I, I, J0⟩ ⟨I, I, I, I, I, I, J0⟩
     intro J22
     refine Zb <| Z5 ?_
     have ⟨hg23, h⟩ := Zw h
     refine Z1 I (Z1s (k := .i64) (l := a0.Policy.Steps) (enc := Zj) (z := Zl) (n := v12) (full := false) I s27 I I hg23 I) I <| Z1 I (Z28 I a71 I I I) I <| Z1 I (Z1x I z71 I I I) I <| Z1 I (Z1f sz71 I I I I I I I I) I <| Z7 <| Z8 <| Zb <| Z5 <| Z1 I (Zm I f40_0 I I) I <| Z1 I (Zs I o3 I I I) I <| Z1 I (Zm I f71_0 I I) I <| Z1 I (Zs I o3 I I I) I <| Z1 I (Z1p (k := .i64) (c := (IntKind.i64.wrap ((v4.getD v5.toNat Z10).From + (a0.Policy.Steps.getD v12.toNat Zl).After))) I I I I) I <| Z1 I (Zd I I) I <| Z7 <| Z8 <| Zb <| Z5 <| Z1 I (Z9 I I) I <| Z1 I (Zs I o3 I I I) I <| Z1 I (Z1c (c := (decide ((IntKind.i64.wrap ((v4.getD v5.toNat Z10).From + (a0.Policy.Steps.getD v12.toNat Zl).After)) ≤ a2))) I I I I) I <| Z1 I (Z9 I I) I ?_
     have hif := Z1h h
     refine Z16 (fun hc => ?_) (fun hc => ?_)
     ·have h := hif.1 hc
      refine Zc I I I I (Z9 I I) I <| Zc I I I I (Z1n I a34 I I I I) I <| Zc I I I I (Zs I o9 I I I) I <| Zc I I I I (Z1n I a40 I I I I) I ?_
      have ⟨v25, hv25, h⟩ := Z1a h
      refine Zc I I I I (Z1d (ar := [(Zf a0), (.str a1), (Z6 (v4.getD v5.toNat Z10))]) Try.call58 (F58_ok K a0 a1 (v4.getD v5.toNat Z10) v25 hv25) I I ⟨I, I, I, J0⟩ I) I <| Zc I I I I (Z1c (c := (decide ((IntKind.i64.wrap ((v4.getD v5.toNat Z10).From + (a0.Policy.Steps.getD v12.toNat Zl).After)) < v25))) I I I I) I <| Z1 I (Z19 I I I) I <| Z7 <| Z8 ?_
      refine Z21 (V := Z1j) (lp := fun v => F35_j27 K (F35_l14 K a0 v4 v5 a2 a1 (F35_c16 K a0 a1 v4 v5 a2) k14) v12 v = some r) (sh := fun v => ⟨[(3, (.ptr 3 0)), (4, (.ptr 4 0)), (5, (.ptr 5 0)), (6, (.ptr 6 0)), (10, (.ptr 10 0)), (11, (.ptr 11 0)), (45, (.sl 2 (a0.Policy.Steps.map Zj) false)), (46, (.int .i64 (a0.Policy.Steps.length : Int))), (47, (.int .i64 v12))], [(3, (.box (Zf a0).cells)), (4, (.box [(.str a1)])), (5, (.box [(.int .i64 a2)])), (6, (.box [(.bool false), (.int .i64 0), (.int .i64 0), (.bool false)])), (10, (.box (Z6 (v4.getD v5.toNat Z10)).cells)), (11, (.box (Z2f v).cells))]⟩) ?_ ?_
      ·intro v h
       revert h
       revert v
       intro v26 h
       try dsimp only at h ⊢
       unfold F35_j27 at h
       refine Z27 ?_
       exact Zz (J22 v26 h) ⟨I, I, I, I, I, I, I, I, I, J0⟩ ⟨I, I, I, I, I, I, J0⟩
      intro J27
      have hif := Z1h h
      refine Zq I (fun hc => ?_) (fun hc => ?_)
      ·have h := hif.1 hc
       refine Z5 <| Z1 I (Zm I f76_2 I I) I <| Z1 I (Zs I o3 I I I) I <| Z1 I (Z1p (k := .i64) (b := 1) (c := (IntKind.i64.wrap (v13.Steps + 1))) I I I I) I <| Z1 I (Zm I f76_2 I I) I <| Z1 I (Z1f sz3 I I I I I I I I) I <| Z7 ?_
       exact Zz (J27 (⟨v13.Active, v13.Since, (IntKind.i64.wrap (v13.Steps + 1)), v13.Acked⟩ : Z1j) h) ⟨I, I, I, I, I, I, I, I, I, J0⟩ ⟨I, I, I, I, I, I, J0⟩
      have h := hif.2 hc
      refine Z14 ?_
      exact Zz (J27 v13 h) ⟨I, I, I, I, I, I, I, I, I, J0⟩ ⟨I, I, I, I, I, I, J0⟩
     have h := hif.2 hc
     iterate 6 refine Zg I I I I I I I ?_
     refine Z1 I (Zy (v := (.bool false)) I I I) I <| Z7 <| Z8 ?_
     refine Zq (b := false) I (fun hc => ?_) (fun hc => ?_)
     ·cases hc
     refine Z14 <| Z27 ?_
     exact Zz (J22 v13 h) ⟨I, I, I, I, I, I, I, I, I, J0⟩ ⟨I, I, I, I, I, I, J0⟩
    have h := hif.2 hc
    refine Z1u <| Z26 ?_
    exact Zz (J14 v13 h) ⟨I, I, I, I, I, I, J0⟩ ⟨I, I, I, I, I, I, J0⟩
  have h := hif.2 hc
  refine Z1u <| Z26 ?_
  exact Zz (J6 () h) ⟨I, J0⟩ ⟨I, J0⟩
end Go.AM.Noti
