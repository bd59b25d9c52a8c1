/- What these functions compute, each with its walk: F38, F12. -/
import Derived.Test.YtmdglfmfefmpkaaNotiT
import Derived.Test.YtmdglfmfefmpkaaNotiG0
import Derived.Test.YtmdglfmfefmpkaaNotiG2
import Derived.Test.YtmdglfmfefmpkaaNotiG9
import Derived.Test.YtmdglfmfefmpkaaNotiG13
import Derived.Test.YtmdglfmfefmpkaaNotiG14
import Derived.Test.YtmdglfmfefmpkaaNotiG24
namespace Go.AM.Noti
open Go Go.AM Go.Proofs
set_option maxRecDepth 100000
set_option maxHeartbeats 2000000
def F38_c19 (_K : Nat) : Option (Int) :=
 some 0
def F38_l18 (K : Nat) (a0 : Ze) (c20 : Option (Int)) : Nat → Int → Option (Int)
 | 0, _ => none
 | k18 + 1, v17 =>
 if (decide (v17 < (a0.Acks.length : Int))) = true then
 if (0 : Int) ≤ v17 ∧ v17 < a0.Acks.length then
 (F64 K (a0.Acks.getD v17.toNat Z1q).Group).bind fun v24 =>
 if (!v24) = true then
 some 11
 else
 (F62 K (a0.Acks.getD v17.toNat Z1q).Who).bind fun v26 =>
 if (!v26) = true then
 some 11
 else
 (F28 K (a0.Acks.getD v17.toNat Z1q).At).bind fun v28 =>
 if (!v28) = true then
 some 32
 else
 (F38_l18 K a0 c20 k18) (IntKind.i64.wrap (v17 + 1))
 else none
 else
 c20
def F38_c15 (K : Nat) (a0 : Ze) : Option (Int) :=
 F38_l18 K a0 (F38_c19 K) K 0
def F38_j31 (_K : Nat) (b29 : Int → Option (Int)) (v13 : Int) : Option (Int) :=
 b29 (IntKind.i64.wrap (v13 + 1))
def F38_l14 (K : Nat) (a0 : Ze) (c16 : Option (Int)) : Nat → Int → Option (Int)
 | 0, _ => none
 | k14 + 1, v13 =>
 if (decide (v13 < (a0.Silences.length : Int))) = true then
 if (0 : Int) ≤ v13 ∧ v13 < a0.Silences.length then
 if (decide ((a0.Silences.getD v13.toNat Zr).Id < 1)) = true then
 some 2
 else
 if (decide ((a0.Silences.getD v13.toNat Zr).Id > 1048576)) = true then
 some 2
 else
 if (decide (v13 > 0)) = true then
 if (0 : Int) ≤ (IntKind.i64.wrap (v13 - 1)) ∧ (IntKind.i64.wrap (v13 - 1)) < a0.Silences.length then
 if (decide ((a0.Silences.getD v13.toNat Zr).Id ≤ (a0.Silences.getD (IntKind.i64.wrap (v13 - 1)).toNat Zr).Id)) = true then
 some 8
 else
 (F64 K (a0.Silences.getD v13.toNat Zr).Rule).bind fun v34 =>
 if (!v34) = true then
 some 11
 else
 (F64 K (a0.Silences.getD v13.toNat Zr).Service).bind fun v36 =>
 if (!v36) = true then
 some 11
 else
 (F63 K (a0.Silences.getD v13.toNat Zr).When).bind fun v38 =>
 if (!v38) = true then
 some 32
 else
 F38_j31 K (F38_l14 K a0 c16 k14) v13
 else none
 else
 (F64 K (a0.Silences.getD v13.toNat Zr).Rule).bind fun v40 =>
 if (!v40) = true then
 some 11
 else
 (F64 K (a0.Silences.getD v13.toNat Zr).Service).bind fun v42 =>
 if (!v42) = true then
 some 11
 else
 (F63 K (a0.Silences.getD v13.toNat Zr).When).bind fun v44 =>
 if (!v44) = true then
 some 32
 else
 F38_j31 K (F38_l14 K a0 c16 k14) v13
 else none
 else
 c16
def F38_c11 (K : Nat) (a0 : Ze) : Option (Int) :=
 F38_l14 K a0 (F38_c15 K a0) K 0
def F38_l10 (K : Nat) (a0 : Ze) (c12 : Option (Int)) : Nat → Int → Option (Int)
 | 0, _ => none
 | k10 + 1, v9 =>
 if (decide (v9 < (a0.Firings.length : Int))) = true then
 if (0 : Int) ≤ v9 ∧ v9 < a0.Firings.length then
 (F62 K (a0.Firings.getD v9.toNat Z12).Rule).bind fun v48 =>
 if (!v48) = true then
 some 11
 else
 (F62 K (a0.Firings.getD v9.toNat Z12).Service).bind fun v50 =>
 if (!v50) = true then
 some 11
 else
 (F63 K (a0.Firings.getD v9.toNat Z12).When).bind fun v52 =>
 if (!v52) = true then
 some 32
 else
 (F38_l10 K a0 c12 k10) (IntKind.i64.wrap (v9 + 1))
 else none
 else
 c12
def F38_c7 (K : Nat) (a0 : Ze) : Option (Int) :=
 F38_l10 K a0 (F38_c11 K a0) K 0
def F38_j57 (_K : Nat) (b53 : Int → Option (Int)) (v5 : Int) : Option (Int) :=
 b53 (IntKind.i64.wrap (v5 + 1))
def F38_l6 (K : Nat) (a0 : Ze) (c8 : Option (Int)) : Nat → Int → Option (Int)
 | 0, _ => none
 | k6 + 1, v5 =>
 if (decide (v5 < (a0.Policy.Steps.length : Int))) = true then
 if (0 : Int) ≤ v5 ∧ v5 < a0.Policy.Steps.length then
 (F28 K (a0.Policy.Steps.getD v5.toNat Zl).After).bind fun v56 =>
 if (!v56) = true then
 some 2
 else
 if (decide (v5 > 0)) = true then
 if (0 : Int) ≤ v5 ∧ v5 < a0.Policy.Steps.length then
 if (0 : Int) ≤ (IntKind.i64.wrap (v5 - 1)) ∧ (IntKind.i64.wrap (v5 - 1)) < a0.Policy.Steps.length then
 if (decide ((a0.Policy.Steps.getD v5.toNat Zl).After ≤ (a0.Policy.Steps.getD (IntKind.i64.wrap (v5 - 1)).toNat Zl).After)) = true then
 some 8
 else
 if (0 : Int) ≤ v5 ∧ v5 < a0.Policy.Steps.length then
 (F62 K (a0.Policy.Steps.getD v5.toNat Zl).Who).bind fun v62 =>
 if (!v62) = true then
 some 11
 else
 F38_j57 K (F38_l6 K a0 c8 k6) v5
 else none
 else none
 else none
 else
 if (0 : Int) ≤ v5 ∧ v5 < a0.Policy.Steps.length then
 (F62 K (a0.Policy.Steps.getD v5.toNat Zl).Who).bind fun v65 =>
 if (!v65) = true then
 some 11
 else
 F38_j57 K (F38_l6 K a0 c8 k6) v5
 else none
 else none
 else
 c8
def F38_j4 (K : Nat) (a0 : Ze) (v3 : Bool) : Option (Int) :=
 if v3 = true then
 some 6
 else
 F38_l6 K a0 (F38_c7 K a0) K 0
def F38 (K : Nat) (a0 : Ze) : Option (Int) :=
 if (decide (a0.Policy.By < 0)) = true then
 some 12
 else
 if (decide (a0.Policy.By > 2)) = true then
 some 12
 else
 (F28 K a0.Policy.Repeat).bind fun v2 =>
 if (!v2) = true then
 some 2
 else
 if ((a0.Policy.Steps.length : Int) == 0) = true then
 some 7
 else
 if (decide ((a0.Policy.Steps.length : Int) > 8)) = true then
 F38_j4 K a0 true
 else
 if (decide ((a0.Firings.length : Int) > 256)) = true then
 F38_j4 K a0 true
 else
 if (decide ((a0.Silences.length : Int) > 256)) = true then
 F38_j4 K a0 true
 else
 F38_j4 K a0 (decide ((a0.Acks.length : Int) > 256))
theorem F38_ok (K : Nat) (a0 : Ze) (r : Int) (h : F38 K a0 = some r) : ACall P 38 ⟨[(Zf a0)], [], (.int .i64 r), [], []⟩ := by
 refine Z1v Try.func38 Try.results38 rfl Try.ntmps38 rfl rfl rfl ?_
 intro E Q hP hN hro hret
 obtain ⟨P', nt', w0, F0, p0, S0, β0, ro0⟩ := E
 simp only at hP hN
 subst hP hN
 dsimp only [argT]
 unfold F38 at h
 refine Zb <| Z5 <| Z1 I (Z2r I I I I I) I <| Z1 I (Zd (v := (.int .i64 0)) I I) I <| Z7 <| Z8 <| Zb <| Z5 <| Z1 I (Zm I f34_0 I I) I <| Z1 I (Z1n I a29 I I I I) I <| Z1 I (Z1x I z29 I I I) I <| Z1 I (Z1f sz29 I I I I I I I I) I <| Z7 <| Z8 <| Zb <| Z1t <| Zb <| Z5 <| Z1 I (Zm I f29_0 I I) I <| Z1 I (Zs I o3 I I I) I <| Z1 I (Z1c (b := 0) (c := (decide (a0.Policy.By < 0))) I I I I) I <| Z1 I (Z9 I I) I ?_
 have hif := Z1h h
 refine Z16 (fun hc => ?_) (fun hc => ?_)
 ·have h := hif.1 hc
  refine Zg I I I I I I I <| Zg I I I I I I I <| Zg I I I I I I I <| Z1 I (Z19 (v := (.bool true)) I I I) I <| Z1 I (Zd (v := (.bool true)) I I) I <| Z7 <| Z8 ?_
  refine Zq (b := true) I (fun hc => ?_) (fun hc => ?_)
  rotate_left
  ·cases hc
  refine Zb <| Z5 <| Z1 I (Zd (v := (.int .i64 12)) I I) I <| Z7 <| Z8 <| Z1e <| Z18 <| Zx ?_
  have h := Option.some.inj h
  subst h
  refine (hret _ ?_).1
  exact ⟨[(.int .i64 12)], ⟨I, J0⟩, I, J0⟩
 have h := hif.2 hc
 refine Zc I I I I (Zm I f29_0 I I) I <| Zc I I I I (Zs I o3 I I I) I <| Zc I I I I (Z1c (b := 2) (c := (decide (a0.Policy.By > 2))) I I I I) I <| Z1 I (Zy I I I) I <| Z1 I (Zd I I) I <| Z7 <| Z8 ?_
 have hif := Z1h h
 refine Zq I (fun hc => ?_) (fun hc => ?_)
 ·have h := hif.1 hc
  refine Zb <| Z5 <| Z1 I (Zd (v := (.int .i64 12)) I I) I <| Z7 <| Z8 <| Z1e <| Z18 <| Zx ?_
  have h := Option.some.inj h
  subst h
  refine (hret _ ?_).1
  exact ⟨[(.int .i64 12)], ⟨I, J0⟩, I, J0⟩
 have h := hif.2 hc
 refine Zb <| Z5 <| Z1 I (Zm I f29_1 I I) I <| Z1 I (Zs I o3 I I I) I ?_
 have ⟨v2, hv2, h⟩ := Z1a h
 refine Z1 I (Z1d (ar := [(.int .i64 a0.Policy.Repeat)]) Try.call28 (F28_ok K a0.Policy.Repeat v2 hv2) I I ⟨I, J0⟩ I) I <| Z1 I (Z2c I I) I <| Z1 I (Zd I I) I <| Z7 <| Z8 ?_
 have hif := Z1h h
 refine Zq I (fun hc => ?_) (fun hc => ?_)
 ·have h := hif.1 hc
  refine Zb <| Z5 <| Z1 I (Zd (v := (.int .i64 2)) I I) I <| Z7 <| Z8 <| Z1e <| Z18 <| Zx ?_
  have h := Option.some.inj h
  subst h
  refine (hret _ ?_).1
  exact ⟨[(.int .i64 2)], ⟨I, J0⟩, I, J0⟩
 have h := hif.2 hc
 refine Zb <| Z5 <| Z1 I (Zm I f29_2 I I) I <| Z1 I (Zs I o27 I I I) I <| Z1 I (Z24 (l := a0.Policy.Steps) (enc := Zj) I s27 I) I <| Z1 I (Z1c (b := 0) (c := ((a0.Policy.Steps.length : Int) == 0)) I I I I) I <| Z1 I (Zd I I) I <| Z7 <| Z8 ?_
 have hif := Z1h h
 refine Zq I (fun hc => ?_) (fun hc => ?_)
 ·have h := hif.1 hc
  refine Zb <| Z5 <| Z1 I (Zd (v := (.int .i64 7)) I I) I <| Z7 <| Z8 <| Z1e <| Z18 <| Zx ?_
  have h := Option.some.inj h
  subst h
  refine (hret _ ?_).1
  exact ⟨[(.int .i64 7)], ⟨I, J0⟩, I, J0⟩
 have h := hif.2 hc
 refine Zb ?_
 refine Z21 (V := Bool) (lp := fun v => F38_j4 K a0 v = some r) (sh := fun v => ⟨[(1, (.ptr 1 0)), (3, (.ptr 3 0)), (32, (.bool v))], [(1, (.box (Zf a0).cells)), (3, (.box (Z2i a0.Policy).cells))]⟩) ?_ ?_
 ·intro v h
  revert h
  revert v
  intro v3 h
  try dsimp only at h ⊢
  unfold F38_j4 at h
  refine Z8 ?_
  have hif := Z1h h
  refine Zq I (fun hc => ?_) (fun hc => ?_)
  ·have h := hif.1 hc
   refine Zb <| Z5 <| Z1 I (Zd (v := (.int .i64 6)) I I) I <| Z7 <| Z8 <| Z1e <| Z18 <| Zx ?_
   have h := Option.some.inj h
   subst h
   refine (hret _ ?_).1
   exact ⟨[(.int .i64 6)], ⟨I, J0⟩, I, J0⟩
  have h := hif.2 hc
  refine Z14 <| Z27 <| Z8 <| Zb <| Zb <| Z5 <| Z1 I (Zd (v := (.int .i64 0)) I I) I <| Z7 <| Z8 <| Z1r (st' := ⟨[(1, (.ptr 1 0)), (3, (.ptr 3 0)), (4, (.int .i64 0))], [(1, (.box (Zf a0).cells)), (3, (.box (Z2i a0.Policy).cells))]⟩) ⟨I, I, I, J0⟩ ⟨I, I, J0⟩ ?_
  refine Z1o (V := Int) (X := Unit) (lp := fun k v => F38_l6 K a0 (F38_c7 K a0) k v = some r) (sh := fun v => ⟨[(1, (.ptr 1 0)), (3, (.ptr 3 0)), (4, (.int .i64 v))], [(1, (.box (Zf a0).cells)), (3, (.box (Z2i a0.Policy).cells))]⟩) (x := fun v => F38_c7 K a0 = some r) (shx := fun v => ⟨[(1, (.ptr 1 0))], [(1, (.box (Zf a0).cells))]⟩) (k := K) (v := 0) h ?_ ?_
  ·intro v h
   try dsimp only at h ⊢
   unfold F38_c7 at h
   refine Z8 <| Zb <| Zb <| Z5 <| Z1 I (Zd (v := (.int .i64 0)) I I) I <| Z7 <| Z8 <| Z1r (st' := ⟨[(1, (.ptr 1 0)), (5, (.int .i64 0))], [(1, (.box (Zf a0).cells))]⟩) ⟨I, I, J0⟩ ⟨I, J0⟩ ?_
   refine Z1o (V := Int) (X := Unit) (lp := fun k v => F38_l10 K a0 (F38_c11 K a0) k v = some r) (sh := fun v => ⟨[(1, (.ptr 1 0)), (5, (.int .i64 v))], [(1, (.box (Zf a0).cells))]⟩) (x := fun v => F38_c11 K a0 = some r) (shx := fun v => ⟨[(1, (.ptr 1 0))], [(1, (.box (Zf a0).cells))]⟩) (k := K) (v := 0) h ?_ ?_
   ·intro v h
    try dsimp only at h ⊢
    unfold F38_c11 at h
    refine Z8 <| Zb <| Zb <| Z5 <| Z1 I (Zd (v := (.int .i64 0)) I I) I <| Z7 <| Z8 <| Z1r (st' := ⟨[(1, (.ptr 1 0)), (7, (.int .i64 0))], [(1, (.box (Zf a0).cells))]⟩) ⟨I, I, J0⟩ ⟨I, J0⟩ ?_
    refine Z1o (V := Int) (X := Unit) (lp := fun k v => F38_l14 K a0 (F38_c15 K a0) k v = some r) (sh := fun v => ⟨[(1, (.ptr 1 0)), (7, (.int .i64 v))], [(1, (.box (Zf a0).cells))]⟩) (x := fun v => F38_c15 K a0 = some r) (shx := fun v => ⟨[(1, (.ptr 1 0))], [(1, (.box (Zf a0).cells))]⟩) (k := K) (v := 0) h ?_ ?_
    ·intro v h
     try dsimp only at h ⊢
     unfold F38_c15 at h
     refine Z8 <| Zb <| Zb <| Z5 <| Z1 I (Zd (v := (.int .i64 0)) I I) I <| Z7 <| Z8 <| Z1r (st' := ⟨[(1, (.ptr 1 0)), (9, (.int .i64 0))], [(1, (.box (Zf a0).cells))]⟩) ⟨I, I, J0⟩ ⟨I, J0⟩ ?_
     refine Z1o (V := Int) (X := Unit) (lp := fun k v => F38_l18 K a0 (F38_c19 K) k v = some r) (sh := fun v => ⟨[(1, (.ptr 1 0)), (9, (.int .i64 v))], [(1, (.box (Zf a0).cells))]⟩) (x := fun v => F38_c19 K = some r) (shx := fun v => ⟨[], []⟩) (k := K) (v := 0) h ?_ ?_
     ·intro v h
      try dsimp only at h ⊢
      unfold F38_c19 at h
      refine Z8 <| Zb <| Z5 <| Z1 I (Zd (v := (.int .i64 0)) I I) I <| Z7 <| Z8 <| Z1e ?_
      have h := Option.some.inj h
      subst h
      refine (hret _ ?_).1
      exact ⟨[(.int .i64 0)], ⟨I, J0⟩, I, J0⟩
     intro N k18 v h IH18 J18
     revert h
     revert v
     intro v17 h
     try dsimp only at h IH18 J18 ⊢
     cases k18 with
     | zero => cases h
     | succ k18 =>
      rw [F38_l18] at h
      refine Zb <| Zb <| Z5 <| Z1 I (Z9 I I) I <| Z1 I (Zm I f34_3 I I) I <| Z1 I (Zs I o32 I I I) I <| Z1 I (Z24 (l := a0.Acks) (enc := Zp) I s32 I) I <| Z1 I (Z1c (c := (decide (v17 < (a0.Acks.length : Int)))) I I I I) I <| Z7 <| Z8 ?_
      have hif := Z1h h
      refine Zq I (fun hc => ?_) (fun hc => ?_)
      ·have h := hif.1 hc
       refine Z14 <| Z8 <| Zb <| Z1t <| Zb <| Z5 <| Z1 I (Zm I f34_3 I I) I <| Z1 I (Zs I o32 I I I) I <| Z1 I (Z9 I I) I ?_
       have ⟨hg22, h⟩ := Zw h
       refine Z1 I (Z1s (k := .i64) (l := a0.Acks) (enc := Zp) (z := Z1q) (n := v17) (full := false) I s32 I I hg22 I) I <| Z1 I (Z28 I a63 I I I) I <| Z1 I (Z1x I z63 I I I) I <| Z1 I (Z1f sz63 I I I I I I I I) I <| Z7 <| Z8 <| Z1t <| Zb <| Z5 <| Z1 I (Zm I f63_0 I I) I <| Z1 I (Zs I o9 I I I) I ?_
       have ⟨v24, hv24, h⟩ := Z1a h
       refine Z1 I (Z1d (ar := [(.str (a0.Acks.getD v17.toNat Z1q).Group)]) Try.call64 (F64_ok K (a0.Acks.getD v17.toNat Z1q).Group v24 hv24) I I ⟨I, J0⟩ I) I <| Z1 I (Z2c I I) I <| Z1 I (Z9 I I) I ?_
       have hif := Z1h h
       refine Z16 (fun hc => ?_) (fun hc => ?_)
       ·have h := hif.1 hc
        iterate 4 refine Zg I I I I I I I ?_
        refine Z1 I (Z19 (v := (.bool true)) I I I) I <| Z1 I (Zd (v := (.bool true)) I I) I <| Z7 <| Z8 ?_
        refine Zq (b := true) I (fun hc => ?_) (fun hc => ?_)
        rotate_left
        ·cases hc
        refine Zb <| Z5 <| Z1 I (Zd (v := (.int .i64 11)) I I) I <| Z7 <| Z8 <| Z1e <| Z18 <| Z18 <| Zx ?_
        refine Zx (Z18 ?_)
        refine Zx ?_
        have h := Option.some.inj h
        subst h
        refine (hret _ ?_).1
        exact ⟨[(.int .i64 11)], ⟨I, J0⟩, I, J0⟩
       have h := hif.2 hc
       refine Zc I I I I (Zm I f63_1 I I) I <| Zc I I I I (Zs I o9 I I I) I ?_
       have ⟨v26, hv26, h⟩ := Z1a h
       refine Zc I I I I (Z1d (ar := [(.str (a0.Acks.getD v17.toNat Z1q).Who)]) Try.call62 (F62_ok K (a0.Acks.getD v17.toNat Z1q).Who v26 hv26) I I ⟨I, J0⟩ I) I <| Zc I I I I (Z2c I I) I <| Z1 I (Zy I I I) I <| Z1 I (Zd I I) I <| Z7 <| Z8 ?_
       have hif := Z1h h
       refine Zq I (fun hc => ?_) (fun hc => ?_)
       ·have h := hif.1 hc
        refine Zb <| Z5 <| Z1 I (Zd (v := (.int .i64 11)) I I) I <| Z7 <| Z8 <| Z1e <| Z18 <| Z18 <| Zx ?_
        refine Zx (Z18 ?_)
        refine Zx ?_
        have h := Option.some.inj h
        subst h
        refine (hret _ ?_).1
        exact ⟨[(.int .i64 11)], ⟨I, J0⟩, I, J0⟩
       have h := hif.2 hc
       refine Zb <| Z5 <| Z1 I (Zm I f63_2 I I) I <| Z1 I (Zs I o3 I I I) I ?_
       have ⟨v28, hv28, h⟩ := Z1a h
       refine Z1 I (Z1d (ar := [(.int .i64 (a0.Acks.getD v17.toNat Z1q).At)]) Try.call28 (F28_ok K (a0.Acks.getD v17.toNat Z1q).At v28 hv28) I I ⟨I, J0⟩ I) I <| Z1 I (Z2c I I) I <| Z1 I (Zd I I) I <| Z7 <| Z8 ?_
       have hif := Z1h h
       refine Zq I (fun hc => ?_) (fun hc => ?_)
       ·have h := hif.1 hc
        refine Zb <| Z5 <| Z1 I (Zd (v := (.int .i64 32)) I I) I <| Z7 <| Z8 <| Z1e <| Z18 <| Z18 <| Zx ?_
        refine Zx (Z18 ?_)
        refine Zx ?_
        have h := Option.some.inj h
        subst h
        refine (hret _ ?_).1
        exact ⟨[(.int .i64 32)], ⟨I, J0⟩, I, J0⟩
       have h := hif.2 hc
       refine Z14 <| Z27 <| Z27 <| Z8 <| Z5 <| Z1 I (Z9 I I) I <| Z1 I (Z1p (k := .i64) (b := 1) (c := (IntKind.i64.wrap (v17 + 1))) I I I I) I <| Z1 I (Zd I I) I <| Z7 ?_
       exact Zz (IH18 _ (IntKind.i64.wrap (v17 + 1)) (Nat.lt_succ_self _) h) ⟨I, I, J0⟩ ⟨I, J0⟩
      have h := hif.2 hc
      refine Z1u <| Z26 ?_
      exact Zz (J18 () h) J0 trivial
    intro N k14 v h IH14 J14
    revert h
    revert v
    intro v13 h
    try dsimp only at h IH14 J14 ⊢
    cases k14 with
    | zero => cases h
    | succ k14 =>
     rw [F38_l14] at h
     refine Zb <| Zb <| Z5 <| Z1 I (Z9 I I) I <| Z1 I (Zm I f34_2 I I) I <| Z1 I (Zs I o31 I I I) I <| Z1 I (Z24 (l := a0.Silences) (enc := Zk) I s31 I) I <| Z1 I (Z1c (c := (decide (v13 < (a0.Silences.length : Int)))) I I I I) I <| Z7 <| Z8 ?_
     have hif := Z1h h
     refine Zq I (fun hc => ?_) (fun hc => ?_)
     ·have h := hif.1 hc
      refine Z14 <| Z8 <| Zb <| Z1t <| Zb <| Z5 <| Z1 I (Zm I f34_2 I I) I <| Z1 I (Zs I o31 I I I) I <| Z1 I (Z9 I I) I ?_
      have ⟨hg30, h⟩ := Zw h
      refine Z1 I (Z1s (k := .i64) (l := a0.Silences) (enc := Zk) (z := Zr) (n := v13) (full := false) I s31 I I hg30 I) I <| Z1 I (Z28 I a67 I I I) I <| Z1 I (Z1x I z67 I I I) I <| Z1 I (Z1f sz67 I I I I I I I I) I <| Z7 <| Z8 <| Z1t <| Zb <| Z5 <| Z1 I (Zm I f67_0 I I) I <| Z1 I (Zs I o3 I I I) I <| Z1 I (Z1c (b := 1) (c := (decide ((a0.Silences.getD v13.toNat Zr).Id < 1))) I I I I) I <| Z1 I (Z9 I I) I ?_
      have hif := Z1h h
      refine Z16 (fun hc => ?_) (fun hc => ?_)
      ·have h := hif.1 hc
       refine Zg I I I I I I I <| Zg I I I I I I I <| Zg I I I I I I I <| Z1 I (Z19 (v := (.bool true)) I I I) I <| Z1 I (Zd (v := (.bool true)) I I) I <| Z7 <| Z8 ?_
       refine Zq (b := true) I (fun hc => ?_) (fun hc => ?_)
       rotate_left
       ·cases hc
       refine Zb <| Z5 <| Z1 I (Zd (v := (.int .i64 2)) I I) I <| Z7 <| Z8 <| Z1e <| Z18 <| Z18 <| Zx ?_
       refine Zx (Z18 ?_)
       refine Zx ?_
       have h := Option.some.inj h
       subst h
       refine (hret _ ?_).1
       exact ⟨[(.int .i64 2)], ⟨I, J0⟩, I, J0⟩
      have h := hif.2 hc
      refine Zc I I I I (Zm I f67_0 I I) I <| Zc I I I I (Zs I o3 I I I) I <| Zc I I I I (Z1c (b := 1048576) (c := (decide ((a0.Silences.getD v13.toNat Zr).Id > 1048576))) I I I I) I <| Z1 I (Zy I I I) I <| Z1 I (Zd I I) I <| Z7 <| Z8 ?_
      refine Z21 (V := Unit) (lp := fun v => F38_j31 K (F38_l14 K a0 (F38_c15 K a0) k14) v13 = some r) (sh := fun v => ⟨[(1, (.ptr 1 0)), (7, (.int .i64 v13))], [(1, (.box (Zf a0).cells))]⟩) ?_ ?_
      ·intro v h
       try dsimp only at h ⊢
       unfold F38_j31 at h
       refine Z27 <| Z27 <| Z8 <| Z5 <| Z1 I (Z9 I I) I <| Z1 I (Z1p (k := .i64) (b := 1) (c := (IntKind.i64.wrap (v13 + 1))) I I I I) I <| Z1 I (Zd I I) I <| Z7 ?_
       exact Zz (IH14 _ (IntKind.i64.wrap (v13 + 1)) (Nat.lt_succ_self _) h) ⟨I, I, J0⟩ ⟨I, J0⟩
      intro J31
      have hif := Z1h h
      refine Zq I (fun hc => ?_) (fun hc => ?_)
      ·have h := hif.1 hc
       refine Zb <| Z5 <| Z1 I (Zd (v := (.int .i64 2)) I I) I <| Z7 <| Z8 <| Z1e <| Z18 <| Z18 <| Zx ?_
       refine Zx (Z18 ?_)
       refine Zx ?_
       have h := Option.some.inj h
       subst h
       refine (hret _ ?_).1
       exact ⟨[(.int .i64 2)], ⟨I, J0⟩, I, J0⟩
      have h := hif.2 hc
      refine Zb <| Z1y mixed <| Za 0 I (Z9 I I) <| Za 1 I (Z1c (b := 0) (c := (decide (v13 > 0))) I I I I) <| Za 2 I (Z9 I I) ?_
      have hif := Z1h h
      refine Z3f (fun hc => ?_) (fun hc => ?_)
      ·have h := hif.1 hc
       refine Z17 3 I I I I (Zm I f67_0 I I) <| Z17 4 I I I I (Zs I o3 I I I) <| Z17 5 I I I I (Zm I f34_2 I I) <| Z17 6 I I I I (Zs I o31 I I I) <| Z17 7 I I I I (Z9 I I) <| Z17 8 I I I I (Z1p (k := .i64) (b := 1) (c := (IntKind.i64.wrap (v13 - 1))) I I I I) ?_
       have ⟨hg32, h⟩ := Zw h
       refine Z17 9 I I I I (Z1s (k := .i64) (l := a0.Silences) (enc := Zk) (z := Zr) (n := (IntKind.i64.wrap (v13 - 1))) (full := false) I s31 I I hg32 I) <| Z17 10 I I I I (Z1w I f67_0 I I I) <| Z17 11 I I I I (Z1l I o3 I I) <| Z17 12 I I I I (Z1c (c := (decide ((a0.Silences.getD v13.toNat Zr).Id ≤ (a0.Silences.getD (IntKind.i64.wrap (v13 - 1)).toNat Zr).Id))) I I I I) <| Za 13 I (Z19 I I I) <| Za 14 I (Zd I I) <| Z1z (by kernel_rfl) I <| Z8 ?_
       have hif := Z1h h
       refine Zq I (fun hc => ?_) (fun hc => ?_)
       ·have h := hif.1 hc
        refine Zb <| Z5 <| Z1 I (Zd (v := (.int .i64 8)) I I) I <| Z7 <| Z8 <| Z1e <| Z18 <| Z18 <| Zx ?_
        refine Zx (Z18 ?_)
        refine Zx ?_
        have h := Option.some.inj h
        subst h
        refine (hret _ ?_).1
        exact ⟨[(.int .i64 8)], ⟨I, J0⟩, I, J0⟩
       have h := hif.2 hc
       refine Zb <| Z5 <| Z1 I (Zm I f67_1 I I) I <| Z1 I (Zs I o9 I I I) I ?_
       have ⟨v34, hv34, h⟩ := Z1a h
       refine Z1 I (Z1d (ar := [(.str (a0.Silences.getD v13.toNat Zr).Rule)]) Try.call64 (F64_ok K (a0.Silences.getD v13.toNat Zr).Rule v34 hv34) I I ⟨I, J0⟩ I) I <| Z1 I (Z2c I I) I <| Z1 I (Z9 I I) I ?_
       have hif := Z1h h
       refine Z16 (fun hc => ?_) (fun hc => ?_)
       ·have h := hif.1 hc
        iterate 4 refine Zg I I I I I I I ?_
        refine Z1 I (Z19 (v := (.bool true)) I I I) I <| Z1 I (Zd (v := (.bool true)) I I) I <| Z7 <| Z8 ?_
        refine Zq (b := true) I (fun hc => ?_) (fun hc => ?_)
        rotate_left
        ·cases hc
        refine Zb <| Z5 <| Z1 I (Zd (v := (.int .i64 11)) I I) I <| Z7 <| Z8 <| Z1e <| Z18 <| Z18 <| Zx ?_
        refine Zx (Z18 ?_)
        refine Zx ?_
        have h := Option.some.inj h
        subst h
        refine (hret _ ?_).1
        exact ⟨[(.int .i64 11)], ⟨I, J0⟩, I, J0⟩
       have h := hif.2 hc
       refine Zc I I I I (Zm I f67_2 I I) I <| Zc I I I I (Zs I o9 I I I) I ?_
       have ⟨v36, hv36, h⟩ := Z1a h
       refine Zc I I I I (Z1d (ar := [(.str (a0.Silences.getD v13.toNat Zr).Service)]) Try.call64 (F64_ok K (a0.Silences.getD v13.toNat Zr).Service v36 hv36) I I ⟨I, J0⟩ I) I <| Zc I I I I (Z2c I I) I <| Z1 I (Zy I I I) I <| Z1 I (Zd I I) I <| Z7 <| Z8 ?_
       have hif := Z1h h
       refine Zq I (fun hc => ?_) (fun hc => ?_)
       ·have h := hif.1 hc
        refine Zb <| Z5 <| Z1 I (Zd (v := (.int .i64 11)) I I) I <| Z7 <| Z8 <| Z1e <| Z18 <| Z18 <| Zx ?_
        refine Zx (Z18 ?_)
        refine Zx ?_
        have h := Option.some.inj h
        subst h
        refine (hret _ ?_).1
        exact ⟨[(.int .i64 11)], ⟨I, J0⟩, I, J0⟩
       have h := hif.2 hc
       refine Zb <| Z5 <| Z1 I (Zm I f67_3 I I) I <| Z1 I (Z1n I a40 I I I I) I ?_
       have ⟨v38, hv38, h⟩ := Z1a h
       refine Z1 I (Z1d (ar := [(Z6 (a0.Silences.getD v13.toNat Zr).When)]) Try.call63 (F63_ok K (a0.Silences.getD v13.toNat Zr).When v38 hv38) I I ⟨I, J0⟩ I) I <| Z1 I (Z2c I I) I <| Z1 I (Zd I I) I <| Z7 <| Z8 ?_
       have hif := Z1h h
       refine Zq I (fun hc => ?_) (fun hc => ?_)
       ·have h := hif.1 hc
        refine Zb <| Z5 <| Z1 I (Zd (v := (.int .i64 32)) I I) I <| Z7 <| Z8 <| Z1e <| Z18 <| Z18 <| Zx ?_
        refine Zx (Z18 ?_)
        refine Zx ?_
        have h := Option.some.inj h
        subst h
        refine (hret _ ?_).1
        exact ⟨[(.int .i64 32)], ⟨I, J0⟩, I, J0⟩
       have h := hif.2 hc
       refine Z14 ?_
       exact Zz (J31 () h) ⟨I, I, J0⟩ ⟨I, J0⟩
      have h := hif.2 hc
      refine Z11 3 I I I I I I I <| Z11 4 I I I I I I I <| Z11 5 I I I I I I I <| Z11 6 I I I I I I I <| Z11 7 I I I I I I I <| Z11 8 I I I I I I I <| Z11 9 I I I I I I I <| Z11 10 I I I I I I I <| Z11 11 I I I I I I I <| Z11 12 I I I I I I I <| Za 13 I (Zy (v := (.bool false)) I I I) <| Za 14 I (Zd (v := (.bool false)) I I) <| Z1z (by kernel_rfl) I <| Z8 ?_
      refine Zq (b := false) I (fun hc => ?_) (fun hc => ?_)
      ·cases hc
      refine Zb <| Z5 <| Z1 I (Zm I f67_1 I I) I <| Z1 I (Zs I o9 I I I) I ?_
      have ⟨v40, hv40, h⟩ := Z1a h
      refine Z1 I (Z1d (ar := [(.str (a0.Silences.getD v13.toNat Zr).Rule)]) Try.call64 (F64_ok K (a0.Silences.getD v13.toNat Zr).Rule v40 hv40) I I ⟨I, J0⟩ I) I <| Z1 I (Z2c I I) I <| Z1 I (Z9 I I) I ?_
      have hif := Z1h h
      refine Z16 (fun hc => ?_) (fun hc => ?_)
      ·have h := hif.1 hc
       iterate 4 refine Zg I I I I I I I ?_
       refine Z1 I (Z19 (v := (.bool true)) I I I) I <| Z1 I (Zd (v := (.bool true)) I I) I <| Z7 <| Z8 ?_
       refine Zq (b := true) I (fun hc => ?_) (fun hc => ?_)
       rotate_left
       ·cases hc
       refine Zb <| Z5 <| Z1 I (Zd (v := (.int .i64 11)) I I) I <| Z7 <| Z8 <| Z1e <| Z18 <| Z18 <| Zx ?_
       refine Zx (Z18 ?_)
       refine Zx ?_
       have h := Option.some.inj h
       subst h
       refine (hret _ ?_).1
       exact ⟨[(.int .i64 11)], ⟨I, J0⟩, I, J0⟩
      have h := hif.2 hc
      refine Zc I I I I (Zm I f67_2 I I) I <| Zc I I I I (Zs I o9 I I I) I ?_
      have ⟨v42, hv42, h⟩ := Z1a h
      refine Zc I I I I (Z1d (ar := [(.str (a0.Silences.getD v13.toNat Zr).Service)]) Try.call64 (F64_ok K (a0.Silences.getD v13.toNat Zr).Service v42 hv42) I I ⟨I, J0⟩ I) I <| Zc I I I I (Z2c I I) I <| Z1 I (Zy I I I) I <| Z1 I (Zd I I) I <| Z7 <| Z8 ?_
      have hif := Z1h h
      refine Zq I (fun hc => ?_) (fun hc => ?_)
      ·have h := hif.1 hc
       refine Zb <| Z5 <| Z1 I (Zd (v := (.int .i64 11)) I I) I <| Z7 <| Z8 <| Z1e <| Z18 <| Z18 <| Zx ?_
       refine Zx (Z18 ?_)
       refine Zx ?_
       have h := Option.some.inj h
       subst h
       refine (hret _ ?_).1
       exact ⟨[(.int .i64 11)], ⟨I, J0⟩, I, J0⟩
      have h := hif.2 hc
      refine Zb <| Z5 <| Z1 I (Zm I f67_3 I I) I <| Z1 I (Z1n I a40 I I I I) I ?_
      have ⟨v44, hv44, h⟩ := Z1a h
      refine Z1 I (Z1d (ar := [(Z6 (a0.Silences.getD v13.toNat Zr).When)]) Try.call63 (F63_ok K (a0.Silences.getD v13.toNat Zr).When v44 hv44) I I ⟨I, J0⟩ I) I <| Z1 I (Z2c I I) I <| Z1 I (Zd I I) I <| Z7 <| Z8 ?_
      have hif := Z1h h
      refine Zq I (fun hc => ?_) (fun hc => ?_)
      ·have h := hif.1 hc
       refine Zb <| Z5 <| Z1 I (Zd (v := (.int .i64 32)) I I) I <| Z7 <| Z8 <| Z1e <| Z18 <| Z18 <| Zx ?_
       refine Zx (Z18 ?_)
       refine Zx ?_
       have h := Option.some.inj h
       subst h
       refine (hret _ ?_).1
       exact ⟨[(.int .i64 32)], ⟨I, J0⟩, I, J0⟩
      have h := hif.2 hc
      refine Z14 ?_
      exact Zz (J31 () h) ⟨I, I, J0⟩ ⟨I, J0⟩
     have h := hif.2 hc
     refine Z1u <| Z26 ?_
     exact Zz (J14 () h) ⟨I, J0⟩ ⟨I, J0⟩
   intro N k10 v h IH10 J10
   revert h
   revert v
   intro v9 h
   try dsimp only at h IH10 J10 ⊢
   cases k10 with
   | zero => cases h
   | succ k10 =>
    rw [F38_l10] at h
    refine Zb <| Zb <| Z5 <| Z1 I (Z9 I I) I <| Z1 I (Zm I f34_1 I I) I <| Z1 I (Zs I o30 I I I) I <| Z1 I (Z24 (l := a0.Firings) (enc := Zh) I s30 I) I <| Z1 I (Z1c (c := (decide (v9 < (a0.Firings.length : Int)))) I I I I) I <| Z7 <| Z8 ?_
    have hif := Z1h h
    refine Zq I (fun hc => ?_) (fun hc => ?_)
    ·have h := hif.1 hc
     refine Z14 <| Z8 <| Zb <| Z1t <| Zb <| Z5 <| Z1 I (Zm I f34_1 I I) I <| Z1 I (Zs I o30 I I I) I <| Z1 I (Z9 I I) I ?_
     have ⟨hg46, h⟩ := Zw h
     refine Z1 I (Z1s (k := .i64) (l := a0.Firings) (enc := Zh) (z := Z12) (n := v9) (full := false) I s30 I I hg46 I) I <| Z1 I (Z28 I a42 I I I) I <| Z1 I (Z1x I z42 I I I) I <| Z1 I (Z1f sz42 I I I I I I I I) I <| Z7 <| Z8 <| Z1t <| Zb <| Z5 <| Z1 I (Zm I f42_0 I I) I <| Z1 I (Zs I o9 I I I) I ?_
     have ⟨v48, hv48, h⟩ := Z1a h
     refine Z1 I (Z1d (ar := [(.str (a0.Firings.getD v9.toNat Z12).Rule)]) Try.call62 (F62_ok K (a0.Firings.getD v9.toNat Z12).Rule v48 hv48) I I ⟨I, J0⟩ I) I <| Z1 I (Z2c I I) I <| Z1 I (Z9 I I) I ?_
     have hif := Z1h h
     refine Z16 (fun hc => ?_) (fun hc => ?_)
     ·have h := hif.1 hc
      iterate 4 refine Zg I I I I I I I ?_
      refine Z1 I (Z19 (v := (.bool true)) I I I) I <| Z1 I (Zd (v := (.bool true)) I I) I <| Z7 <| Z8 ?_
      refine Zq (b := true) I (fun hc => ?_) (fun hc => ?_)
      rotate_left
      ·cases hc
      refine Zb <| Z5 <| Z1 I (Zd (v := (.int .i64 11)) I I) I <| Z7 <| Z8 <| Z1e <| Z18 <| Z18 <| Zx ?_
      refine Zx (Z18 ?_)
      refine Zx ?_
      have h := Option.some.inj h
      subst h
      refine (hret _ ?_).1
      exact ⟨[(.int .i64 11)], ⟨I, J0⟩, I, J0⟩
     have h := hif.2 hc
     refine Zc I I I I (Zm I f42_1 I I) I <| Zc I I I I (Zs I o9 I I I) I ?_
     have ⟨v50, hv50, h⟩ := Z1a h
     refine Zc I I I I (Z1d (ar := [(.str (a0.Firings.getD v9.toNat Z12).Service)]) Try.call62 (F62_ok K (a0.Firings.getD v9.toNat Z12).Service v50 hv50) I I ⟨I, J0⟩ I) I <| Zc I I I I (Z2c I I) I <| Z1 I (Zy I I I) I <| Z1 I (Zd I I) I <| Z7 <| Z8 ?_
     have hif := Z1h h
     refine Zq I (fun hc => ?_) (fun hc => ?_)
     ·have h := hif.1 hc
      refine Zb <| Z5 <| Z1 I (Zd (v := (.int .i64 11)) I I) I <| Z7 <| Z8 <| Z1e <| Z18 <| Z18 <| Zx ?_
      refine Zx (Z18 ?_)
      refine Zx ?_
      have h := Option.some.inj h
      subst h
      refine (hret _ ?_).1
      exact ⟨[(.int .i64 11)], ⟨I, J0⟩, I, J0⟩
     have h := hif.2 hc
     refine Zb <| Z5 <| Z1 I (Zm I f42_2 I I) I <| Z1 I (Z1n I a40 I I I I) I ?_
     have ⟨v52, hv52, h⟩ := Z1a h
     refine Z1 I (Z1d (ar := [(Z6 (a0.Firings.getD v9.toNat Z12).When)]) Try.call63 (F63_ok K (a0.Firings.getD v9.toNat Z12).When v52 hv52) I I ⟨I, J0⟩ I) I <| Z1 I (Z2c I I) I <| Z1 I (Zd I I) I <| Z7 <| Z8 ?_
     have hif := Z1h h
     refine Zq I (fun hc => ?_) (fun hc => ?_)
     ·have h := hif.1 hc
      refine Zb <| Z5 <| Z1 I (Zd (v := (.int .i64 32)) I I) I <| Z7 <| Z8 <| Z1e <| Z18 <| Z18 <| Zx ?_
      refine Zx (Z18 ?_)
      refine Zx ?_
      have h := Option.some.inj h
      subst h
      refine (hret _ ?_).1
      exact ⟨[(.int .i64 32)], ⟨I, J0⟩, I, J0⟩
     have h := hif.2 hc
     refine Z14 <| Z27 <| Z27 <| Z8 <| Z5 <| Z1 I (Z9 I I) I <| Z1 I (Z1p (k := .i64) (b := 1) (c := (IntKind.i64.wrap (v9 + 1))) I I I I) I <| Z1 I (Zd I I) I <| Z7 ?_
     exact Zz (IH10 _ (IntKind.i64.wrap (v9 + 1)) (Nat.lt_succ_self _) h) ⟨I, I, J0⟩ ⟨I, J0⟩
    have h := hif.2 hc
    refine Z1u <| Z26 ?_
    exact Zz (J10 () h) ⟨I, J0⟩ ⟨I, J0⟩
  intro N k6 v h IH6 J6
  revert h
  revert v
  intro v5 h
  try dsimp only at h IH6 J6 ⊢
  cases k6 with
  | zero => cases h
  | succ k6 =>
   rw [F38_l6] at h
   refine Zb <| Zb <| Z5 <| Z1 I (Z9 I I) I <| Z1 I (Zm I f29_2 I I) I <| Z1 I (Zs I o27 I I I) I <| Z1 I (Z24 (l := a0.Policy.Steps) (enc := Zj) I s27 I) I <| Z1 I (Z1c (c := (decide (v5 < (a0.Policy.Steps.length : Int)))) I I I I) I <| Z7 <| Z8 ?_
   have hif := Z1h h
   refine Zq I (fun hc => ?_) (fun hc => ?_)
   ·have h := hif.1 hc
    refine Z14 <| Z8 <| Zb <| Z1t <| Z1t <| Zb <| Z5 <| Z1 I (Zm I f29_2 I I) I <| Z1 I (Zs I o27 I I I) I <| Z1 I (Z9 I I) I ?_
    have ⟨hg54, h⟩ := Zw h
    refine Z1 I (Z1s (k := .i64) (l := a0.Policy.Steps) (enc := Zj) (z := Zl) (n := v5) (full := false) I s27 I I hg54 I) I <| Z1 I (Z1w I f71_0 I I I) I <| Z1 I (Z1l I o3 I I) I ?_
    have ⟨v56, hv56, h⟩ := Z1a h
    refine Z1 I (Z1d (ar := [(.int .i64 (a0.Policy.Steps.getD v5.toNat Zl).After)]) Try.call28 (F28_ok K (a0.Policy.Steps.getD v5.toNat Zl).After v56 hv56) I I ⟨I, J0⟩ I) I <| Z1 I (Z2c I I) I <| Z1 I (Zd I I) I <| Z7 <| Z8 ?_
    refine Z21 (V := Unit) (lp := fun v => F38_j57 K (F38_l6 K a0 (F38_c7 K a0) k6) v5 = some r) (sh := fun v => ⟨[(1, (.ptr 1 0)), (3, (.ptr 3 0)), (4, (.int .i64 v5))], [(1, (.box (Zf a0).cells)), (3, (.box (Z2i a0.Policy).cells))]⟩) ?_ ?_
    ·intro v h
     try dsimp only at h ⊢
     unfold F38_j57 at h
     refine Z27 <| Z27 <| Z8 <| Z5 <| Z1 I (Z9 I I) I <| Z1 I (Z1p (k := .i64) (b := 1) (c := (IntKind.i64.wrap (v5 + 1))) I I I I) I <| Z1 I (Zd I I) I <| Z7 ?_
     exact Zz (IH6 _ (IntKind.i64.wrap (v5 + 1)) (Nat.lt_succ_self _) h) ⟨I, I, I, J0⟩ ⟨I, I, J0⟩
    intro J57
    have hif := Z1h h
    refine Zq I (fun hc => ?_) (fun hc => ?_)
    ·have h := hif.1 hc
     refine Zb <| Z5 <| Z1 I (Zd (v := (.int .i64 2)) I I) I <| Z7 <| Z8 <| Z1e <| Z18 <| Z18 <| Zx ?_
     refine Zx (Z18 ?_)
     refine Zx ?_
     have h := Option.some.inj h
     subst h
     refine (hret _ ?_).1
     exact ⟨[(.int .i64 2)], ⟨I, J0⟩, I, J0⟩
    have h := hif.2 hc
    refine Zb <| Z1y mixed <| Za 0 I (Z9 I I) <| Za 1 I (Z1c (b := 0) (c := (decide (v5 > 0))) I I I I) <| Za 2 I (Z9 I I) ?_
    have hif := Z1h h
    refine Z3f (fun hc => ?_) (fun hc => ?_)
    ·have h := hif.1 hc
     refine Z17 3 I I I I (Zm I f29_2 I I) <| Z17 4 I I I I (Zs I o27 I I I) <| Z17 5 I I I I (Z9 I I) ?_
     have ⟨hg58, h⟩ := Zw h
     refine Z17 6 I I I I (Z1s (k := .i64) (l := a0.Policy.Steps) (enc := Zj) (z := Zl) (n := v5) (full := false) I s27 I I hg58 I) <| Z17 7 I I I I (Z1w I f71_0 I I I) <| Z17 8 I I I I (Z1l I o3 I I) <| Z17 9 I I I I (Zm I f29_2 I I) <| Z17 10 I I I I (Zs I o27 I I I) <| Z17 11 I I I I (Z9 I I) <| Z17 12 I I I I (Z1p (k := .i64) (b := 1) (c := (IntKind.i64.wrap (v5 - 1))) I I I I) ?_
     have ⟨hg59, h⟩ := Zw h
     refine Z17 13 I I I I (Z1s (k := .i64) (l := a0.Policy.Steps) (enc := Zj) (z := Zl) (n := (IntKind.i64.wrap (v5 - 1))) (full := false) I s27 I I hg59 I) <| Z17 14 I I I I (Z1w I f71_0 I I I) <| Z17 15 I I I I (Z1l I o3 I I) <| Z17 16 I I I I (Z1c (c := (decide ((a0.Policy.Steps.getD v5.toNat Zl).After ≤ (a0.Policy.Steps.getD (IntKind.i64.wrap (v5 - 1)).toNat Zl).After))) I I I I) <| Za 17 I (Z19 I I I) <| Za 18 I (Zd I I) <| Z1z (by kernel_rfl) I <| Z8 ?_
     have hif := Z1h h
     refine Zq I (fun hc => ?_) (fun hc => ?_)
     ·have h := hif.1 hc
      refine Zb <| Z5 <| Z1 I (Zd (v := (.int .i64 8)) I I) I <| Z7 <| Z8 <| Z1e <| Z18 <| Z18 <| Zx ?_
      refine Zx (Z18 ?_)
      refine Zx ?_
      have h := Option.some.inj h
      subst h
      refine (hret _ ?_).1
      exact ⟨[(.int .i64 8)], ⟨I, J0⟩, I, J0⟩
     have h := hif.2 hc
     refine Zb <| Z5 <| Z1 I (Zm I f29_2 I I) I <| Z1 I (Zs I o27 I I I) I <| Z1 I (Z9 I I) I ?_
     have ⟨hg60, h⟩ := Zw h
     refine Z1 I (Z1s (k := .i64) (l := a0.Policy.Steps) (enc := Zj) (z := Zl) (n := v5) (full := false) I s27 I I hg60 I) I <| Z1 I (Z1w I f71_1 I I I) I <| Z1 I (Z1l I o9 I I) I ?_
     have ⟨v62, hv62, h⟩ := Z1a h
     refine Z1 I (Z1d (ar := [(.str (a0.Policy.Steps.getD v5.toNat Zl).Who)]) Try.call62 (F62_ok K (a0.Policy.Steps.getD v5.toNat Zl).Who v62 hv62) I I ⟨I, J0⟩ I) I <| Z1 I (Z2c I I) I <| Z1 I (Zd I I) I <| Z7 <| Z8 ?_
     have hif := Z1h h
     refine Zq I (fun hc => ?_) (fun hc => ?_)
     ·have h := hif.1 hc
      refine Zb <| Z5 <| Z1 I (Zd (v := (.int .i64 11)) I I) I <| Z7 <| Z8 <| Z1e <| Z18 <| Z18 <| Zx ?_
      refine Zx (Z18 ?_)
      refine Zx ?_
      have h := Option.some.inj h
      subst h
      refine (hret _ ?_).1
      exact ⟨[(.int .i64 11)], ⟨I, J0⟩, I, J0⟩
     have h := hif.2 hc
     refine Z14 ?_
     exact Zz (J57 () h) ⟨I, I, I, J0⟩ ⟨I, I, J0⟩
    have h := hif.2 hc
    refine Z11 3 I I I I I I I <| Z11 4 I I I I I I I <| Z11 5 I I I I I I I <| Z11 6 I I I I I I I <| Z11 7 I I I I I I I <| Z11 8 I I I I I I I <| Z11 9 I I I I I I I <| Z11 10 I I I I I I I <| Z11 11 I I I I I I I <| Z11 12 I I I I I I I <| Z11 13 I I I I I I I <| Z11 14 I I I I I I I <| Z11 15 I I I I I I I <| Z11 16 I I I I I I I <| Za 17 I (Zy (v := (.bool false)) I I I) <| Za 18 I (Zd (v := (.bool false)) I I) <| Z1z (by kernel_rfl) I <| Z8 ?_
    refine Zq (b := false) I (fun hc => ?_) (fun hc => ?_)
    ·cases hc
    refine Zb <| Z5 <| Z1 I (Zm I f29_2 I I) I <| Z1 I (Zs I o27 I I I) I <| Z1 I (Z9 I I) I ?_
    have ⟨hg63, h⟩ := Zw h
    refine Z1 I (Z1s (k := .i64) (l := a0.Policy.Steps) (enc := Zj) (z := Zl) (n := v5) (full := false) I s27 I I hg63 I) I <| Z1 I (Z1w I f71_1 I I I) I <| Z1 I (Z1l I o9 I I) I ?_
    have ⟨v65, hv65, h⟩ := Z1a h
    refine Z1 I (Z1d (ar := [(.str (a0.Policy.Steps.getD v5.toNat Zl).Who)]) Try.call62 (F62_ok K (a0.Policy.Steps.getD v5.toNat Zl).Who v65 hv65) I I ⟨I, J0⟩ I) I <| Z1 I (Z2c I I) I <| Z1 I (Zd I I) I <| Z7 <| Z8 ?_
    have hif := Z1h h
    refine Zq I (fun hc => ?_) (fun hc => ?_)
    ·have h := hif.1 hc
     refine Zb <| Z5 <| Z1 I (Zd (v := (.int .i64 11)) I I) I <| Z7 <| Z8 <| Z1e <| Z18 <| Z18 <| Zx ?_
     refine Zx (Z18 ?_)
     refine Zx ?_
     have h := Option.some.inj h
     subst h
     refine (hret _ ?_).1
     exact ⟨[(.int .i64 11)], ⟨I, J0⟩, I, J0⟩
    have h := hif.2 hc
    refine Z14 ?_
    exact Zz (J57 () h) ⟨I, I, I, J0⟩ ⟨I, I, J0⟩
   have h := hif.2 hc
   refine Z1u <| Z26 ?_
   exact Zz (J6 () h) ⟨I, J0⟩ ⟨I, J0⟩
 intro J4
 refine Z5 <| Z1 I (Zm I f29_2 I I) I <| Z1 I (Zs I o27 I I I) I <| Z1 I (Z24 (l := a0.Policy.Steps) (enc := Zj) I s27 I) I <| Z1 I (Z1c (b := 8) (c := (decide ((a0.Policy.Steps.length : Int) > 8))) I I I I) I <| Z1 I (Z9 I I) I ?_
 have hif := Z1h h
 refine Z16 (fun hc => ?_) (fun hc => ?_)
 ·have h := hif.1 hc
  iterate 4 refine Zg I I I I I I I ?_
  refine Z1 I (Z19 (v := (.bool true)) I I I) I <| Z1 I (Z9 (v := (.bool true)) I I) I ?_
  iterate 4 refine Zg I I I I I I I ?_
  refine Z1 I (Z19 (v := (.bool true)) I I I) I <| Z1 I (Z9 (v := (.bool true)) I I) I ?_
  iterate 4 refine Zg I I I I I I I ?_
  refine Z1 I (Z19 (v := (.bool true)) I I I) I <| Z1 I (Zd (v := (.bool true)) I I) I <| Z7 ?_
  exact Zz (J4 true h) ⟨I, I, I, J0⟩ ⟨I, I, J0⟩
 have h := hif.2 hc
 refine Zc I I I I (Zm I f34_1 I I) I <| Zc I I I I (Zs I o30 I I I) I <| Zc I I I I (Z24 (l := a0.Firings) (enc := Zh) I s30 I) I <| Zc I I I I (Z1c (b := 256) (c := (decide ((a0.Firings.length : Int) > 256))) I I I I) I <| Z1 I (Zy I I I) I <| Z1 I (Z9 I I) I ?_
 have hif := Z1h h
 refine Z16 (fun hc => ?_) (fun hc => ?_)
 ·have h := hif.1 hc
  iterate 4 refine Zg I I I I I I I ?_
  refine Z1 I (Z19 (v := (.bool true)) I I I) I <| Z1 I (Z9 (v := (.bool true)) I I) I ?_
  iterate 4 refine Zg I I I I I I I ?_
  refine Z1 I (Z19 (v := (.bool true)) I I I) I <| Z1 I (Zd (v := (.bool true)) I I) I <| Z7 ?_
  exact Zz (J4 true h) ⟨I, I, I, J0⟩ ⟨I, I, J0⟩
 have h := hif.2 hc
 refine Zc I I I I (Zm I f34_2 I I) I <| Zc I I I I (Zs I o31 I I I) I <| Zc I I I I (Z24 (l := a0.Silences) (enc := Zk) I s31 I) I <| Zc I I I I (Z1c (b := 256) (c := (decide ((a0.Silences.length : Int) > 256))) I I I I) I <| Z1 I (Zy I I I) I <| Z1 I (Z9 I I) I ?_
 have hif := Z1h h
 refine Z16 (fun hc => ?_) (fun hc => ?_)
 ·have h := hif.1 hc
  iterate 4 refine Zg I I I I I I I ?_
  refine Z1 I (Z19 (v := (.bool true)) I I I) I <| Z1 I (Zd (v := (.bool true)) I I) I <| Z7 ?_
  exact Zz (J4 true h) ⟨I, I, I, J0⟩ ⟨I, I, J0⟩
 have h := hif.2 hc
 refine Zc I I I I (Zm I f34_3 I I) I <| Zc I I I I (Zs I o32 I I I) I <| Zc I I I I (Z24 (l := a0.Acks) (enc := Zp) I s32 I) I <| Zc I I I I (Z1c (b := 256) (c := (decide ((a0.Acks.length : Int) > 256))) I I I I) I <| Z1 I (Zy I I I) I <| Z1 I (Zd I I) I <| Z7 ?_
 exact Zz (J4 (decide ((a0.Acks.length : Int) > 256)) h) ⟨I, I, I, J0⟩ ⟨I, I, J0⟩
def F12_j22 (_K : Nat) (v21 : Bool) : Option (Bool) :=
 some v21
noncomputable def F12 (K : Nat) (a0 : Z15) (a1 : Z2q) : Option (Bool) :=
 (F13 K).bind fun v2 =>
 if (!v2) = true then
 (F13 K).bind fun v4 =>
 some v4
 else
 if (decide ((a1.Name.length : Int) > 80)) = true then
 (F13 K).bind fun v6 =>
 some v6
 else
 (F14_i1 K a0).bind fun v8 =>
 (F37 K (IntKind.i64.wrap (a0.By.tmod 3)) (IntKind.i64.wrap (a0.Repeat.tmod 16)) a1 v8.1 v8.2.1 v8.2.2.1 v8.2.2.2).bind fun v10 =>
 (F38 K (⟨(⟨v10.1, v10.2.1, v10.2.2.1⟩ : Z29), v10.2.2.2.2.2, v10.2.2.2.2.1, v10.2.2.2.1⟩ : Ze)).bind fun v12 =>
 (F39 K (⟨(⟨v10.1, v10.2.1, v10.2.2.1⟩ : Z29), v10.2.2.2.2.2, v10.2.2.2.2.1, v10.2.2.2.1⟩ : Ze)).bind fun v14 =>
 if (v14 != v12) = true then
 some false
 else
 if (v12 == 0) = true then
 some true
 else
 (F27 K (⟨(⟨v10.1, v10.2.1, v10.2.2.1⟩ : Z29), v10.2.2.2.2.2, v10.2.2.2.2.1, v10.2.2.2.1⟩ : Ze) 10).bind fun v16 =>
 (F34 K (⟨(⟨v10.1, v10.2.1, v10.2.2.1⟩ : Z29), v10.2.2.2.2.2, v10.2.2.2.2.1, v10.2.2.2.1⟩ : Ze) 10).bind fun v18 =>
 (F35 K (⟨(⟨v10.1, v10.2.1, v10.2.2.1⟩ : Z29), v10.2.2.2.2.2, v10.2.2.2.2.1, v10.2.2.2.1⟩ : Ze) [] 10).bind fun v20 =>
 if ((v16.1.length : Int) == 0) = true then
 if (v16.2 == v12) = true then
 if (!v18.2.1) = true then
 if (v18.2.2 == v12) = true then
 if ((v20.1.Active == false) && ((v20.1.Since == 0) && ((v20.1.Steps == 0) && ((v20.1.Acked == false) && true)))) = true then
 F12_j22 K (v20.2 == v12)
 else
 F12_j22 K false
 else
 F12_j22 K false
 else
 F12_j22 K false
 else
 F12_j22 K false
 else
 F12_j22 K false
theorem F12_ok (K : Nat) (a0 : Z15) (a1 : Z2q) (r : Bool) (h : F12 K a0 a1 = some r) : ACall P 12 ⟨[(Zv a0), (Z3p a1)], [], (.bool r), [], []⟩ := by
 refine Z1v Try.func12 Try.results12 rfl Try.ntmps12 rfl rfl rfl ?_
 intro E Q hP hN hro hret
 obtain ⟨P', nt', w0, F0, p0, S0, β0, ro0⟩ := E
 simp only at hP hN
 subst hP hN
 dsimp only [argT]
 unfold F12 at h
 refine Zb <| Z5 <| Z1 I (Z2r I I I I I) I <| Z1 I (Z2r I I I I I) I <| Z1 I (Zd (v := (.bool false)) I I) I <| Z7 <| Z8 <| Zb <| Zb <| Z5 ?_
 have ⟨v2, hv2, h⟩ := Z1a h
 refine Z1 I (Z1d (ar := []) Try.call13 (F13_ok K v2 hv2) I I J0 I) I <| Z1 I (Z2c I I) I <| Z1 I (Z9 I I) I ?_
 have hif := Z1h h
 refine Z16 (fun hc => ?_) (fun hc => ?_)
 ·have h := hif.1 hc
  iterate 4 refine Zg I I I I I I I ?_
  refine Z1 I (Z19 (v := (.bool true)) I I I) I <| Z7 <| Z8 ?_
  refine Zq (b := true) I (fun hc => ?_) (fun hc => ?_)
  rotate_left
  ·cases hc
  refine Zb <| Z5 ?_
  have ⟨v4, hv4, h⟩ := Z1a h
  refine Z1 I (Z1d (ar := []) Try.call13 (F13_ok K v4 hv4) I I J0 I) I <| Z1 I (Zd I I) I <| Z7 <| Z8 <| Z1e <| Zx ?_
  have h := Option.some.inj h
  subst h
  refine (hret _ ?_).1
  exact ⟨[(.bool v4)], ⟨I, J0⟩, I, J0⟩
 have h := hif.2 hc
 refine Zc I I I I (Zm I f81_2 I I) I <| Zc I I I I (Zs I o9 I I I) I <| Zc I I I I (st_lenS I u9 I) I <| Zc I I I I (Z1c (b := 80) (c := (decide ((a1.Name.length : Int) > 80))) I I I I) I <| Z1 I (Zy I I I) I <| Z7 <| Z8 ?_
 have hif := Z1h h
 refine Zq I (fun hc => ?_) (fun hc => ?_)
 ·have h := hif.1 hc
  refine Zb <| Z5 ?_
  have ⟨v6, hv6, h⟩ := Z1a h
  refine Z1 I (Z1d (ar := []) Try.call13 (F13_ok K v6 hv6) I I J0 I) I <| Z1 I (Zd I I) I <| Z7 <| Z8 <| Z1e <| Zx ?_
  have h := Option.some.inj h
  subst h
  refine (hret _ ?_).1
  exact ⟨[(.bool v6)], ⟨I, J0⟩, I, J0⟩
 have h := hif.2 hc
 refine Z14 <| Z8 <| Zb <| Z1y mixed <| Za 0 I (Z1n I a25 I I I I) ?_
 have ⟨v8, hv8, h⟩ := Z1a h
 refine Za 1 I (st_call (d := some 24) (c := ⟨[(Zv a0)] ++ [], [], (.ag [(.int .i64 (IntKind.i64.wrap (a0.By.tmod 3))), (.int .i64 (IntKind.i64.wrap (a0.Repeat.tmod 16))), (.vs 75), (.vs 76), (.vs 77), (.vs 24)]), [(24, (.vec 3 (List.map Zp v8.2.2.2))), (77, (.vec 5 (List.map Zk v8.2.2.1))), (76, (.vec 4 (List.map Zh v8.2.1))), (75, (.vec 2 (List.map Zj v8.1)))], [24, 77, 76, 75]⟩) (ar := [(Zv a0)]) (caps := []) (news := [24, 77, 76, 75]) (forg := []) Try.call14 (((((F14_i1_ok K a0 v8 hv8).sw 174 24).sw 175 77).sw 178 76).sw 179 75) I I ⟨I, J0⟩ I J0 I) <| Za 2 I (Z1n I a81 I I I I) ?_
 have ⟨v10, hv10, h⟩ := Z1a h
 refine Za 3 I (st_call (d := some 26) (c := ⟨[(.ag [(.int .i64 (IntKind.i64.wrap (a0.By.tmod 3))), (.int .i64 (IntKind.i64.wrap (a0.Repeat.tmod 16))), (.vs 75), (.vs 76), (.vs 77), (.vs 24)]), (Z3p a1)] ++ [], [(75, (.vec 2 (List.map Zj v8.1))), (76, (.vec 4 (List.map Zh v8.2.1))), (77, (.vec 5 (List.map Zk v8.2.2.1))), (24, (.vec 3 (List.map Zp v8.2.2.2)))], (.ag [(.int .i64 v10.1), (.int .i64 v10.2.1), (.sl 2 (v10.2.2.1.map Zj) false), (.vs 76), (.vs 77), (.vs 24)]), [(75, .gone), (76, (.vec 4 (List.map Zh v10.2.2.2.2.2))), (77, (.vec 5 (List.map Zk v10.2.2.2.2.1))), (24, (.vec 3 (List.map Zp v10.2.2.2.1)))], [75, 76, 77, 24]⟩) (ar := [(.ag [(.int .i64 (IntKind.i64.wrap (a0.By.tmod 3))), (.int .i64 (IntKind.i64.wrap (a0.Repeat.tmod 16))), (.vs 75), (.vs 76), (.vs 77), (.vs 24)]), (Z3p a1)]) (caps := []) (news := []) (forg := [75, 76, 77, 24]) Try.call37 (((((F37_ok K (IntKind.i64.wrap (a0.By.tmod 3)) (IntKind.i64.wrap (a0.Repeat.tmod 16)) a1 v8.1 v8.2.1 v8.2.2.1 v8.2.2.2 v10 hv10).sw 156 75).sw 155 76).sw 152 77).sw 151 24) I I ⟨I, I, J0⟩ I ⟨I, I, I, I, J0⟩ I) <| Za 4 I (Z1x I z34 I I I) <| Za 5 I (Z1f sz34 I I I I I I I I) <| Z1z (by kernel_rfl) I <| Z8 <| Zb <| Z5 <| Z1 I (Z1n I a34 I I I I) I <| Z3b (st' := ⟨[(5, (.ptr 5 0)), (27, (.ag [(.int .i64 v10.1), (.int .i64 v10.2.1), (.sl 2 (v10.2.2.1.map Zj) false), (.sl 4 (v10.2.2.2.2.2.map Zh) false), (.vs 77), (.vs 24)]))], [(5, (.box [(.int .i64 v10.1), (.int .i64 v10.2.1), (.sl 2 (v10.2.2.1.map Zj) false), (.sl 4 (v10.2.2.2.2.2.map Zh) false), (.vs 77), (.vs 24)])), (24, (.vec 3 (List.map Zp v10.2.2.2.1))), (77, (.vec 5 (List.map Zk v10.2.2.2.2.1)))]⟩) (fun a w h => (Z1k _ (Z22 (m := 76) (sz := 4) (es := (List.map Zh v10.2.2.2.2.2)) a w (Z1k ⟨[(5, (.ptr 5 0)), (27, (.ag [(.int .i64 v10.1), (.int .i64 v10.2.1), (.sl 2 (v10.2.2.1.map Zj) false), (.vs 76), (.vs 77), (.vs 24)]))], [(76, (.vec 4 (List.map Zh v10.2.2.2.2.2))), (5, (.box [(.int .i64 v10.1), (.int .i64 v10.2.1), (.sl 2 (v10.2.2.1.map Zj) false), (.vs 76), (.vs 77), (.vs 24)])), (24, (.vec 3 (List.map Zp v10.2.2.2.1))), (77, (.vec 5 (List.map Zk v10.2.2.2.2.1)))]⟩ h ⟨I, I, J0⟩ ⟨I, I, I, I, J0⟩)) ⟨I, I, J0⟩ ⟨I, I, I, J0⟩)) <| Z3b (st' := ⟨[(5, (.ptr 5 0)), (27, (.ag [(.int .i64 v10.1), (.int .i64 v10.2.1), (.sl 2 (v10.2.2.1.map Zj) false), (.sl 4 (v10.2.2.2.2.2.map Zh) false), (.sl 5 (v10.2.2.2.2.1.map Zk) false), (.vs 24)]))], [(5, (.box [(.int .i64 v10.1), (.int .i64 v10.2.1), (.sl 2 (v10.2.2.1.map Zj) false), (.sl 4 (v10.2.2.2.2.2.map Zh) false), (.sl 5 (v10.2.2.2.2.1.map Zk) false), (.vs 24)])), (24, (.vec 3 (List.map Zp v10.2.2.2.1)))]⟩) (fun a w h => (Z1k _ (Z22 (m := 77) (sz := 5) (es := (List.map Zk v10.2.2.2.2.1)) a w (Z1k ⟨[(5, (.ptr 5 0)), (27, (.ag [(.int .i64 v10.1), (.int .i64 v10.2.1), (.sl 2 (v10.2.2.1.map Zj) false), (.sl 4 (v10.2.2.2.2.2.map Zh) false), (.vs 77), (.vs 24)]))], [(77, (.vec 5 (List.map Zk v10.2.2.2.2.1))), (5, (.box [(.int .i64 v10.1), (.int .i64 v10.2.1), (.sl 2 (v10.2.2.1.map Zj) false), (.sl 4 (v10.2.2.2.2.2.map Zh) false), (.vs 77), (.vs 24)])), (24, (.vec 3 (List.map Zp v10.2.2.2.1)))]⟩ h ⟨I, I, J0⟩ ⟨I, I, I, J0⟩)) ⟨I, I, J0⟩ ⟨I, I, J0⟩)) <| Z3b (st' := ⟨[(5, (.ptr 5 0)), (27, (.ag [(.int .i64 v10.1), (.int .i64 v10.2.1), (.sl 2 (v10.2.2.1.map Zj) false), (.sl 4 (v10.2.2.2.2.2.map Zh) false), (.sl 5 (v10.2.2.2.2.1.map Zk) false), (.sl 3 (v10.2.2.2.1.map Zp) false)]))], [(5, (.box [(.int .i64 v10.1), (.int .i64 v10.2.1), (.sl 2 (v10.2.2.1.map Zj) false), (.sl 4 (v10.2.2.2.2.2.map Zh) false), (.sl 5 (v10.2.2.2.2.1.map Zk) false), (.sl 3 (v10.2.2.2.1.map Zp) false)]))]⟩) (fun a w h => (Z1k _ (Z22 (m := 24) (sz := 3) (es := (List.map Zp v10.2.2.2.1)) a w (Z1k ⟨[(5, (.ptr 5 0)), (27, (.ag [(.int .i64 v10.1), (.int .i64 v10.2.1), (.sl 2 (v10.2.2.1.map Zj) false), (.sl 4 (v10.2.2.2.2.2.map Zh) false), (.sl 5 (v10.2.2.2.2.1.map Zk) false), (.vs 24)]))], [(24, (.vec 3 (List.map Zp v10.2.2.2.1))), (5, (.box [(.int .i64 v10.1), (.int .i64 v10.2.1), (.sl 2 (v10.2.2.1.map Zj) false), (.sl 4 (v10.2.2.2.2.2.map Zh) false), (.sl 5 (v10.2.2.2.2.1.map Zk) false), (.vs 24)]))]⟩ h ⟨I, I, J0⟩ ⟨I, I, J0⟩)) ⟨I, I, J0⟩ ⟨I, J0⟩)) ?_
 have ⟨v12, hv12, h⟩ := Z1a h
 refine Z1 I (Z1d (ar := [(.ag [(.int .i64 v10.1), (.int .i64 v10.2.1), (.sl 2 (v10.2.2.1.map Zj) false), (.sl 4 (v10.2.2.2.2.2.map Zh) false), (.sl 5 (v10.2.2.2.2.1.map Zk) false), (.sl 3 (v10.2.2.2.1.map Zp) false)])]) Try.call38 (F38_ok K (⟨(⟨v10.1, v10.2.1, v10.2.2.1⟩ : Z29), v10.2.2.2.2.2, v10.2.2.2.2.1, v10.2.2.2.1⟩ : Ze) v12 hv12) I I ⟨I, J0⟩ I) I <| Z1 I (Zd I I) I <| Z7 <| Z8 <| Zb <| Zb <| Z5 <| Z1 I (Z1n I a34 I I I I) I ?_
 have ⟨v14, hv14, h⟩ := Z1a h
 refine Z1 I (Z1d (ar := [(.ag [(.int .i64 v10.1), (.int .i64 v10.2.1), (.sl 2 (v10.2.2.1.map Zj) false), (.sl 4 (v10.2.2.2.2.2.map Zh) false), (.sl 5 (v10.2.2.2.2.1.map Zk) false), (.sl 3 (v10.2.2.2.1.map Zp) false)])]) Try.call39 (F39_ok K (⟨(⟨v10.1, v10.2.1, v10.2.2.1⟩ : Z29), v10.2.2.2.2.2, v10.2.2.2.2.1, v10.2.2.2.1⟩ : Ze) v14 hv14) I I ⟨I, J0⟩ I) I <| Z1 I (Z9 I I) I <| Z1 I (Z1c (c := (v14 != v12)) I I I I) I <| Z7 <| Z8 ?_
 have hif := Z1h h
 refine Zq I (fun hc => ?_) (fun hc => ?_)
 ·have h := hif.1 hc
  refine Zb <| Z5 <| Z1 I (Zd (v := (.bool false)) I I) I <| Z7 <| Z8 <| Z1e <| Zx ?_
  have h := Option.some.inj h
  subst h
  refine (hret _ ?_).1
  exact ⟨[(.bool false)], ⟨I, J0⟩, I, J0⟩
 have h := hif.2 hc
 refine Z14 <| Z8 <| Zb <| Zb <| Z5 <| Z1 I (Z9 I I) I <| Z1 I (Z1c (b := 0) (c := (v12 == 0)) I I I I) I <| Z7 <| Z8 ?_
 have hif := Z1h h
 refine Zq I (fun hc => ?_) (fun hc => ?_)
 ·have h := hif.1 hc
  refine Zb <| Z5 <| Z1 I (Zd (v := (.bool true)) I I) I <| Z7 <| Z8 <| Z1e <| Zx ?_
  have h := Option.some.inj h
  subst h
  refine (hret _ ?_).1
  exact ⟨[(.bool true)], ⟨I, J0⟩, I, J0⟩
 have h := hif.2 hc
 refine Z14 <| Z8 <| Zb <| Z5 <| Z1 I (Z1n I a34 I I I I) I ?_
 have ⟨v16, hv16, h⟩ := Z1a h
 refine Z1 I (Z1d (ar := [(.ag [(.int .i64 v10.1), (.int .i64 v10.2.1), (.sl 2 (v10.2.2.1.map Zj) false), (.sl 4 (v10.2.2.2.2.2.map Zh) false), (.sl 5 (v10.2.2.2.2.1.map Zk) false), (.sl 3 (v10.2.2.2.1.map Zp) false)]), (.int .i64 10)]) Try.call27 (F27_ok K (⟨(⟨v10.1, v10.2.1, v10.2.2.1⟩ : Z29), v10.2.2.2.2.2, v10.2.2.2.2.1, v10.2.2.2.1⟩ : Ze) 10 v16 hv16) I I ⟨I, I, J0⟩ I) I <| Z1 I (Z9 I I) I <| Z1 I (Z20 I I I) I <| Z1 I (Z20 I I I) I <| Z1 I (Zd I I) I <| Z1 I (Zd I I) I <| Z7 <| Z8 <| Zb <| Z5 <| Z1 I (Z1n I a34 I I I I) I ?_
 have ⟨v18, hv18, h⟩ := Z1a h
 refine Z1 I (Z1d (ar := [(.ag [(.int .i64 v10.1), (.int .i64 v10.2.1), (.sl 2 (v10.2.2.1.map Zj) false), (.sl 4 (v10.2.2.2.2.2.map Zh) false), (.sl 5 (v10.2.2.2.2.1.map Zk) false), (.sl 3 (v10.2.2.2.1.map Zp) false)]), (.int .i64 10)]) Try.call34 (F34_ok K (⟨(⟨v10.1, v10.2.1, v10.2.2.1⟩ : Z29), v10.2.2.2.2.2, v10.2.2.2.2.1, v10.2.2.2.1⟩ : Ze) 10 v18 hv18) I I ⟨I, I, J0⟩ I) I <| Z1 I (Z9 I I) I <| Z1 I (Z20 I I I) I <| Z1 I (Z20 I I I) I <| Z1 I (Z20 I I I) I <| Z1 I (Z1x I z60 I I I) I <| Z1 I (Z1f sz60 I I I I I I I I) I <| Z1 I (Zd I I) I <| Z1 I (Zd I I) I <| Z7 <| Z8 <| Zb <| Z5 <| Z1 I (Z1n I a34 I I I I) I ?_
 have ⟨v20, hv20, h⟩ := Z1a h
 refine Z1 I (Z1d (ar := [(.ag [(.int .i64 v10.1), (.int .i64 v10.2.1), (.sl 2 (v10.2.2.1.map Zj) false), (.sl 4 (v10.2.2.2.2.2.map Zh) false), (.sl 5 (v10.2.2.2.2.1.map Zk) false), (.sl 3 (v10.2.2.2.1.map Zp) false)]), (.str []), (.int .i64 10)]) Try.call35 (F35_ok K (⟨(⟨v10.1, v10.2.1, v10.2.2.1⟩ : Z29), v10.2.2.2.2.2, v10.2.2.2.2.1, v10.2.2.2.1⟩ : Ze) [] 10 v20 hv20) I I ⟨I, I, I, J0⟩ I) I <| Z1 I (Z9 I I) I <| Z1 I (Z20 I I I) I <| Z1 I (Z20 I I I) I <| Z1 I (Z1x I z76 I I I) I <| Z1 I (Z1f sz76 I I I I I I I I) I <| Z1 I (Zd I I) I <| Z7 <| Z8 <| Zb ?_
 refine Z21 (V := Bool) (lp := fun v => F12_j22 K v = some r) (sh := fun v => ⟨[(4, (.bool v))], []⟩) ?_ ?_
 ·intro v h
  revert h
  revert v
  intro v21 h
  try dsimp only at h ⊢
  unfold F12_j22 at h
  refine Z8 <| Z1e ?_
  have h := Option.some.inj h
  subst h
  refine (hret _ ?_).1
  exact ⟨[(.bool v21)], ⟨I, J0⟩, I, J0⟩
 intro J22
 refine Z5 <| Z1 I (Z9 I I) I <| Z1 I (Z24 (l := v16.1) (enc := Z3) I s50 I) I <| Z1 I (Z1c (b := 0) (c := ((v16.1.length : Int) == 0)) I I I I) I <| Z1 I (Z9 I I) I ?_
 have hif := Z1h h
 refine Z16 (fun hc => ?_) (fun hc => ?_)
 ·have h := hif.1 hc
  refine Zc I I I I (Z9 I I) I <| Zc I I I I (Z9 I I) I <| Zc I I I I (Z1c (c := (v16.2 == v12)) I I I I) I <| Z1 I (Z19 I I I) I <| Z1 I (Z9 I I) I ?_
  have hif := Z1h h
  refine Z16 (fun hc => ?_) (fun hc => ?_)
  ·have h := hif.1 hc
   refine Zc I I I I (Z9 I I) I <| Zc I I I I (Z2c I I) I <| Z1 I (Z19 I I I) I <| Z1 I (Z9 I I) I ?_
   have hif := Z1h h
   refine Z16 (fun hc => ?_) (fun hc => ?_)
   ·have h := hif.1 hc
    refine Zc I I I I (Z9 I I) I <| Zc I I I I (Z9 I I) I <| Zc I I I I (Z1c (c := (v18.2.2 == v12)) I I I I) I <| Z1 I (Z19 I I I) I <| Z1 I (Z9 I I) I ?_
    have hif := Z1h h
    refine Z16 (fun hc => ?_) (fun hc => ?_)
    ·have h := hif.1 hc
     refine Zc I I I I (Z1n I a76 I I I I) I <| Zc I I I I (Z23 (vs := []) I st76 J0 I) I <| Zc I I I I (st_cmpA (xs := (Z2f v20.1).cells) (ys := [(.bool false), (.int .i64 0), (.int .i64 0), (.bool false)]) (b := ((v20.1.Active == false) && ((v20.1.Since == 0) && ((v20.1.Steps == 0) && ((v20.1.Acked == false) && true))))) (c := ((v20.1.Active == false) && ((v20.1.Since == 0) && ((v20.1.Steps == 0) && ((v20.1.Acked == false) && true))))) I eq76 I I I I) I <| Z1 I (Z19 I I I) I <| Z1 I (Z9 I I) I ?_
     have hif := Z1h h
     refine Z16 (fun hc => ?_) (fun hc => ?_)
     ·have h := hif.1 hc
      refine Zc I I I I (Z9 I I) I <| Zc I I I I (Z9 I I) I <| Zc I I I I (Z1c (c := (v20.2 == v12)) I I I I) I <| Z1 I (Z19 I I I) I <| Z1 I (Zd I I) I <| Z7 ?_
      exact Zz (J22 (v20.2 == v12) h) ⟨I, J0⟩ trivial
     have h := hif.2 hc
     refine Zg I I I I I I I <| Zg I I I I I I I <| Zg I I I I I I I <| Z1 I (Zy (v := (.bool false)) I I I) I <| Z1 I (Zd (v := (.bool false)) I I) I <| Z7 ?_
     exact Zz (J22 false h) ⟨I, J0⟩ trivial
    have h := hif.2 hc
    refine Zg I I I I I I I <| Zg I I I I I I I <| Zg I I I I I I I <| Z1 I (Zy (v := (.bool false)) I I I) I <| Z1 I (Z9 (v := (.bool false)) I I) I <| Zg I I I I I I I <| Zg I I I I I I I <| Zg I I I I I I I <| Z1 I (Zy (v := (.bool false)) I I I) I <| Z1 I (Zd (v := (.bool false)) I I) I <| Z7 ?_
    exact Zz (J22 false h) ⟨I, J0⟩ trivial
   have h := hif.2 hc
   refine Zg I I I I I I I <| Zg I I I I I I I <| Zg I I I I I I I <| Z1 I (Zy (v := (.bool false)) I I I) I <| Z1 I (Z9 (v := (.bool false)) I I) I <| Zg I I I I I I I <| Zg I I I I I I I <| Zg I I I I I I I <| Z1 I (Zy (v := (.bool false)) I I I) I <| Z1 I (Z9 (v := (.bool false)) I I) I <| Zg I I I I I I I <| Zg I I I I I I I <| Zg I I I I I I I <| Z1 I (Zy (v := (.bool false)) I I I) I <| Z1 I (Zd (v := (.bool false)) I I) I <| Z7 ?_
   exact Zz (J22 false h) ⟨I, J0⟩ trivial
  have h := hif.2 hc
  refine Zg I I I I I I I <| Zg I I I I I I I <| Z1 I (Zy (v := (.bool false)) I I I) I <| Z1 I (Z9 (v := (.bool false)) I I) I <| Zg I I I I I I I <| Zg I I I I I I I <| Zg I I I I I I I <| Z1 I (Zy (v := (.bool false)) I I I) I <| Z1 I (Z9 (v := (.bool false)) I I) I <| Zg I I I I I I I <| Zg I I I I I I I <| Zg I I I I I I I <| Z1 I (Zy (v := (.bool false)) I I I) I <| Z1 I (Z9 (v := (.bool false)) I I) I <| Zg I I I I I I I <| Zg I I I I I I I <| Zg I I I I I I I <| Z1 I (Zy (v := (.bool false)) I I I) I <| Z1 I (Zd (v := (.bool false)) I I) I <| Z7 ?_
  exact Zz (J22 false h) ⟨I, J0⟩ trivial
 have h := hif.2 hc
 refine Zg I I I I I I I <| Zg I I I I I I I <| Zg I I I I I I I <| Z1 I (Zy (v := (.bool false)) I I I) I <| Z1 I (Z9 (v := (.bool false)) I I) I <| Zg I I I I I I I <| Zg I I I I I I I <| Z1 I (Zy (v := (.bool false)) I I I) I <| Z1 I (Z9 (v := (.bool false)) I I) I <| Zg I I I I I I I <| Zg I I I I I I I <| Zg I I I I I I I <| Z1 I (Zy (v := (.bool false)) I I I) I <| Z1 I (Z9 (v := (.bool false)) I I) I <| Zg I I I I I I I <| Zg I I I I I I I <| Zg I I I I I I I <| Z1 I (Zy (v := (.bool false)) I I I) I <| Z1 I (Z9 (v := (.bool false)) I I) I <| Zg I I I I I I I <| Zg I I I I I I I <| Zg I I I I I I I <| Z1 I (Zy (v := (.bool false)) I I I) I <| Z1 I (Zd (v := (.bool false)) I I) I ?_
 refine Z7 ?_
 exact Zz (J22 false h) ⟨I, J0⟩ trivial
end Go.AM.Noti
