/- What these functions compute, each with its walk: F61. -/
import Derived.Test.YtmdglfmfefmpkaaNotiT
namespace Go.AM.Noti
open Go Go.AM Go.Proofs
set_option maxRecDepth 100000
set_option maxHeartbeats 2000000
def F61_c3 (_K : Nat) : Option (Bool) :=
 some false
def F61_j8 (_K : Nat) (b5 : Int → Option (Bool)) (v1 : Int) (v7 : Bool) : Option (Bool) :=
 if v7 = true then
 some true
 else
 b5 (IntKind.i64.wrap (v1 + 1))
def F61_l2 (K : Nat) (a0 : Ze) (a1 : Str) (a2 : Int) (a3 : Int) (c4 : Option (Bool)) : Nat → Int → Option (Bool)
 | 0, _ => none
 | k2 + 1, v1 =>
 if (decide (v1 < (a0.Acks.length : Int))) = true then
 if (0 : Int) ≤ v1 ∧ v1 < a0.Acks.length then
 if ((a0.Acks.getD v1.toNat Z1q).Group == a1) = true then
 if (decide ((a0.Acks.getD v1.toNat Z1q).At ≥ a2)) = true then
 F61_j8 K (F61_l2 K a0 a1 a2 a3 c4 k2) v1 (decide ((a0.Acks.getD v1.toNat Z1q).At ≤ a3))
 else
 F61_j8 K (F61_l2 K a0 a1 a2 a3 c4 k2) v1 false
 else
 F61_j8 K (F61_l2 K a0 a1 a2 a3 c4 k2) v1 false
 else none
 else
 c4
def F61 (K : Nat) (a0 : Ze) (a1 : Str) (a2 : Int) (a3 : Int) : Option (Bool) :=
 F61_l2 K a0 a1 a2 a3 (F61_c3 K) K 0
theorem F61_ok (K : Nat) (a0 : Ze) (a1 : Str) (a2 : Int) (a3 : Int) (r : Bool) (h : F61 K a0 a1 a2 a3 = some r) : ACall P 61 ⟨[(Zf a0), (.str a1), (.int .i64 a2), (.int .i64 a3)], [], (.bool r), [], []⟩ := by
 refine Z1v Try.func61 Try.results61 rfl Try.ntmps61 rfl rfl rfl ?_
 intro E Q hP hN hro hret
 obtain ⟨P', nt', w0, F0, p0, S0, β0, ro0⟩ := E
 simp only at hP hN
 subst hP hN
 dsimp only [argT]
 unfold F61 at h
 refine Zb <| Z5 <| Z1 I (Z2r I I I I I) I <| Z1 I (Zd (v := (.bool false)) I I) I <| Z7 <| Z8 <| Zb <| Zb <| Z5 <| Z1 I (Zd (v := (.int .i64 0)) I I) I <| Z7 <| Z8 <| Z1r (st' := ⟨[(1, (.str a1)), (2, (.int .i64 a2)), (3, (.int .i64 a3)), (4, (.ptr 4 0)), (9, (.int .i64 0))], [(4, (.box (Zf a0).cells))]⟩) ⟨I, I, I, I, I, J0⟩ ⟨I, J0⟩ ?_
 refine Z1o (V := Int) (X := Unit) (lp := fun k v => F61_l2 K a0 a1 a2 a3 (F61_c3 K) k v = some r) (sh := fun v => ⟨[(1, (.str a1)), (2, (.int .i64 a2)), (3, (.int .i64 a3)), (4, (.ptr 4 0)), (9, (.int .i64 v))], [(4, (.box (Zf a0).cells))]⟩) (x := fun v => F61_c3 K = some r) (shx := fun v => ⟨[], []⟩) (k := K) (v := 0) h ?_ ?_
 ·intro v h
  try dsimp only at h ⊢
  unfold F61_c3 at h
  refine Z8 <| Zb <| Z5 <| Z1 I (Zd (v := (.bool false)) I I) I <| Z7 <| Z8 <| Z1e ?_
  have h := Option.some.inj h
  subst h
  refine (hret _ ?_).1
  exact ⟨[(.bool false)], ⟨I, J0⟩, I, J0⟩
 intro N k2 v h IH2 J2
 revert h
 revert v
 intro v1 h
 try dsimp only at h IH2 J2 ⊢
 cases k2 with
 | zero => cases h
 | succ k2 =>
  rw [F61_l2] at h
  refine Zb <| Zb <| Z5 <| Z1 I (Z9 I I) I <| Z1 I (Zm I f34_3 I I) I <| Z1 I (Zs I o32 I I I) I <| Z1 I (Z24 (l := a0.Acks) (enc := Zp) I s32 I) I <| Z1 I (Z1c (c := (decide (v1 < (a0.Acks.length : Int)))) I I I I) I <| Z7 <| Z8 ?_
  have hif := Z1h h
  refine Zq I (fun hc => ?_) (fun hc => ?_)
  ·have h := hif.1 hc
   refine Z14 <| Z8 <| Zb <| Z1t <| Zb <| Z5 <| Z1 I (Zm I f34_3 I I) I <| Z1 I (Zs I o32 I I I) I <| Z1 I (Z9 I I) I ?_
   have ⟨hg6, h⟩ := Zw h
   refine Z1 I (Z1s (k := .i64) (l := a0.Acks) (enc := Zp) (z := Z1q) (n := v1) (full := false) I s32 I I hg6 I) I <| Z1 I (Z28 I a63 I I I) I <| Z1 I (Z1x I z63 I I I) I <| Z1 I (Z1f sz63 I I I I I I I I) I <| Z7 <| Z8 <| Zb ?_
   refine Z21 (V := Bool) (lp := fun v => F61_j8 K (F61_l2 K a0 a1 a2 a3 (F61_c3 K) k2) v1 v = some r) (sh := fun v => ⟨[(1, (.str a1)), (2, (.int .i64 a2)), (3, (.int .i64 a3)), (4, (.ptr 4 0)), (9, (.int .i64 v1)), (38, (.bool v))], [(4, (.box (Zf a0).cells))]⟩) ?_ ?_
   ·intro v h
    revert h
    revert v
    intro v7 h
    try dsimp only at h ⊢
    unfold F61_j8 at h
    refine Z8 ?_
    have hif := Z1h h
    refine Zq I (fun hc => ?_) (fun hc => ?_)
    ·have h := hif.1 hc
     refine Zb <| Z5 <| Z1 I (Zd (v := (.bool true)) I I) I <| Z7 <| Z8 <| Z1e <| Z18 <| Zx ?_
     refine Zx (Z18 ?_)
     refine Zx ?_
     have h := Option.some.inj h
     subst h
     refine (hret _ ?_).1
     exact ⟨[(.bool true)], ⟨I, J0⟩, I, J0⟩
    have h := hif.2 hc
    refine Z14 <| Z27 <| Z8 <| Z5 <| Z1 I (Z9 I I) I <| Z1 I (Z1p (k := .i64) (b := 1) (c := (IntKind.i64.wrap (v1 + 1))) I I I I) I <| Z1 I (Zd I I) I <| Z7 ?_
    exact Zz (IH2 _ (IntKind.i64.wrap (v1 + 1)) (Nat.lt_succ_self _) h) ⟨I, I, I, I, I, J0⟩ ⟨I, J0⟩
   intro J8
   refine Z5 <| Z1 I (Zm I f63_0 I I) I <| Z1 I (Zs I o9 I I I) I <| Z1 I (Z9 I I) I <| Z1 I (Z2z (c := ((a0.Acks.getD v1.toNat Z1q).Group == a1)) I I I I) I <| Z1 I (Z9 I I) I ?_
   have hif := Z1h h
   refine Z16 (fun hc => ?_) (fun hc => ?_)
   ·have h := hif.1 hc
    refine Zc I I I I (Zm I f63_2 I I) I <| Zc I I I I (Zs I o3 I I I) I <| Zc I I I I (Z9 I I) I <| Zc I I I I (Z1c (c := (decide ((a0.Acks.getD v1.toNat Z1q).At ≥ a2))) I I I I) I <| Z1 I (Z19 I I I) I <| Z1 I (Z9 I I) I ?_
    have hif := Z1h h
    refine Z16 (fun hc => ?_) (fun hc => ?_)
    ·have h := hif.1 hc
     refine Zc I I I I (Zm I f63_2 I I) I <| Zc I I I I (Zs I o3 I I I) I <| Zc I I I I (Z9 I I) I <| Zc I I I I (Z1c (c := (decide ((a0.Acks.getD v1.toNat Z1q).At ≤ a3))) I I I I) I <| Z1 I (Z19 I I I) I <| Z7 ?_
     exact Zz (J8 (decide ((a0.Acks.getD v1.toNat Z1q).At ≤ a3)) h) ⟨I, I, I, I, I, I, J0⟩ ⟨I, J0⟩
    have h := hif.2 hc
    iterate 4 refine Zg I I I I I I I ?_
    refine Z1 I (Zy (v := (.bool false)) I I I) I <| Z7 ?_
    exact Zz (J8 false h) ⟨I, I, I, I, I, I, J0⟩ ⟨I, J0⟩
   have h := hif.2 hc
   iterate 4 refine Zg I I I I I I I ?_
   refine Z1 I (Zy (v := (.bool false)) I I I) I <| Z1 I (Z9 (v := (.bool false)) I I) I ?_
   iterate 4 refine Zg I I I I I I I ?_
   refine Z1 I (Zy (v := (.bool false)) I I I) I <| Z7 ?_
   exact Zz (J8 false h) ⟨I, I, I, I, I, I, J0⟩ ⟨I, J0⟩
  have h := hif.2 hc
  refine Z1u <| Z26 ?_
  exact Zz (J2 () h) J0 trivial
end Go.AM.Noti
