/- What these functions compute, each with its walk: F29. -/
import Derived.Test.YtmdglfmfefmpkaaNotiT
import Derived.Test.YtmdglfmfefmpkaaNotiG5
namespace Go.AM.Noti
open Go Go.AM Go.Proofs
set_option maxRecDepth 100000
set_option maxHeartbeats 2000000
def F29_c3 (_K : Nat) : Option (Bool) :=
 some true
def F29_l2 (K : Nat) (a0 : (List Z2)) (a1 : (List Z2)) (c4 : Option (Bool)) : Nat → Int → Option (Bool)
 | 0, _ => none
 | k2 + 1, v1 =>
 if (decide (v1 < (a0.length : Int))) = true then
 if (0 : Int) ≤ v1 ∧ v1 < a0.length then
 if (0 : Int) ≤ v1 ∧ v1 < a1.length then
 (F32 K (a0.getD v1.toNat Zi) (a1.getD v1.toNat Zi)).bind fun v9 =>
 if (!v9) = true then
 some false
 else
 (F29_l2 K a0 a1 c4 k2) (IntKind.i64.wrap (v1 + 1))
 else none
 else none
 else
 c4
def F29 (K : Nat) (a0 : (List Z2)) (a1 : (List Z2)) : Option (Bool) :=
 if ((a0.length : Int) != (a1.length : Int)) = true then
 some false
 else
 F29_l2 K a0 a1 (F29_c3 K) K 0
theorem F29_ok (K : Nat) (a0 : (List Z2)) (a1 : (List Z2)) (r : Bool) (h : F29 K a0 a1 = some r) : ACall P 29 ⟨[(.sl 5 (a0.map Z3) false), (.sl 5 (a1.map Z3) false)], [], (.bool r), [], []⟩ := by
 refine Z1v Try.func29 Try.results29 rfl Try.ntmps29 rfl rfl rfl ?_
 intro E Q hP hN hro hret
 obtain ⟨P', nt', w0, F0, p0, S0, β0, ro0⟩ := E
 simp only at hP hN
 subst hP hN
 dsimp only [argT]
 unfold F29 at h
 refine Zb <| Z5 <| Z1 I (Zd (v := (.bool false)) I I) I <| Z7 <| Z8 <| Zb <| Zb <| Z5 <| Z1 I (Z9 I I) I <| Z1 I (Z24 (l := a0) (enc := Z3) I s50 I) I <| Z1 I (Z9 I I) I <| Z1 I (Z24 (l := a1) (enc := Z3) I s50 I) I <| Z1 I (Z1c (c := ((a0.length : Int) != (a1.length : Int))) I I I I) I <| Z7 <| Z8 ?_
 have hif := Z1h h
 refine Zq I (fun hc => ?_) (fun hc => ?_)
 ·have h := hif.1 hc
  refine Zb <| Z5 <| Z1 I (Zd (v := (.bool false)) I I) I <| Z7 <| Z8 <| Z1e <| Zx ?_
  have h := Option.some.inj h
  subst h
  refine (hret _ ?_).1
  exact ⟨[(.bool false)], ⟨I, J0⟩, I, J0⟩
 have h := hif.2 hc
 refine Z14 <| Z8 <| Zb <| Zb <| Z5 <| Z1 I (Zd (v := (.int .i64 0)) I I) I <| Z7 <| Z8 <| Z1r (st' := ⟨[(0, (.sl 5 (a0.map Z3) false)), (1, (.sl 5 (a1.map Z3) false)), (5, (.int .i64 0))], []⟩) ⟨I, I, I, J0⟩ J0 ?_
 refine Z1o (V := Int) (X := Unit) (lp := fun k v => F29_l2 K a0 a1 (F29_c3 K) k v = some r) (sh := fun v => ⟨[(0, (.sl 5 (a0.map Z3) false)), (1, (.sl 5 (a1.map Z3) false)), (5, (.int .i64 v))], []⟩) (x := fun v => F29_c3 K = some r) (shx := fun v => ⟨[], []⟩) (k := K) (v := 0) h ?_ ?_
 ·intro v h
  try dsimp only at h ⊢
  unfold F29_c3 at h
  refine Z8 <| Zb <| Z5 <| Z1 I (Zd (v := (.bool true)) I I) I <| Z7 <| Z8 <| Z1e ?_
  have h := Option.some.inj h
  subst h
  refine (hret _ ?_).1
  exact ⟨[(.bool true)], ⟨I, J0⟩, I, J0⟩
 intro N k2 v h IH2 J2
 revert h
 revert v
 intro v1 h
 try dsimp only at h IH2 J2 ⊢
 cases k2 with
 | zero => cases h
 | succ k2 =>
  rw [F29_l2] at h
  refine Zb <| Zb <| Z5 <| Z1 I (Z9 I I) I <| Z1 I (Z9 I I) I <| Z1 I (Z24 (l := a0) (enc := Z3) I s50 I) I <| Z1 I (Z1c (c := (decide (v1 < (a0.length : Int)))) I I I I) I <| Z7 <| Z8 ?_
  have hif := Z1h h
  refine Zq I (fun hc => ?_) (fun hc => ?_)
  ·have h := hif.1 hc
   refine Z14 <| Z8 <| Zb <| Z1t <| Zb <| Z1y mixed <| Za 0 I (Z9 I I) <| Za 1 I (Z9 I I) ?_
   have ⟨hg6, h⟩ := Zw h
   refine Za 2 I (Z1s (k := .i64) (l := a0) (enc := Z3) (z := Zi) (n := v1) (full := false) I s50 I I hg6 I) <| Za 3 I (Z28 I a60 I I I) <| Za 4 I (Z9 I I) <| Za 5 I (Z9 I I) ?_
   have ⟨hg7, h⟩ := Zw h
   refine Za 6 I (Z1s (k := .i64) (l := a1) (enc := Z3) (z := Zi) (n := v1) (full := false) I s50 I I hg7 I) <| Za 7 I (Z28 I a60 I I I) ?_
   have ⟨v9, hv9, h⟩ := Z1a h
   refine Za 8 I (Z1d (ar := [(Z3 (a0.getD v1.toNat Zi)), (Z3 (a1.getD v1.toNat Zi))]) Try.call32 (F32_ok K (a0.getD v1.toNat Zi) (a1.getD v1.toNat Zi) v9 hv9) I I ⟨I, I, J0⟩ I) <| Za 9 I (Z2c I I) <| Z1z (by kernel_rfl) I <| Z8 ?_
   have hif := Z1h h
   refine Zq I (fun hc => ?_) (fun hc => ?_)
   ·have h := hif.1 hc
    refine Zb <| Z5 <| Z1 I (Zd (v := (.bool false)) I I) I <| Z7 <| Z8 <| Z1e <| Z18 <| Zx ?_
    refine Zx (Z18 ?_)
    refine Zx ?_
    have h := Option.some.inj h
    subst h
    refine (hret _ ?_).1
    exact ⟨[(.bool false)], ⟨I, J0⟩, I, J0⟩
   have h := hif.2 hc
   refine Z14 <| Z27 <| Z8 <| Z5 <| Z1 I (Z9 I I) I <| Z1 I (Z1p (k := .i64) (b := 1) (c := (IntKind.i64.wrap (v1 + 1))) I I I I) I <| Z1 I (Zd I I) I <| Z7 ?_
   exact Zz (IH2 _ (IntKind.i64.wrap (v1 + 1)) (Nat.lt_succ_self _) h) ⟨I, I, I, J0⟩ trivial
  have h := hif.2 hc
  refine Z1u <| Z26 ?_
  exact Zz (J2 () h) J0 trivial
end Go.AM.Noti
