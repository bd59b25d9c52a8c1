/- What these functions compute, each with its walk: F18. -/
import Derived.Test.YtgikdjgdjogdmaaMsgT
namespace Go.AM.Msg
open Go Go.AM Go.Proofs
set_option maxRecDepth 100000
set_option maxHeartbeats 2000000
def F18_c3 (K : Nat) : Option (Bool) :=
 some true
def F18_l2 (K : Nat) (a0 : (List Z8)) (a1 : (List Z8)) (c4 : Option (Bool)) : Nat → Int → Option (Bool)
 | 0, _ => none
 | k2 + 1, v1 =>
  if (decide (v1 < (a0.length : Int))) = true then
   if (0 : Int) ≤ v1 ∧ v1 < a0.length then
    if (0 : Int) ≤ v1 ∧ v1 < a1.length then
     if (!(((a0.getD v1.toNat Z4).Kind == (a1.getD v1.toNat Z4).Kind) && (((a0.getD v1.toNat Z4).A.Trace == (a1.getD v1.toNat Z4).A.Trace) && (((a0.getD v1.toNat Z4).A.Id == (a1.getD v1.toNat Z4).A.Id) && (((a0.getD v1.toNat Z4).B.Trace == (a1.getD v1.toNat Z4).B.Trace) && (((a0.getD v1.toNat Z4).B.Id == (a1.getD v1.toNat Z4).B.Id) && (((a0.getD v1.toNat Z4).From == (a1.getD v1.toNat Z4).From) && (((a0.getD v1.toNat Z4).To == (a1.getD v1.toNat Z4).To) && (((a0.getD v1.toNat Z4).Sent == (a1.getD v1.toNat Z4).Sent) && (((a0.getD v1.toNat Z4).Received == (a1.getD v1.toNat Z4).Received) && (((a0.getD v1.toNat Z4).Least == (a1.getD v1.toNat Z4).Least) && true))))))))))) = true then
      some false
     else
      (F18_l2 K a0 a1 c4 k2) (IntKind.i64.wrap (v1 + 1))
    else none
   else none
  else
   c4
def F18 (K : Nat) (a0 : (List Z8)) (a1 : (List Z8)) : Option (Bool) :=
 if ((a0.length : Int) != (a1.length : Int)) = true then
  some false
 else
  F18_l2 K a0 a1 (F18_c3 K) K 0
theorem F18_ok (K : Nat) (a0 : (List Z8)) (a1 : (List Z8)) (r : Bool) (h : F18 K a0 a1 = some r) : ACall P 18 ⟨[(.sl 10 (a0.map Z3) false), (.sl 10 (a1.map Z3) false)], [], (.bool r), [], []⟩ := by
 refine Z1q Try.func18 Try.results18 rfl Try.ntmps18 rfl rfl rfl ?_
 intro E Q hP hN hro hret
 obtain ⟨P', nt', w0, F0, p0, S0, β0, ro0⟩ := E
 simp only at hP hN
 subst hP hN
 dsimp only [argT]
 unfold F18 at h
 refine Zf <| Zb <| Z2 I (Zi (v := (.bool false)) I I) I <| Zd <| Ze <| Zf <| Zf <| Zb ?_
 refine Z2 I (Zh (v := (.sl 10 (a0.map Z3) false)) I I) I <| Z2 I (stx_len (l := a0) (enc := Z3) I s29 I) I <| Z2 I (Zh (v := (.sl 10 (a1.map Z3) false)) I I) I <| Z2 I (stx_len (l := a1) (enc := Z3) I s29 I) I <| Z2 I (Z1k (k := .i64) (a := (a0.length : Int)) (b := (a1.length : Int)) (c := ((a0.length : Int) != (a1.length : Int))) I I I I) I <| Zd <| Ze ?_
 have hif := Z1u h
 refine Z12 I (fun hc => ?_) (fun hc => ?_)
 ·have h := hif.1 hc
  refine Zf <| Zb <| Z2 I (Zi (v := (.bool false)) I I) I <| Zd <| Ze <| Z1d <| Z1i ?_
  have h := Option.some.inj h
  subst h
  refine (hret _ ?_).1
  exact ⟨[(.bool false)], ⟨rfl, trivial⟩, rfl, trivial⟩
 ·have h := hif.2 hc
  refine Z14 <| Ze <| Zf <| Zf <| Zb <| Z2 I (Zi (v := (.int .i64 0)) I I) I <| Zd <| Ze ?_
  refine Z1s (st' := ⟨[(0, (.sl 10 (a0.map Z3) false)), (1, (.sl 10 (a1.map Z3) false)), (5, (.int .i64 0))], []⟩) ⟨rfl, rfl, rfl, trivial⟩ trivial ?_
  refine Z1h (V := Int) (X := Unit) (lp := fun k v => F18_l2 K a0 a1 (F18_c3 K) k v = some r) (sh := fun v => ⟨[(0, (.sl 10 (a0.map Z3) false)), (1, (.sl 10 (a1.map Z3) false)), (5, (.int .i64 v))], []⟩) (x := fun v => F18_c3 K = some r) (shx := fun v => ⟨[], []⟩) (k := K) (v := 0) h ?_ ?_
  ·intro v h
   try dsimp only at h ⊢
   unfold F18_c3 at h
   refine Ze <| Zf <| Zb <| Z2 I (Zi (v := (.bool true)) I I) I <| Zd <| Ze <| Z1d ?_
   have h := Option.some.inj h
   subst h
   refine (hret _ ?_).1
   exact ⟨[(.bool true)], ⟨rfl, trivial⟩, rfl, trivial⟩
  ·intro N k2 v h IH2 J2
   revert h
   revert v
   intro v1 h
   try dsimp only at h IH2 J2 ⊢
   cases k2 with
   | zero => cases h
   | succ k2 =>
    rw [F18_l2] at h
    refine Zf <| Zf <| Zb <| Z2 I (Zh (v := (.int .i64 v1)) I I) I <| Z2 I (Zh (v := (.sl 10 (a0.map Z3) false)) I I) I <| Z2 I (stx_len (l := a0) (enc := Z3) I s29 I) I <| Z2 I (Z1k (k := .i64) (a := v1) (b := (a0.length : Int)) (c := (decide (v1 < (a0.length : Int)))) I I I I) I <| Zd ?_
    refine Ze ?_
    have hif := Z1u h
    refine Z12 I (fun hc => ?_) (fun hc => ?_)
    ·have h := hif.1 hc
     refine Z14 <| Ze <| Zf <| AWp.block <| Zf <| Z1n mixed <| Z9 0 I (Zh (v := (.sl 10 (a0.map Z3) false)) I I) <| Z9 1 I (Zh (v := (.int .i64 v1)) I I) ?_
     have ⟨hg6, h⟩ := Zu h
     refine Z9 2 I (Z1p (k := .i64) (l := a0) (enc := Z3) (z := Z4) (n := v1) (cs := (Z3 (a0.getD v1.toNat Z4)).cells) (full := false) I s29 I I hg6 I) <| Z9 3 I (st_loadIA (cs := (Z3 (a0.getD v1.toNat Z4)).cells) (vs := (Z3 (a0.getD v1.toNat Z4)).cells) I a25 I I I) <| Z9 4 I (Zh (v := (.sl 10 (a1.map Z3) false)) I I) <| Z9 5 I (Zh (v := (.int .i64 v1)) I I) ?_
     have ⟨hg7, h⟩ := Zu h
     refine Z9 6 I (Z1p (k := .i64) (l := a1) (enc := Z3) (z := Z4) (n := v1) (cs := (Z3 (a1.getD v1.toNat Z4)).cells) (full := false) I s29 I I hg7 I) <| Z9 7 I (st_loadIA (cs := (Z3 (a1.getD v1.toNat Z4)).cells) (vs := (Z3 (a1.getD v1.toNat Z4)).cells) I a25 I I I) <| Z9 8 I (st_cmpA (xs := (Z3 (a0.getD v1.toNat Z4)).cells) (ys := (Z3 (a1.getD v1.toNat Z4)).cells) (b := (((a0.getD v1.toNat Z4).Kind == (a1.getD v1.toNat Z4).Kind) && (((a0.getD v1.toNat Z4).A.Trace == (a1.getD v1.toNat Z4).A.Trace) && (((a0.getD v1.toNat Z4).A.Id == (a1.getD v1.toNat Z4).A.Id) && (((a0.getD v1.toNat Z4).B.Trace == (a1.getD v1.toNat Z4).B.Trace) && (((a0.getD v1.toNat Z4).B.Id == (a1.getD v1.toNat Z4).B.Id) && (((a0.getD v1.toNat Z4).From == (a1.getD v1.toNat Z4).From) && (((a0.getD v1.toNat Z4).To == (a1.getD v1.toNat Z4).To) && (((a0.getD v1.toNat Z4).Sent == (a1.getD v1.toNat Z4).Sent) && (((a0.getD v1.toNat Z4).Received == (a1.getD v1.toNat Z4).Received) && (((a0.getD v1.toNat Z4).Least == (a1.getD v1.toNat Z4).Least) && true))))))))))) (c := (!(((a0.getD v1.toNat Z4).Kind == (a1.getD v1.toNat Z4).Kind) && (((a0.getD v1.toNat Z4).A.Trace == (a1.getD v1.toNat Z4).A.Trace) && (((a0.getD v1.toNat Z4).A.Id == (a1.getD v1.toNat Z4).A.Id) && (((a0.getD v1.toNat Z4).B.Trace == (a1.getD v1.toNat Z4).B.Trace) && (((a0.getD v1.toNat Z4).B.Id == (a1.getD v1.toNat Z4).B.Id) && (((a0.getD v1.toNat Z4).From == (a1.getD v1.toNat Z4).From) && (((a0.getD v1.toNat Z4).To == (a1.getD v1.toNat Z4).To) && (((a0.getD v1.toNat Z4).Sent == (a1.getD v1.toNat Z4).Sent) && (((a0.getD v1.toNat Z4).Received == (a1.getD v1.toNat Z4).Received) && (((a0.getD v1.toNat Z4).Least == (a1.getD v1.toNat Z4).Least) && true)))))))))))) I eq25 I I I I) <| Z1l (by kernel_rfl) I <| Ze ?_
     have hif := Z1u h
     refine Z12 I (fun hc => ?_) (fun hc => ?_)
     ·have h := hif.1 hc
      refine Zf <| Zb <| Z2 I (Zi (v := (.bool false)) I I) I <| Zd <| Ze <| Z1d <| At.overR <| Z1i ?_
      refine Z1i (At.overR ?_)
      refine Z1i ?_
      have h := Option.some.inj h
      subst h
      refine (hret _ ?_).1
      exact ⟨[(.bool false)], ⟨rfl, trivial⟩, rfl, trivial⟩
     ·have h := hif.2 hc
      refine Z14 <| At.end <| Ze <| Zb <| Z2 I (Zh (v := (.int .i64 v1)) I I) I <| Z2 I (Z1a (k := .i64) (a := v1) (b := 1) (c := (IntKind.i64.wrap (v1 + 1))) I I I I) I <| Z2 I (Zi (v := (.int .i64 (IntKind.i64.wrap (v1 + 1)))) I I) I <| Zd ?_
      exact Zw (st' := ⟨[(0, (.sl 10 (a0.map Z3) false)), (1, (.sl 10 (a1.map Z3) false)), (5, (.int .i64 (IntKind.i64.wrap (v1 + 1))))], []⟩) ⟨rfl, rfl, rfl, trivial⟩ trivial (IH2 _ (IntKind.i64.wrap (v1 + 1)) (Nat.lt_succ_self _) h)
    ·have h := hif.2 hc
     refine AWp.exit <| At.thru ?_
     exact Zw (st' := ⟨[], []⟩) trivial trivial (J2 () h)
end Go.AM.Msg
