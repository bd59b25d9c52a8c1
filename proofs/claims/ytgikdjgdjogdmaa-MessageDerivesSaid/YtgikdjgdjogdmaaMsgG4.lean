/- What these functions compute, each with its walk: F18. -/
import Derived.Test.YtgikdjgdjogdmaaMsgT
namespace Go.AM.Msg
open Go Go.AM Go.Proofs
set_option maxRecDepth 100000
set_option maxHeartbeats 2000000
def F18_c3 (K : Nat) : Option (Bool) :=
 some true
def F18_l2 (K : Nat) (a0 : (List Zb)) (a1 : (List Zb)) (c4 : Option (Bool)) : Nat → Int → Option (Bool)
 | 0, _ => none
 | k2 + 1, v1 =>
  if (decide (v1 < (a0.length : Int))) = true then
   if (0 : Int) ≤ v1 ∧ v1 < a0.length then
    if (0 : Int) ≤ v1 ∧ v1 < a1.length then
     if (!(((a0.getD v1.toNat Z8).Kind == (a1.getD v1.toNat Z8).Kind) && (((a0.getD v1.toNat Z8).A.Trace == (a1.getD v1.toNat Z8).A.Trace) && (((a0.getD v1.toNat Z8).A.Id == (a1.getD v1.toNat Z8).A.Id) && (((a0.getD v1.toNat Z8).B.Trace == (a1.getD v1.toNat Z8).B.Trace) && (((a0.getD v1.toNat Z8).B.Id == (a1.getD v1.toNat Z8).B.Id) && (((a0.getD v1.toNat Z8).From == (a1.getD v1.toNat Z8).From) && (((a0.getD v1.toNat Z8).To == (a1.getD v1.toNat Z8).To) && (((a0.getD v1.toNat Z8).Sent == (a1.getD v1.toNat Z8).Sent) && (((a0.getD v1.toNat Z8).Received == (a1.getD v1.toNat Z8).Received) && (((a0.getD v1.toNat Z8).Least == (a1.getD v1.toNat Z8).Least) && true))))))))))) = true then
      some false
     else
      (F18_l2 K a0 a1 c4 k2) (IntKind.i64.wrap (v1 + 1))
    else none
   else none
  else
   c4
def F18 (K : Nat) (a0 : (List Zb)) (a1 : (List Zb)) : Option (Bool) :=
 if ((a0.length : Int) != (a1.length : Int)) = true then
  some false
 else
  F18_l2 K a0 a1 (F18_c3 K) K 0
theorem F18_ok (K : Nat) (a0 : (List Zb)) (a1 : (List Zb)) (r : Bool) (h : F18 K a0 a1 = some r) : ACall P 18 ⟨[(.sl 10 (a0.map Z6) false), (.sl 10 (a1.map Z6) false)], [], (.bool r), [], []⟩ := by
 refine Z1t Try.func18 Try.results18 rfl Try.ntmps18 rfl rfl rfl ?_
 intro E Q hP hN hro hret
 obtain ⟨P', nt', w0, F0, p0, S0, β0, ro0⟩ := E
 simp only at hP hN
 subst hP hN
 dsimp only [argT]
 unfold F18 at h
 refine Zh <| Zc <| Z2 I (Zj (v := (.bool false)) I I) I <| Zf <| Zg <| Zh <| Zh <| Zc ?_
 refine Z2 I (Zi (v := (.sl 10 (a0.map Z6) false)) I I) I <| Z2 I (stx_len (l := a0) (enc := Z6) I s29 I) I <| Z2 I (Zi (v := (.sl 10 (a1.map Z6) false)) I I) I <| Z2 I (stx_len (l := a1) (enc := Z6) I s29 I) I <| Z2 I (Z1o (k := .i64) (a := (a0.length : Int)) (b := (a1.length : Int)) (c := ((a0.length : Int) != (a1.length : Int))) I I I I) I <| Zf <| Zg ?_
 have hif := Z1u h
 refine Z16 I (fun hc => ?_) (fun hc => ?_)
 ·have h := hif.1 hc
  refine Zh <| Zc <| Z2 I (Zj (v := (.bool false)) I I) I <| Zf <| Zg <| Z1e <| Z1i ?_
  have h := Option.some.inj h
  subst h
  refine (hret _ ?_).1
  exact ⟨[(.bool false)], ⟨rfl, trivial⟩, rfl, trivial⟩
 ·have h := hif.2 hc
  refine Z18 <| Zg <| Zh <| Zh <| Zc <| Z2 I (Zj (v := (.int .i64 0)) I I) I <| Zf <| Zg ?_
  refine Z1x (st' := ⟨[(0, (.sl 10 (a0.map Z6) false)), (1, (.sl 10 (a1.map Z6) false)), (5, (.int .i64 0))], []⟩) ⟨rfl, rfl, rfl, trivial⟩ trivial ?_
  refine Z1j (V := Int) (X := Unit) (lp := fun k v => F18_l2 K a0 a1 (F18_c3 K) k v = some r) (sh := fun v => ⟨[(0, (.sl 10 (a0.map Z6) false)), (1, (.sl 10 (a1.map Z6) false)), (5, (.int .i64 v))], []⟩) (x := fun v => F18_c3 K = some r) (shx := fun v => ⟨[], []⟩) (k := K) (v := 0) h ?_ ?_
  ·intro v h
   try dsimp only at h ⊢
   unfold F18_c3 at h
   refine Zg <| Zh <| Zc <| Z2 I (Zj (v := (.bool true)) I I) I <| Zf <| Zg <| Z1e ?_
   have h := Option.some.inj h
   subst h
   refine (hret _ ?_).1
   exact ⟨[(.bool true)], ⟨rfl, trivial⟩, rfl, trivial⟩
  ·intro N k2 v h IH2 J2
   revert h
   revert v
   intro v1 h
   try dsimp only at h IH2 J2 ⊢
   cases k2 with
   | zero => cases h
   | succ k2 =>
    rw [F18_l2] at h
    refine Zh <| Zh <| Zc <| Z2 I (Zi (v := (.int .i64 v1)) I I) I <| Z2 I (Zi (v := (.sl 10 (a0.map Z6) false)) I I) I <| Z2 I (stx_len (l := a0) (enc := Z6) I s29 I) I <| Z2 I (Z1o (k := .i64) (a := v1) (b := (a0.length : Int)) (c := (decide (v1 < (a0.length : Int)))) I I I I) I <| Zf ?_
    refine Zg ?_
    have hif := Z1u h
    refine Z16 I (fun hc => ?_) (fun hc => ?_)
    ·have h := hif.1 hc
     refine Z18 <| Zg <| Zh <| AWp.block <| Zh <| Z1s mixed <| Z7 0 I (Zi (v := (.sl 10 (a0.map Z6) false)) I I) <| Z7 1 I (Zi (v := (.int .i64 v1)) I I) ?_
     have ⟨hg6, h⟩ := Z10 h
     refine Z7 2 I (Z1r (k := .i64) (l := a0) (enc := Z6) (z := Z8) (n := v1) (cs := (Z6 (a0.getD v1.toNat Z8)).cells) (full := false) I s29 I I hg6 I) <| Z7 3 I (st_loadIA (cs := (Z6 (a0.getD v1.toNat Z8)).cells) (vs := (Z6 (a0.getD v1.toNat Z8)).cells) I a25 I I I) <| Z7 4 I (Zi (v := (.sl 10 (a1.map Z6) false)) I I) <| Z7 5 I (Zi (v := (.int .i64 v1)) I I) ?_
     have ⟨hg7, h⟩ := Z10 h
     refine Z7 6 I (Z1r (k := .i64) (l := a1) (enc := Z6) (z := Z8) (n := v1) (cs := (Z6 (a1.getD v1.toNat Z8)).cells) (full := false) I s29 I I hg7 I) <| Z7 7 I (st_loadIA (cs := (Z6 (a1.getD v1.toNat Z8)).cells) (vs := (Z6 (a1.getD v1.toNat Z8)).cells) I a25 I I I) <| Z7 8 I (st_cmpA (xs := (Z6 (a0.getD v1.toNat Z8)).cells) (ys := (Z6 (a1.getD v1.toNat Z8)).cells) (b := (((a0.getD v1.toNat Z8).Kind == (a1.getD v1.toNat Z8).Kind) && (((a0.getD v1.toNat Z8).A.Trace == (a1.getD v1.toNat Z8).A.Trace) && (((a0.getD v1.toNat Z8).A.Id == (a1.getD v1.toNat Z8).A.Id) && (((a0.getD v1.toNat Z8).B.Trace == (a1.getD v1.toNat Z8).B.Trace) && (((a0.getD v1.toNat Z8).B.Id == (a1.getD v1.toNat Z8).B.Id) && (((a0.getD v1.toNat Z8).From == (a1.getD v1.toNat Z8).From) && (((a0.getD v1.toNat Z8).To == (a1.getD v1.toNat Z8).To) && (((a0.getD v1.toNat Z8).Sent == (a1.getD v1.toNat Z8).Sent) && (((a0.getD v1.toNat Z8).Received == (a1.getD v1.toNat Z8).Received) && (((a0.getD v1.toNat Z8).Least == (a1.getD v1.toNat Z8).Least) && true))))))))))) (c := (!(((a0.getD v1.toNat Z8).Kind == (a1.getD v1.toNat Z8).Kind) && (((a0.getD v1.toNat Z8).A.Trace == (a1.getD v1.toNat Z8).A.Trace) && (((a0.getD v1.toNat Z8).A.Id == (a1.getD v1.toNat Z8).A.Id) && (((a0.getD v1.toNat Z8).B.Trace == (a1.getD v1.toNat Z8).B.Trace) && (((a0.getD v1.toNat Z8).B.Id == (a1.getD v1.toNat Z8).B.Id) && (((a0.getD v1.toNat Z8).From == (a1.getD v1.toNat Z8).From) && (((a0.getD v1.toNat Z8).To == (a1.getD v1.toNat Z8).To) && (((a0.getD v1.toNat Z8).Sent == (a1.getD v1.toNat Z8).Sent) && (((a0.getD v1.toNat Z8).Received == (a1.getD v1.toNat Z8).Received) && (((a0.getD v1.toNat Z8).Least == (a1.getD v1.toNat Z8).Least) && true)))))))))))) I eq25 I I I I) <| Z1v (by kernel_rfl) I <| Zg ?_
     have hif := Z1u h
     refine Z16 I (fun hc => ?_) (fun hc => ?_)
     ·have h := hif.1 hc
      refine Zh <| Zc <| Z2 I (Zj (v := (.bool false)) I I) I <| Zf <| Zg <| Z1e <| At.overR <| Z1i ?_
      refine Z1i (At.overR ?_)
      refine Z1i ?_
      have h := Option.some.inj h
      subst h
      refine (hret _ ?_).1
      exact ⟨[(.bool false)], ⟨rfl, trivial⟩, rfl, trivial⟩
     ·have h := hif.2 hc
      refine Z18 <| At.end <| Zg <| Zc <| Z2 I (Zi (v := (.int .i64 v1)) I I) I <| Z2 I (Z1h (k := .i64) (a := v1) (b := 1) (c := (IntKind.i64.wrap (v1 + 1))) I I I I) I <| Z2 I (Zj (v := (.int .i64 (IntKind.i64.wrap (v1 + 1)))) I I) I <| Zf ?_
      exact Zw (st' := ⟨[(0, (.sl 10 (a0.map Z6) false)), (1, (.sl 10 (a1.map Z6) false)), (5, (.int .i64 (IntKind.i64.wrap (v1 + 1))))], []⟩) ⟨rfl, rfl, rfl, trivial⟩ trivial (IH2 _ (IntKind.i64.wrap (v1 + 1)) (Nat.lt_succ_self _) h)
    ·have h := hif.2 hc
     refine AWp.exit <| At.thru ?_
     exact Zw (st' := ⟨[], []⟩) trivial trivial (J2 () h)
end Go.AM.Msg
