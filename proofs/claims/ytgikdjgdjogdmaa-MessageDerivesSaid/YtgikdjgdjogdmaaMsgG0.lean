/- What these functions compute, each with its walk: F78, F51, F50, F52, F15, F53, F85, F104, F128, F102, F105, F130, F106, F107, F133, F132, F131, F108, F109, F86, F84, F87, F83, F72, F58, F74, F110, F111, F88, F73, F44, F55, F57, F19. -/
import Derived.Test.YtgikdjgdjogdmaaMsgT
namespace Go.AM.Msg
open Go Go.AM Go.Proofs
set_option maxRecDepth 100000
set_option maxHeartbeats 2000000
def F78 (K : Nat) (a0 : Int) : Option (Bool) :=
 some (a0 != a0)
theorem F78_ok (K : Nat) (a0 : Int) (r : Bool) (h : F78 K a0 = some r) : ACall P 78 ⟨[(.int .i64 a0)], [], (.bool r), [], []⟩ := by
 refine Z1t Try.func78 Try.results78 rfl Try.ntmps78 rfl rfl rfl ?_
 intro E Q hP hN hro hret
 obtain ⟨P', nt', w0, F0, p0, S0, β0, ro0⟩ := E
 simp only at hP hN
 subst hP hN
 dsimp only [argT]
 unfold F78 at h
 refine Zh <| Zc <| Z2 I (Zj (v := (.bool false)) I I) I <| Zf <| Zg <| Zh <| Zc <| Z2 I (Zi (v := (.int .i64 a0)) I I) I ?_
 refine Z2 I (Zi (v := (.int .i64 a0)) I I) I <| Z2 I (Z1o (k := .i64) (a := a0) (b := a0) (c := (a0 != a0)) I I I I) I <| Z2 I (Zj (v := (.bool (a0 != a0))) I I) I <| Zf <| Zg <| Z1e ?_
 have h := Option.some.inj h
 subst h
 refine (hret _ ?_).1
 exact ⟨[(.bool (a0 != a0))], ⟨rfl, trivial⟩, rfl, trivial⟩
def F51 (K : Nat) (a0 : Int) (a1 : Int) : Option (Int) :=
 (F78 K a0).bind fun v2 =>
  (F78 K a1).bind fun v4 =>
   if v2 = true then
    if v4 = true then
     some 0
    else
     some (Int.negSucc 0)
   else
    if v4 = true then
     some 1
    else
     if (decide (a0 < a1)) = true then
      some (Int.negSucc 0)
     else
      if (decide (a0 > a1)) = true then
       some 1
      else
       some 0
theorem F51_ok (K : Nat) (a0 : Int) (a1 : Int) (r : Int) (h : F51 K a0 a1 = some r) : ACall P 51 ⟨[(.int .i64 a0), (.int .i64 a1)], [], (.int .i64 r), [], []⟩ := by
 refine Z1t Try.func51 Try.results51 rfl Try.ntmps51 rfl rfl rfl ?_
 intro E Q hP hN hro hret
 obtain ⟨P', nt', w0, F0, p0, S0, β0, ro0⟩ := E
 simp only at hP hN
 subst hP hN
 dsimp only [argT]
 unfold F51 at h
 refine Zh <| Zc <| Z2 I (Zj (v := (.int .i64 0)) I I) I <| Zf <| Zg <| Zh <| Zc <| Z2 I (Zi (v := (.int .i64 a0)) I I) I ?_
 have ⟨v2, hv2, h⟩ := Z19 h
 refine Z2 I (Z17 (ar := [(.int .i64 a0)]) (caps := []) Try.call78 (F78_ok K a0 v2 hv2) I I ⟨rfl, trivial⟩ I) I <| Z2 I (Zj (v := (.bool v2)) I I) I <| Zf <| Zg <| Zh <| Zc <| Z2 I (Zi (v := (.int .i64 a1)) I I) I ?_
 have ⟨v4, hv4, h⟩ := Z19 h
 refine Z2 I (Z17 (ar := [(.int .i64 a1)]) (caps := []) Try.call78 (F78_ok K a1 v4 hv4) I I ⟨rfl, trivial⟩ I) I <| Z2 I (Zj (v := (.bool v4)) I I) I <| Zf <| Zg <| Zh <| Zh <| Zc <| Z2 I (Zi (v := (.bool v2)) I I) I ?_
 refine Zf <| Zg ?_
 have hif := Z1u h
 refine Z16 I (fun hc => ?_) (fun hc => ?_)
 ·have h := hif.1 hc
  refine Zh <| Zh <| Zc <| Z2 I (Zi (v := (.bool v4)) I I) I <| Zf <| Zg ?_
  have hif := Z1u h
  refine Z16 I (fun hc => ?_) (fun hc => ?_)
  ·have h := hif.1 hc
   refine Zh <| Zc <| Z2 I (Zj (v := (.int .i64 0)) I I) I <| Zf <| Zg <| Z1e <| Z1i <| Z1i ?_
   have h := Option.some.inj h
   subst h
   refine (hret _ ?_).1
   exact ⟨[(.int .i64 0)], ⟨rfl, trivial⟩, rfl, trivial⟩
  ·have h := hif.2 hc
   refine Z18 <| Zg <| Zh <| Zc <| Z2 I (Zj (v := (.int .i64 (Int.negSucc 0))) I I) I <| Zf <| Zg <| Z1e ?_
   refine Z1i ?_
   have h := Option.some.inj h
   subst h
   refine (hret _ ?_).1
   exact ⟨[(.int .i64 (Int.negSucc 0))], ⟨rfl, trivial⟩, rfl, trivial⟩
 ·have h := hif.2 hc
  refine Z18 <| Zg <| Zh <| Zh <| Zc <| Z2 I (Zi (v := (.bool v4)) I I) I <| Zf <| Zg ?_
  have hif := Z1u h
  refine Z16 I (fun hc => ?_) (fun hc => ?_)
  ·have h := hif.1 hc
   refine Zh <| Zc <| Z2 I (Zj (v := (.int .i64 1)) I I) I <| Zf <| Zg <| Z1e <| Z1i ?_
   have h := Option.some.inj h
   subst h
   refine (hret _ ?_).1
   exact ⟨[(.int .i64 1)], ⟨rfl, trivial⟩, rfl, trivial⟩
  ·have h := hif.2 hc
   refine Z18 <| Zg <| Zh <| Zh <| Zc <| Z2 I (Zi (v := (.int .i64 a0)) I I) I <| Z2 I (Zi (v := (.int .i64 a1)) I I) I <| Z2 I (Z1o (k := .i64) (a := a0) (b := a1) (c := (decide (a0 < a1))) I I I I) I ?_
   refine Zf <| Zg ?_
   have hif := Z1u h
   refine Z16 I (fun hc => ?_) (fun hc => ?_)
   ·have h := hif.1 hc
    refine Zh <| Zc <| Z2 I (Zj (v := (.int .i64 (Int.negSucc 0))) I I) I <| Zf <| Zg <| Z1e <| Z1i ?_
    have h := Option.some.inj h
    subst h
    refine (hret _ ?_).1
    exact ⟨[(.int .i64 (Int.negSucc 0))], ⟨rfl, trivial⟩, rfl, trivial⟩
   ·have h := hif.2 hc
    refine Z18 <| Zg <| Zh <| Zh <| Zc <| Z2 I (Zi (v := (.int .i64 a0)) I I) I <| Z2 I (Zi (v := (.int .i64 a1)) I I) I <| Z2 I (Z1o (k := .i64) (a := a0) (b := a1) (c := (decide (a0 > a1))) I I I I) I ?_
    refine Zf <| Zg ?_
    have hif := Z1u h
    refine Z16 I (fun hc => ?_) (fun hc => ?_)
    ·have h := hif.1 hc
     refine Zh <| Zc <| Z2 I (Zj (v := (.int .i64 1)) I I) I <| Zf <| Zg <| Z1e <| Z1i ?_
     have h := Option.some.inj h
     subst h
     refine (hret _ ?_).1
     exact ⟨[(.int .i64 1)], ⟨rfl, trivial⟩, rfl, trivial⟩
    ·have h := hif.2 hc
     refine Z18 <| Zg <| Zh <| Zc <| Z2 I (Zj (v := (.int .i64 0)) I I) I <| Zf <| Zg <| Z1e ?_
     have h := Option.some.inj h
     subst h
     refine (hret _ ?_).1
     exact ⟨[(.int .i64 0)], ⟨rfl, trivial⟩, rfl, trivial⟩
def F50_c3 (K : Nat) : Option (Int) :=
 some 0
def F50_l2 (K : Nat) (a0 : (List Int)) (c4 : Option (Int)) : Nat → Int → Option (Int)
 | 0, _ => none
 | k2 + 1, v1 =>
  if (decide (v1 < (a0.length : Int))) = true then
   if (0 : Int) ≤ v1 ∧ v1 < a0.length then
    if ((a0.getD v1.toNat 0) != 0) = true then
     some (a0.getD v1.toNat 0)
    else
     (F50_l2 K a0 c4 k2) (IntKind.i64.wrap (v1 + 1))
   else none
  else
   c4
def F50 (K : Nat) (a0 : (List Int)) : Option (Int) :=
 F50_l2 K a0 (F50_c3 K) K 0
theorem F50_ok (K : Nat) (a0 : (List Int)) (r : Int) (h : F50 K a0 = some r) : ACall P 50 ⟨[(.sl 1 (a0.map Z1k) false)], [], (.int .i64 r), [], []⟩ := by
 refine Z1t Try.func50 Try.results50 rfl Try.ntmps50 rfl rfl rfl ?_
 intro E Q hP hN hro hret
 obtain ⟨P', nt', w0, F0, p0, S0, β0, ro0⟩ := E
 simp only at hP hN
 subst hP hN
 dsimp only [argT]
 unfold F50 at h
 refine Zh <| Zc <| Z2 I (Zj (v := (.int .i64 0)) I I) I <| Zf <| Zg <| Zh <| Zc <| Z2 I (Zj (v := (.int .i64 0)) I I) I ?_
 refine Zf <| Zg <| Zh <| Zh <| Zc <| Z2 I (Zi (v := (.sl 1 (a0.map Z1k) false)) I I) I <| Z2 I (stx_len (l := a0) (enc := Z1k) I s87 I) I <| Z2 I (Zi (v := (.int .i64 0)) I I) I ?_
 refine Zf <| Zg <| Z1x (st' := ⟨[(3, (.int .i64 0)), (6, (.sl 1 (a0.map Z1k) false)), (7, (.int .i64 (a0.length : Int))), (8, (.int .i64 0))], []⟩) ⟨rfl, rfl, rfl, rfl, trivial⟩ trivial ?_
 refine Z1j (V := Int) (X := Unit) (lp := fun k v => F50_l2 K a0 (F50_c3 K) k v = some r) (sh := fun v => ⟨[(3, (.int .i64 0)), (6, (.sl 1 (a0.map Z1k) false)), (7, (.int .i64 (a0.length : Int))), (8, (.int .i64 v))], []⟩) (x := fun v => F50_c3 K = some r) (shx := fun v => ⟨[(3, (.int .i64 0))], []⟩) (k := K) (v := 0) h ?_ ?_
 ·intro v h
  try dsimp only at h ⊢
  unfold F50_c3 at h
  refine Zg <| Zh <| Zc <| Z2 I (Zi (v := (.int .i64 0)) I I) I <| Z2 I (Zj (v := (.int .i64 0)) I I) I <| Zf <| Zg <| Z1e ?_
  have h := Option.some.inj h
  subst h
  refine (hret _ ?_).1
  exact ⟨[(.int .i64 0)], ⟨rfl, trivial⟩, rfl, trivial⟩
 ·intro N k2 v h IH2 J2
  revert h
  revert v
  intro v1 h
  try dsimp only at h IH2 J2 ⊢
  cases k2 with
  | zero => cases h
  | succ k2 =>
   rw [F50_l2] at h
   refine Zh <| Zc <| Z2 I (Z1o (k := .i64) (a := v1) (b := (a0.length : Int)) (c := (decide (v1 < (a0.length : Int)))) I I I I) I <| Zf <| Zg <| Zh ?_
   have hif := Z1u h
   refine Z16 I (fun hc => ?_) (fun hc => ?_)
   ·have h := hif.1 hc
    refine Z18 <| Zg <| Zh <| AWp.block <| Zh <| Zc ?_
    have ⟨hg6, h⟩ := Z10 h
    refine Z2 I (Z1r (k := .i64) (l := a0) (enc := Z1k) (z := 0) (n := v1) (cs := [(.int .i64 (a0.getD v1.toNat 0))]) (full := false) I s87 I I hg6 I) I <| Z2 I (st_loadI (cs := [(.int .i64 (a0.getD v1.toNat 0))]) (v := (.int .i64 (a0.getD v1.toNat 0))) I o3 I I) I <| Z2 I (Zj (v := (.int .i64 (a0.getD v1.toNat 0))) I I) I <| Zf <| Zg <| Zh <| Zc <| Z2 I (Zi (v := (.int .i64 (a0.getD v1.toNat 0))) I I) I ?_
    refine Z2 I (Zi (v := (.int .i64 0)) I I) I <| Z2 I (Z1o (k := .i64) (a := (a0.getD v1.toNat 0)) (b := 0) (c := ((a0.getD v1.toNat 0) != 0)) I I I I) I <| Zf <| Zg ?_
    have hif := Z1u h
    refine Z16 I (fun hc => ?_) (fun hc => ?_)
    ·have h := hif.1 hc
     refine Zh <| Zc <| Z2 I (Zi (v := (.int .i64 (a0.getD v1.toNat 0))) I I) I <| Z2 I (Zj (v := (.int .i64 (a0.getD v1.toNat 0))) I I) I <| Zf <| Zg <| Z1e <| At.overR ?_
     refine Z1i ?_
     refine Z1i (At.overR ?_)
     refine Z1i ?_
     have h := Option.some.inj h
     subst h
     refine (hret _ ?_).1
     exact ⟨[(.int .i64 (a0.getD v1.toNat 0))], ⟨rfl, trivial⟩, rfl, trivial⟩
    ·have h := hif.2 hc
     refine Z18 <| At.end <| Zg <| Zc <| Z2 I (Z1h (k := .i64) (a := v1) (b := 1) (c := (IntKind.i64.wrap (v1 + 1))) I I I I) I <| Z2 I (Zi (v := (.int .i64 (IntKind.i64.wrap (v1 + 1)))) I I) I <| Zf ?_
     exact Zw (st' := ⟨[(3, (.int .i64 0)), (6, (.sl 1 (a0.map Z1k) false)), (7, (.int .i64 (a0.length : Int))), (8, (.int .i64 (IntKind.i64.wrap (v1 + 1))))], []⟩) ⟨rfl, rfl, rfl, rfl, trivial⟩ trivial (IH2 _ (IntKind.i64.wrap (v1 + 1)) (Nat.lt_succ_self _) h)
   ·have h := hif.2 hc
    refine AWp.exit <| At.thru ?_
    exact Zw (st' := ⟨[(3, (.int .i64 0))], []⟩) ⟨rfl, trivial⟩ trivial (J2 () h)
def F52 (K : Nat) (a0 : Zr) (a1 : Zr) : Option (Int) :=
 (F51 K a0.Trace a1.Trace).bind fun v2 =>
  (F51 K a0.Id a1.Id).bind fun v4 =>
   (F50 K [v2, v4]).bind fun v6 =>
    some v6
theorem F52_ok (K : Nat) (a0 : Zr) (a1 : Zr) (r : Int) (h : F52 K a0 a1 = some r) : ACall P 52 ⟨[(Zk a0), (Zk a1)], [], (.int .i64 r), [], []⟩ := by
 refine Z1t Try.func52 Try.results52 rfl Try.ntmps52 rfl rfl rfl ?_
 intro E Q hP hN hro hret
 obtain ⟨P', nt', w0, F0, p0, S0, β0, ro0⟩ := E
 simp only at hP hN
 subst hP hN
 dsimp only [argT]
 unfold F52 at h
 refine Zh <| Zc <| Z2 I (st_box (v := (Zk a0)) (cs := (Zk a0).cells) I I I I I) I <| Z2 I (st_box (v := (Zk a1)) (cs := (Zk a1).cells) I I I I I) I <| Z2 I (Zj (v := (.int .i64 0)) I I) I <| Zf <| Zg <| Zh ?_
 refine Z1s mixed <| Z7 0 I (Zq (m := 2) (o := 0) I f23_0 I I) <| Z7 1 I (Z11 (cs := (Zk a0).cells) (v := (.int .i64 a0.Trace)) I o3 I I I) <| Z7 2 I (Zq (m := 3) (o := 0) I f23_0 I I) <| Z7 3 I (Z11 (cs := (Zk a1).cells) (v := (.int .i64 a1.Trace)) I o3 I I I) ?_
 have ⟨v2, hv2, h⟩ := Z19 h
 refine Z7 4 I (Z17 (ar := [(.int .i64 a0.Trace), (.int .i64 a1.Trace)]) (caps := []) Try.call51 (F51_ok K a0.Trace a1.Trace v2 hv2) I I ⟨rfl, rfl, trivial⟩ I) <| Z7 5 I (Zq (m := 2) (o := 0) I f23_1 I I) <| Z7 6 I (Z11 (cs := (Zk a0).cells) (v := (.int .i64 a0.Id)) I o3 I I I) <| Z7 7 I (Zq (m := 3) (o := 0) I f23_1 I I) <| Z7 8 I (Z11 (cs := (Zk a1).cells) (v := (.int .i64 a1.Id)) I o3 I I I) ?_
 have ⟨v4, hv4, h⟩ := Z19 h
 refine Z7 9 I (Z17 (ar := [(.int .i64 a0.Id), (.int .i64 a1.Id)]) (caps := []) Try.call51 (F51_ok K a0.Id a1.Id v4 hv4) I I ⟨rfl, rfl, trivial⟩ I) <| Z7 10 I (Z1f (vs := [(.int .i64 v2), (.int .i64 v4)]) (enc := Z1k) (l := [v2, v4]) I el87 I I ⟨rfl, rfl, trivial⟩ I els_i64 I I I I) ?_
 have ⟨v6, hv6, h⟩ := Z19 h
 refine Z7 11 I (st_callB (rd := [(15, (.vec 1 (List.map Z1k [v2, v4])))]) (ar := [(.vs 15)]) (caps := []) Try.call50 (F50_ok K [v2, v4] v6 hv6) I I ⟨rfl, trivial⟩ (subS_mem ⟨rfl, trivial⟩) I I I) <| Z7 12 I (Zj (v := (.int .i64 v6)) I I) <| Z1v (by kernel_rfl) I <| Zg <| Z1e ?_
 have h := Option.some.inj h
 subst h
 refine (hret _ ?_).1
 exact ⟨[(.int .i64 v6)], ⟨rfl, trivial⟩, rfl, trivial⟩
def F15 (K : Nat) (a0 : Zb) (a1 : Zb) : Option (Int) :=
 (F51 K a0.Kind a1.Kind).bind fun v2 =>
  (F52 K a0.A a1.A).bind fun v4 =>
   (F52 K a0.B a1.B).bind fun v6 =>
    (F51 K a0.From a1.From).bind fun v8 =>
     (F51 K a0.To a1.To).bind fun v10 =>
      (F51 K a0.Sent a1.Sent).bind fun v12 =>
       (F51 K a0.Received a1.Received).bind fun v14 =>
        (F51 K a0.Least a1.Least).bind fun v16 =>
         (F50 K [v2, v4, v6, v8, v10, v12, v14, v16]).bind fun v18 =>
          some v18
theorem F15_ok (K : Nat) (a0 : Zb) (a1 : Zb) (r : Int) (h : F15 K a0 a1 = some r) : ACall P 15 ⟨[(Z6 a0), (Z6 a1)], [], (.int .i64 r), [], []⟩ := by
 refine Z1t Try.func15 Try.results15 rfl Try.ntmps15 rfl rfl rfl ?_
 intro E Q hP hN hro hret
 obtain ⟨P', nt', w0, F0, p0, S0, β0, ro0⟩ := E
 simp only at hP hN
 subst hP hN
 dsimp only [argT]
 unfold F15 at h
 refine Zh <| Zc <| Z2 I (st_box (v := (Z6 a0)) (cs := (Z6 a0).cells) I I I I I) I <| Z2 I (st_box (v := (Z6 a1)) (cs := (Z6 a1).cells) I I I I I) I <| Z2 I (Zj (v := (.int .i64 0)) I I) I <| Zf <| Zg <| Zh ?_
 refine Z1s mixed <| Z7 0 I (Zq (m := 2) (o := 0) I f25_0 I I) <| Z7 1 I (Z11 (cs := (Z6 a0).cells) (v := (.int .i64 a0.Kind)) I o3 I I I) <| Z7 2 I (Zq (m := 3) (o := 0) I f25_0 I I) <| Z7 3 I (Z11 (cs := (Z6 a1).cells) (v := (.int .i64 a1.Kind)) I o3 I I I) ?_
 have ⟨v2, hv2, h⟩ := Z19 h
 refine Z7 4 I (Z17 (ar := [(.int .i64 a0.Kind), (.int .i64 a1.Kind)]) (caps := []) Try.call51 (F51_ok K a0.Kind a1.Kind v2 hv2) I I ⟨rfl, rfl, trivial⟩ I) <| Z7 5 I (Zq (m := 2) (o := 0) I f25_1 I I) <| Z7 6 I (Z1b (cs := (Z6 a0).cells) (vs := (Zk a0.A).cells) I a23 I I I I) <| Z7 7 I (Zq (m := 3) (o := 0) I f25_1 I I) <| Z7 8 I (Z1b (cs := (Z6 a1).cells) (vs := (Zk a1.A).cells) I a23 I I I I) ?_
 have ⟨v4, hv4, h⟩ := Z19 h
 refine Z7 9 I (Z17 (ar := [(Zk a0.A), (Zk a1.A)]) (caps := []) Try.call52 (F52_ok K a0.A a1.A v4 hv4) I I ⟨rfl, rfl, trivial⟩ I) <| Z7 10 I (Zq (m := 2) (o := 0) I f25_2 I I) <| Z7 11 I (Z1b (cs := (Z6 a0).cells) (vs := (Zk a0.B).cells) I a23 I I I I) <| Z7 12 I (Zq (m := 3) (o := 0) I f25_2 I I) <| Z7 13 I (Z1b (cs := (Z6 a1).cells) (vs := (Zk a1.B).cells) I a23 I I I I) ?_
 have ⟨v6, hv6, h⟩ := Z19 h
 refine Z7 14 I (Z17 (ar := [(Zk a0.B), (Zk a1.B)]) (caps := []) Try.call52 (F52_ok K a0.B a1.B v6 hv6) I I ⟨rfl, rfl, trivial⟩ I) <| Z7 15 I (Zq (m := 2) (o := 0) I f25_3 I I) <| Z7 16 I (Z11 (cs := (Z6 a0).cells) (v := (.int .i64 a0.From)) I o3 I I I) <| Z7 17 I (Zq (m := 3) (o := 0) I f25_3 I I) <| Z7 18 I (Z11 (cs := (Z6 a1).cells) (v := (.int .i64 a1.From)) I o3 I I I) ?_
 have ⟨v8, hv8, h⟩ := Z19 h
 refine Z7 19 I (Z17 (ar := [(.int .i64 a0.From), (.int .i64 a1.From)]) (caps := []) Try.call51 (F51_ok K a0.From a1.From v8 hv8) I I ⟨rfl, rfl, trivial⟩ I) <| Z7 20 I (Zq (m := 2) (o := 0) I f25_4 I I) <| Z7 21 I (Z11 (cs := (Z6 a0).cells) (v := (.int .i64 a0.To)) I o3 I I I) <| Z7 22 I (Zq (m := 3) (o := 0) I f25_4 I I) <| Z7 23 I (Z11 (cs := (Z6 a1).cells) (v := (.int .i64 a1.To)) I o3 I I I) ?_
 have ⟨v10, hv10, h⟩ := Z19 h
 refine Z7 24 I (Z17 (ar := [(.int .i64 a0.To), (.int .i64 a1.To)]) (caps := []) Try.call51 (F51_ok K a0.To a1.To v10 hv10) I I ⟨rfl, rfl, trivial⟩ I) <| Z7 25 I (Zq (m := 2) (o := 0) I f25_5 I I) <| Z7 26 I (Z11 (cs := (Z6 a0).cells) (v := (.int .i64 a0.Sent)) I o3 I I I) <| Z7 27 I (Zq (m := 3) (o := 0) I f25_5 I I) <| Z7 28 I (Z11 (cs := (Z6 a1).cells) (v := (.int .i64 a1.Sent)) I o3 I I I) ?_
 have ⟨v12, hv12, h⟩ := Z19 h
 refine Z7 29 I (Z17 (ar := [(.int .i64 a0.Sent), (.int .i64 a1.Sent)]) (caps := []) Try.call51 (F51_ok K a0.Sent a1.Sent v12 hv12) I I ⟨rfl, rfl, trivial⟩ I) <| Z7 30 I (Zq (m := 2) (o := 0) I f25_6 I I) <| Z7 31 I (Z11 (cs := (Z6 a0).cells) (v := (.int .i64 a0.Received)) I o3 I I I) <| Z7 32 I (Zq (m := 3) (o := 0) I f25_6 I I) <| Z7 33 I (Z11 (cs := (Z6 a1).cells) (v := (.int .i64 a1.Received)) I o3 I I I) ?_
 have ⟨v14, hv14, h⟩ := Z19 h
 refine Z7 34 I (Z17 (ar := [(.int .i64 a0.Received), (.int .i64 a1.Received)]) (caps := []) Try.call51 (F51_ok K a0.Received a1.Received v14 hv14) I I ⟨rfl, rfl, trivial⟩ I) <| Z7 35 I (Zq (m := 2) (o := 0) I f25_7 I I) <| Z7 36 I (Z11 (cs := (Z6 a0).cells) (v := (.int .i64 a0.Least)) I o3 I I I) <| Z7 37 I (Zq (m := 3) (o := 0) I f25_7 I I) <| Z7 38 I (Z11 (cs := (Z6 a1).cells) (v := (.int .i64 a1.Least)) I o3 I I I) ?_
 have ⟨v16, hv16, h⟩ := Z19 h
 refine Z7 39 I (Z17 (ar := [(.int .i64 a0.Least), (.int .i64 a1.Least)]) (caps := []) Try.call51 (F51_ok K a0.Least a1.Least v16 hv16) I I ⟨rfl, rfl, trivial⟩ I) <| Z7 40 I (Z1f (vs := [(.int .i64 v2), (.int .i64 v4), (.int .i64 v6), (.int .i64 v8), (.int .i64 v10), (.int .i64 v12), (.int .i64 v14), (.int .i64 v16)]) (enc := Z1k) (l := [v2, v4, v6, v8, v10, v12, v14, v16]) I el87 I I ⟨rfl, rfl, rfl, rfl, rfl, rfl, rfl, rfl, trivial⟩ I els_i64 I I I I) ?_
 have ⟨v18, hv18, h⟩ := Z19 h
 refine Z7 41 I (st_callB (rd := [(45, (.vec 1 (List.map Z1k [v2, v4, v6, v8, v10, v12, v14, v16])))]) (ar := [(.vs 45)]) (caps := []) Try.call50 (F50_ok K [v2, v4, v6, v8, v10, v12, v14, v16] v18 hv18) I I ⟨rfl, trivial⟩ (subS_mem ⟨rfl, trivial⟩) I I I) <| Z7 42 I (Zj (v := (.int .i64 v18)) I I) <| Z1v (by kernel_rfl) I <| Zg <| Z1e ?_
 have h := Option.some.inj h
 subst h
 refine (hret _ ?_).1
 exact ⟨[(.int .i64 v18)], ⟨rfl, trivial⟩, rfl, trivial⟩
def F53 (K : Nat) : Option ((List Zd)) :=
 some ([(⟨5, 2, 1, 0, 2, 3, [97, 112, 105], [], [103, 101, 116], 112, 130, false, [], []⟩ : Zd), (⟨5, 1, 0, 0, 1, 2, [119, 101, 98], [], [103, 101, 116], 10, 40, false, [], []⟩ : Zd)])
theorem F53_ok (K : Nat) (r : (List Zd)) (h : F53 K = some r) : ACall P 53 ⟨[], [], (.sl 14 (r.map Z3) false), [], []⟩ := by
 refine Z1t Try.func53 Try.results53 rfl Try.ntmps53 rfl rfl rfl ?_
 intro E Q hP hN hro hret
 obtain ⟨P', nt', w0, F0, p0, S0, β0, ro0⟩ := E
 simp only at hP hN
 subst hP hN
 dsimp only [argT]
 unfold F53 at h
 refine Zh <| Zc <| Z2 I (Zj (v := (.sl 14 [] false)) I I) I <| Zf <| Zg <| Zh <| Zc <| Z2 I (stx_build (vs := [(0, (.int .i64 5)), (1, (.int .i64 1)), (4, (.int .i64 1)), (5, (.int .i64 2)), (6, (.str [119, 101, 98])), (8, (.str [103, 101, 116])), (9, (.int .i64 10)), (10, (.int .i64 40))]) (cs := [(.int .i64 5), (.int .i64 1), (.int .i64 0), (.int .i64 0), (.int .i64 1), (.int .i64 2), (.str [119, 101, 98]), (.str []), (.str [103, 101, 116]), (.int .i64 10), (.int .i64 40), (.bool false), (.sl 4 [] false), (.sl 2 [] false)]) I st38 ⟨rfl, rfl, rfl, rfl, rfl, rfl, rfl, rfl, rfl, rfl, rfl, rfl, rfl, rfl, rfl, rfl, trivial⟩ I) I ?_
 refine Z2 I (st_alloc (cs := [(.int .i64 0), (.int .i64 0), (.int .i64 0), (.int .i64 0), (.int .i64 0), (.int .i64 0), (.str []), (.str []), (.str []), (.int .i64 0), (.int .i64 0), (.bool false), (.sl 4 [] false), (.sl 2 [] false)]) I z38 I I I) I <| Z2 I (Z1m (cs := [(.int .i64 0), (.int .i64 0), (.int .i64 0), (.int .i64 0), (.int .i64 0), (.int .i64 0), (.str []), (.str []), (.str []), (.int .i64 0), (.int .i64 0), (.bool false), (.sl 4 [] false), (.sl 2 [] false)]) (vs := [(.int .i64 5), (.int .i64 1), (.int .i64 0), (.int .i64 0), (.int .i64 1), (.int .i64 2), (.str [119, 101, 98]), (.str []), (.str [103, 101, 116]), (.int .i64 10), (.int .i64 40), (.bool false), (.sl 4 [] false), (.sl 2 [] false)]) (ds := [(.int .i64 5), (.int .i64 1), (.int .i64 0), (.int .i64 0), (.int .i64 1), (.int .i64 2), (.str [119, 101, 98]), (.str []), (.str [103, 101, 116]), (.int .i64 10), (.int .i64 40), (.bool false), (.sl 4 [] false), (.sl 2 [] false)]) (v := (.ag [(.int .i64 5), (.int .i64 1), (.int .i64 0), (.int .i64 0), (.int .i64 1), (.int .i64 2), (.str [119, 101, 98]), (.str []), (.str [103, 101, 116]), (.int .i64 10), (.int .i64 40), (.bool false), (.sl 4 [] false), (.sl 2 [] false)])) sz38 I I I I I I I I) I <| Zf <| Zg <| Zh <| Zc <| Z2 I (stx_build (vs := [(0, (.int .i64 5)), (1, (.int .i64 2)), (2, (.int .i64 1)), (4, (.int .i64 2)), (5, (.int .i64 3)), (6, (.str [97, 112, 105])), (8, (.str [103, 101, 116])), (9, (.int .i64 112)), (10, (.int .i64 130))]) (cs := [(.int .i64 5), (.int .i64 2), (.int .i64 1), (.int .i64 0), (.int .i64 2), (.int .i64 3), (.str [97, 112, 105]), (.str []), (.str [103, 101, 116]), (.int .i64 112), (.int .i64 130), (.bool false), (.sl 4 [] false), (.sl 2 [] false)]) I st38 ⟨rfl, rfl, rfl, rfl, rfl, rfl, rfl, rfl, rfl, rfl, rfl, rfl, rfl, rfl, rfl, rfl, rfl, rfl, trivial⟩ I) I <| Z2 I (st_alloc (cs := [(.int .i64 0), (.int .i64 0), (.int .i64 0), (.int .i64 0), (.int .i64 0), (.int .i64 0), (.str []), (.str []), (.str []), (.int .i64 0), (.int .i64 0), (.bool false), (.sl 4 [] false), (.sl 2 [] false)]) I z38 I I I) I ?_
 refine Z2 I (Z1m (cs := [(.int .i64 0), (.int .i64 0), (.int .i64 0), (.int .i64 0), (.int .i64 0), (.int .i64 0), (.str []), (.str []), (.str []), (.int .i64 0), (.int .i64 0), (.bool false), (.sl 4 [] false), (.sl 2 [] false)]) (vs := [(.int .i64 5), (.int .i64 2), (.int .i64 1), (.int .i64 0), (.int .i64 2), (.int .i64 3), (.str [97, 112, 105]), (.str []), (.str [103, 101, 116]), (.int .i64 112), (.int .i64 130), (.bool false), (.sl 4 [] false), (.sl 2 [] false)]) (ds := [(.int .i64 5), (.int .i64 2), (.int .i64 1), (.int .i64 0), (.int .i64 2), (.int .i64 3), (.str [97, 112, 105]), (.str []), (.str [103, 101, 116]), (.int .i64 112), (.int .i64 130), (.bool false), (.sl 4 [] false), (.sl 2 [] false)]) (v := (.ag [(.int .i64 5), (.int .i64 2), (.int .i64 1), (.int .i64 0), (.int .i64 2), (.int .i64 3), (.str [97, 112, 105]), (.str []), (.str [103, 101, 116]), (.int .i64 112), (.int .i64 130), (.bool false), (.sl 4 [] false), (.sl 2 [] false)])) sz38 I I I I I I I I) I <| Zf <| Zg <| Zh <| Zc <| Z2 I (Z1b (cs := [(.int .i64 5), (.int .i64 2), (.int .i64 1), (.int .i64 0), (.int .i64 2), (.int .i64 3), (.str [97, 112, 105]), (.str []), (.str [103, 101, 116]), (.int .i64 112), (.int .i64 130), (.bool false), (.sl 4 [] false), (.sl 2 [] false)]) (vs := [(.int .i64 5), (.int .i64 2), (.int .i64 1), (.int .i64 0), (.int .i64 2), (.int .i64 3), (.str [97, 112, 105]), (.str []), (.str [103, 101, 116]), (.int .i64 112), (.int .i64 130), (.bool false), (.sl 4 [] false), (.sl 2 [] false)]) I a38 I I I I) I <| Z2 I (Z1b (cs := [(.int .i64 5), (.int .i64 1), (.int .i64 0), (.int .i64 0), (.int .i64 1), (.int .i64 2), (.str [119, 101, 98]), (.str []), (.str [103, 101, 116]), (.int .i64 10), (.int .i64 40), (.bool false), (.sl 4 [] false), (.sl 2 [] false)]) (vs := [(.int .i64 5), (.int .i64 1), (.int .i64 0), (.int .i64 0), (.int .i64 1), (.int .i64 2), (.str [119, 101, 98]), (.str []), (.str [103, 101, 116]), (.int .i64 10), (.int .i64 40), (.bool false), (.sl 4 [] false), (.sl 2 [] false)]) I a38 I I I I) I <| Z2 I (Z1f (vs := [(.ag [(.int .i64 5), (.int .i64 2), (.int .i64 1), (.int .i64 0), (.int .i64 2), (.int .i64 3), (.str [97, 112, 105]), (.str []), (.str [103, 101, 116]), (.int .i64 112), (.int .i64 130), (.bool false), (.sl 4 [] false), (.sl 2 [] false)]), (.ag [(.int .i64 5), (.int .i64 1), (.int .i64 0), (.int .i64 0), (.int .i64 1), (.int .i64 2), (.str [119, 101, 98]), (.str []), (.str [103, 101, 116]), (.int .i64 10), (.int .i64 40), (.bool false), (.sl 4 [] false), (.sl 2 [] false)])]) (enc := Z3) (l := [(⟨5, 2, 1, 0, 2, 3, [97, 112, 105], [], [103, 101, 116], 112, 130, false, [], []⟩ : Zd), (⟨5, 1, 0, 0, 1, 2, [119, 101, 98], [], [103, 101, 116], 10, 40, false, [], []⟩ : Zd)]) I el33 I I ⟨rfl, rfl, trivial⟩ I els_Tapi_Span I I I I) I ?_
 refine Z2 I (Zj (v := (.vs 7)) I I) I <| Zf <| Zg <| Z1e <| At.ghost (st' := ⟨[(0, (.sl 14 (([(⟨5, 2, 1, 0, 2, 3, [97, 112, 105], [], [103, 101, 116], 112, 130, false, [], []⟩ : Zd), (⟨5, 1, 0, 0, 1, 2, [119, 101, 98], [], [103, 101, 116], 10, 40, false, [], []⟩ : Zd)]).map Z3) false))], []⟩) (fun a w h => (Z1a ⟨[(0, (.sl 14 (([(⟨5, 2, 1, 0, 2, 3, [97, 112, 105], [], [103, 101, 116], 112, 130, false, [], []⟩ : Zd), (⟨5, 1, 0, 0, 1, 2, [119, 101, 98], [], [103, 101, 116], 10, 40, false, [], []⟩ : Zd)]).map Z3) false))], []⟩ (ghost_freeze (m := 7) (sz := 14) (es := (List.map Z3 ([(⟨5, 2, 1, 0, 2, 3, [97, 112, 105], [], [103, 101, 116], 112, 130, false, [], []⟩ : Zd), (⟨5, 1, 0, 0, 1, 2, [119, 101, 98], [], [103, 101, 116], 10, 40, false, [], []⟩ : Zd)]))) a w (Z1a ⟨[(0, (.vs 7))], [(7, (.vec 14 (List.map Z3 ([(⟨5, 2, 1, 0, 2, 3, [97, 112, 105], [], [103, 101, 116], 112, 130, false, [], []⟩ : Zd), (⟨5, 1, 0, 0, 1, 2, [119, 101, 98], [], [103, 101, 116], 10, 40, false, [], []⟩ : Zd)]))))]⟩ h ⟨rfl, trivial⟩ ⟨rfl, trivial⟩)) ⟨rfl, trivial⟩ trivial)) ?_
 have h := Option.some.inj h
 subst h
 refine (hret _ ?_).1
 exact ⟨[(.sl 14 (([(⟨5, 2, 1, 0, 2, 3, [97, 112, 105], [], [103, 101, 116], 112, 130, false, [], []⟩ : Zd), (⟨5, 1, 0, 0, 1, 2, [119, 101, 98], [], [103, 101, 116], 10, 40, false, [], []⟩ : Zd)]).map Z3) false)], ⟨rfl, trivial⟩, rfl, trivial⟩
def F85 (K : Nat) (a0 : (List Zd)) : Option ((List Zd)) :=
 some a0
theorem F85_ok (K : Nat) (a0 : (List Zd)) (r : (List Zd)) (h : F85 K a0 = some r) : ACall P 85 ⟨[(.sl 14 (a0.map Z3) false)], [], (.clo 104 [(.ip [(.sl 14 (r.map Z3) false)])]), [], []⟩ := by
 refine Z1t Try.func85 Try.results85 rfl Try.ntmps85 rfl rfl rfl ?_
 intro E Q hP hN hro hret
 obtain ⟨P', nt', w0, F0, p0, S0, β0, ro0⟩ := E
 simp only at hP hN
 subst hP hN
 dsimp only [argT]
 unfold F85 at h
 refine Zh <| Zc <| Z2 I (st_box (v := (.sl 14 (a0.map Z3) false)) (cs := [(.sl 14 (a0.map Z3) false)]) I I I I I) I <| Z2 I (Zj (v := .nilf) I I) I <| Zf <| Zg <| Zh <| Zc ?_
 refine Z2 I (stx_makeFunc (vs := [(.ptr 1 0)]) I ⟨rfl, trivial⟩) I <| Z2 I (Zj (v := (.clo 104 [(.ptr 1 0)])) I I) I <| Zf <| Zg <| Z1e <| At.ghost (st' := ⟨[(2, (.clo 104 [(.ip [(.sl 14 (a0.map Z3) false)])]))], []⟩) (fun a w h => (Z1a ⟨[(2, (.clo 104 [(.ip [(.sl 14 (a0.map Z3) false)])]))], []⟩ (ghost_freezeB (m := 1) (cs := [(.sl 14 (a0.map Z3) false)]) I a w (Z1a ⟨[(2, (.clo 104 [(.ptr 1 0)]))], [(1, (.box [(.sl 14 (a0.map Z3) false)]))]⟩ h ⟨rfl, trivial⟩ ⟨rfl, trivial⟩)) ⟨rfl, trivial⟩ trivial)) ?_
 have h := Option.some.inj h
 subst h
 refine (hret _ ?_).1
 exact ⟨[(.clo 104 [(.ip [(.sl 14 (a0.map Z3) false)])])], ⟨rfl, trivial⟩, rfl, trivial⟩
def F104_c5 (K : Nat) (v4 : (List Zd)) : Option ((List Zd)) :=
 some v4
def F104_l3 (K : Nat) (a1 : (List Zd)) (a899 : Zd → (List Zd) → Option ((List Zd))) (c6 : (List Zd) → Option ((List Zd))) : Nat → Int → (List Zd) → Option ((List Zd))
 | 0, _, _ => none
 | k3 + 1, v1, v2 =>
  if (decide (v1 < (a1.length : Int))) = true then
   if (0 : Int) ≤ v1 ∧ v1 < a1.length then
    (a899 (a1.getD v1.toNat Z1) v2).bind fun v9 =>
     (F104_l3 K a1 a899 c6 k3) (IntKind.i64.wrap (v1 + 1)) v9
   else none
  else
   c6 v2
def F104 (K : Nat) (a899 : Zd → (List Zd) → Option ((List Zd))) (a900 : (List Zd)) (a1 : (List Zd)) : Option ((List Zd)) :=
 F104_l3 K a1 a899 (F104_c5 K) K 0 a900
theorem F104_ok (K : Nat) (a899 : Zd → (List Zd) → Option ((List Zd))) (a900 : (List Zd)) (a1 : (List Zd)) (r : (List Zd)) (lr : Go.Loop) (h : F104 K a899 a900 a1 = some r) (hps : lr.params.size = 1) (hy : ∀ (x0 : Zd) (a900 : (List Zd)) (w : (List Zd)), a899 x0 a900 = some w → YCall P lr 1000 ⟨[(Z3 x0)], [(1000, (.loop lr [2] [(.ptr 1001 0)])), (0, (.vec 14 (List.map Z3 a900))), (1001, (.box [(.vs 0)]))], .bool true, [(1000, (.loop lr [2] [(.ptr 1001 0)])), (0, (.vec 14 (List.map Z3 w))), (1001, (.box [(.vs 0)]))], [0]⟩) : ACall P 104 ⟨[(.yld 1000), (.ip [(.sl 14 (a1.map Z3) false)])], [(1000, (.loop lr [2] [(.ptr 1001 0)])), (0, (.vec 14 (List.map Z3 a900))), (1001, (.box [(.vs 0)]))], .tup [], [(1000, (.loop lr [2] [(.ptr 1001 0)])), (0, (.vec 14 (List.map Z3 r))), (1001, (.box [(.vs 0)]))], [0]⟩ := by
 refine Z1t Try.func104 Try.results104 rfl Try.ntmps104 rfl rfl rfl ?_
 intro E Q hP hN hro hret
 obtain ⟨P', nt', w0, F0, p0, S0, β0, ro0⟩ := E
 simp only at hP hN
 subst hP hN
 dsimp only [argT]
 unfold F104 at h
 refine Zh <| Zc <| Z2 I (st_loadI (cs := [(.sl 14 (a1.map Z3) false)]) (v := (.sl 14 (a1.map Z3) false)) I o33 I I) I <| Z2 I (stx_len (l := a1) (enc := Z3) I s33 I) I <| Z2 I (Zi (v := (.int .i64 0)) I I) I <| Zf <| Zg <| Z1x (st' := ⟨[(0, (.yld 1000)), (5, (.sl 14 (a1.map Z3) false)), (6, (.int .i64 (a1.length : Int))), (7, (.int .i64 0))], [(0, (.vec 14 (List.map Z3 a900))), (1000, (.loop lr [2] [(.ptr 1001 0)])), (1001, (.box [(.vs 0)]))]⟩) ⟨rfl, rfl, rfl, rfl, trivial⟩ ⟨rfl, rfl, rfl, trivial⟩ ?_
 refine Z1j (V := Int × (List Zd)) (X := (List Zd)) (lp := fun k v => F104_l3 K a1 a899 (F104_c5 K) k v.1 v.2 = some r) (sh := fun v => ⟨[(0, (.yld 1000)), (5, (.sl 14 (a1.map Z3) false)), (6, (.int .i64 (a1.length : Int))), (7, (.int .i64 v.1))], [(0, (.vec 14 (List.map Z3 v.2))), (1000, (.loop lr [2] [(.ptr 1001 0)])), (1001, (.box [(.vs 0)]))]⟩) (x := fun v => F104_c5 K v = some r) (shx := fun v => ⟨[], [(0, (.vec 14 (List.map Z3 v))), (1000, (.loop lr [2] [(.ptr 1001 0)])), (1001, (.box [(.vs 0)]))]⟩) (k := K) (v := (0, a900)) h ?_ ?_
 ·intro v h
  revert h
  revert v
  intro v4 h
  try dsimp only at h ⊢
  unfold F104_c5 at h
  have h := Option.some.inj h
  subst h
  refine (hret _ ?_).2
  exact ⟨[], trivial, rfl, ⟨rfl, rfl, rfl, trivial⟩⟩
 ·intro N k3 v h IH3 J3
  obtain ⟨v1, v2⟩ := v
  try dsimp only at h IH3 J3 ⊢
  cases k3 with
  | zero => cases h
  | succ k3 =>
   rw [F104_l3] at h
   refine Zh <| Zc <| Z2 I (Z1o (k := .i64) (a := v1) (b := (a1.length : Int)) (c := (decide (v1 < (a1.length : Int)))) I I I I) I <| Zf <| Zg <| Zh ?_
   have hif := Z1u h
   refine Z16 I (fun hc => ?_) (fun hc => ?_)
   ·have h := hif.1 hc
    refine Z18 <| Zg <| Zh <| AWp.block <| Zh <| Zc ?_
    have ⟨hg8, h⟩ := Z10 h
    refine Z2 I (Z1r (k := .i64) (l := a1) (enc := Z3) (z := Z1) (n := v1) (cs := (Z3 (a1.getD v1.toNat Z1)).cells) (full := false) I s33 I I hg8 I) I <| Z2 I (st_loadIA (cs := (Z3 (a1.getD v1.toNat Z1)).cells) (vs := (Z3 (a1.getD v1.toNat Z1)).cells) I a38 I I I) I <| Z2 I (st_alloc (cs := [(.int .i64 0), (.int .i64 0), (.int .i64 0), (.int .i64 0), (.int .i64 0), (.int .i64 0), (.str []), (.str []), (.str []), (.int .i64 0), (.int .i64 0), (.bool false), (.sl 4 [] false), (.sl 2 [] false)]) I z38 I I I) I <| Z2 I (Z1m (cs := [(.int .i64 0), (.int .i64 0), (.int .i64 0), (.int .i64 0), (.int .i64 0), (.int .i64 0), (.str []), (.str []), (.str []), (.int .i64 0), (.int .i64 0), (.bool false), (.sl 4 [] false), (.sl 2 [] false)]) (vs := (Z3 (a1.getD v1.toNat Z1)).cells) (ds := (Z3 (a1.getD v1.toNat Z1)).cells) (v := (Z3 (a1.getD v1.toNat Z1))) sz38 I I I I I I I I) I <| Zf <| Zg <| Zh <| Zc ?_
    refine Z2 I (Zi (v := (.yld 1000)) I I) I <| Z2 I (Z1b (cs := (Z3 (a1.getD v1.toNat Z1)).cells) (vs := (Z3 (a1.getD v1.toNat Z1)).cells) I a38 I I I I) I ?_
    have ⟨v9, hv9, h⟩ := Z19 h
    refine Z2 I (st_yield (d := some 13) (ks := [2]) (vs := [(.ptr 1001 0)]) (c := ⟨[(Z3 (a1.getD v1.toNat Z1))], [(1000, (.loop lr [2] [(.ptr 1001 0)])), (0, (.vec 14 (List.map Z3 v2))), (1001, (.box [(.vs 0)]))], .bool true, [(1000, (.loop lr [2] [(.ptr 1001 0)])), (0, (.vec 14 (List.map Z3 v9))), (1001, (.box [(.vs 0)]))], [0]⟩) (ar := [(Z3 (a1.getD v1.toNat Z1))]) (news := []) (forg := [0]) (hy (a1.getD v1.toNat Z1) v2 _ hv9) I hps I I ⟨rfl, trivial⟩ I ⟨rfl, rfl, rfl, trivial⟩ I) I <| Z2 I (st_not (b := true) I I) I <| Zf <| Zg ?_
    refine Z16 (b := false) I (fun hc => ?_) (fun hc => ?_)
    ·cases hc
    refine Z18 <| At.end <| Zg <| Zc <| Z2 I (Z1h (k := .i64) (a := v1) (b := 1) (c := (IntKind.i64.wrap (v1 + 1))) I I I I) I <| Z2 I (Zi (v := (.int .i64 (IntKind.i64.wrap (v1 + 1)))) I I) I <| Zf ?_
    exact Zw (st' := ⟨[(0, (.yld 1000)), (5, (.sl 14 (a1.map Z3) false)), (6, (.int .i64 (a1.length : Int))), (7, (.int .i64 (IntKind.i64.wrap (v1 + 1))))], [(0, (.vec 14 (List.map Z3 v9))), (1000, (.loop lr [2] [(.ptr 1001 0)])), (1001, (.box [(.vs 0)]))]⟩) ⟨rfl, rfl, rfl, rfl, trivial⟩ ⟨rfl, rfl, rfl, trivial⟩ (IH3 _ ((IntKind.i64.wrap (v1 + 1)), v9) (Nat.lt_succ_self _) h)
   ·have h := hif.2 hc
    refine AWp.exit <| At.thru ?_
    exact Zw (st' := ⟨[], [(0, (.vec 14 (List.map Z3 v2))), (1000, (.loop lr [2] [(.ptr 1001 0)])), (1001, (.box [(.vs 0)]))]⟩) trivial ⟨rfl, rfl, rfl, trivial⟩ (J3 v2 h)
def F128_y4 (K : Nat) (x2 : Zd) (v1 : (List Zd)) : Option ((List Zd)) :=
 if v1.length + [x2].length ≤ 1073741824 then
  some (v1 ++ [x2])
 else none
def F128 (K : Nat) (a100 : (List Zd)) : Option ((List Zd)) :=
 (F104 K (F128_y4 K) [] a100).bind fun v5 =>
  some v5
theorem F128_ok (K : Nat) (a100 : (List Zd)) (r : (List Zd)) (h : F128 K a100 = some r) : ACall P 128 ⟨[(.sl 14 [] true), (.clo 104 [(.ip [(.sl 14 (a100.map Z3) false)])])], [], .vs 4, [(4, .vec 14 (List.map Z3 r))], [4]⟩ := by
 refine Z1t Try.func128 Try.results128 rfl Try.ntmps128 rfl rfl rfl ?_
 intro E Q hP hN hro hret
 obtain ⟨P', nt', w0, F0, p0, S0, β0, ro0⟩ := E
 simp only at hP hN
 subst hP hN
 dsimp only [argT]
 unfold F128 at h
 refine Zh <| Zc <| Z2 I (st_box (v := (.sl 14 [] true)) (cs := [(.sl 14 [] true)]) I I I I I) I <| Z2 I (Zj (v := (.sl 14 [] false)) I I) I <| Zf <| Zg <| Zh <| Zh ?_
 refine Zc <| Z2 I (Zi (v := (.clo 104 [(.ip [(.sl 14 (a100.map Z3) false)])])) I I) I <| Zf <| Zg <| AWp.block <| AWp.ghost (st' := ⟨[(2, (.ptr 2 0)), (6, (.clo 104 [(.ip [(.sl 14 (a100.map Z3) false)])]))], [(2, (.box [(.vs 12)])), (12, (.vec 14 (List.map Z3 ([] : List Zd))))]⟩) (fun a w h => (Z1a ⟨[(2, (.ptr 2 0)), (6, (.clo 104 [(.ip [(.sl 14 (a100.map Z3) false)])]))], [(2, (.box [(.vs 12)])), (12, (.vec 14 (List.map Z3 ([] : List Zd))))]⟩ (ghost_ownB (n := 2) (m := 12) (sz := 14) (j := 0) I I I a w (Z1a ⟨[(2, (.ptr 2 0)), (6, (.clo 104 [(.ip [(.sl 14 (a100.map Z3) false)])]))], [(2, (.box [(.sl 14 [] true)]))]⟩ h ⟨rfl, rfl, trivial⟩ ⟨rfl, trivial⟩)) ⟨rfl, rfl, trivial⟩ ⟨rfl, rfl, trivial⟩)) ?_
 have ⟨v5, hv5, h⟩ := Z19 h
 refine Z1x (st' := ⟨[(2, (.ptr 2 0)), (6, (.clo 104 [(.ip [(.sl 14 (a100.map Z3) false)])]))], [(2, (.box [(.vs 12)])), (12, (.vec 14 (List.map Z3 [])))]⟩) ⟨rfl, rfl, trivial⟩ ⟨rfl, rfl, trivial⟩ ?_
 refine AWp.rangeFunc (n := 1) (f := 104) (caps := [(.ip [(.sl 14 (a100.map Z3) false)])]) (ks := [2]) (vs := [(.ptr 2 0)]) (ins := [(12, (.vec 14 (List.map Z3 []))), (2, (.box [(.vs 12)]))]) (outs := [(12, (.vec 14 (List.map Z3 v5))), (2, (.box [(.vs 12)]))]) (res := .tup []) (mv := [12]) (forg := [12]) (jump := none) hro Try.call104 I I I I ⟨rfl, trivial⟩ ⟨rfl, rfl, trivial⟩ I I I I (fun lr hst hpe hpr has hbd hsz => ?_) (fun _ => ?_) (fun c hc => by cases hc)
 ·have hend := endRec_self hst hpe
  rw [hend]
  have hps : lr.params.size = 1 ∧ True := ⟨by rw [hpr]; rfl, trivial⟩
  have hy : ∀ (x2 : Zd) (v1 : (List Zd)) (w : (List Zd)), F128_y4 K x2 v1 = some w → YCall P lr 1000 ⟨[(Z3 x2)], [(1000, .loop lr [2] [(.ptr 1001 0)]), (0, (.vec 14 (List.map Z3 v1))), (1001, (.box [(.vs 0)]))], .bool true, [(1000, .loop lr [2] [(.ptr 1001 0)]), (0, (.vec 14 (List.map Z3 w))), (1001, (.box [(.vs 0)]))], [0]⟩ := by
   intro x2 v1 w h
   unfold F128_y4 at h
   refine ycall_of (ks := [2]) (vs := [(.ptr 1001 0)]) (ps := [7]) rfl hst hsz hpr rfl (by decide) rfl rfl rfl ?_
   intro E Qa Qb hP hN hmid hfin
   obtain ⟨P', nt', w0, F0, p0, S0, β0, ro0⟩ := E
   simp only at hP hN
   subst hP hN
   refine AWp.code has ?_
   dsimp only [List.zip, List.zipWith, List.cons_append, List.nil_append]
   refine Zc <| Z2 I (st_alloc (cs := [(.int .i64 0), (.int .i64 0), (.int .i64 0), (.int .i64 0), (.int .i64 0), (.int .i64 0), (.str []), (.str []), (.str []), (.int .i64 0), (.int .i64 0), (.bool false), (.sl 4 [] false), (.sl 2 [] false)]) I z38 I I I) I <| Z2 I (Z1m (cs := [(.int .i64 0), (.int .i64 0), (.int .i64 0), (.int .i64 0), (.int .i64 0), (.int .i64 0), (.str []), (.str []), (.str []), (.int .i64 0), (.int .i64 0), (.bool false), (.sl 4 [] false), (.sl 2 [] false)]) (vs := (Z3 x2).cells) (ds := (Z3 x2).cells) (v := (Z3 x2)) sz38 I I I I I I I I) I <| Zf ?_
   refine hmid _ _ _ rfl ?_
   refine AWp.code hbd <| AWp.block <| Zc <| Z2 I (Z11 (cs := [(.vs 0)]) (v := (.vs 0)) I o33 I I I) I <| Z2 I (Z1b (cs := (Z3 x2).cells) (vs := (Z3 x2).cells) I a38 I I I I) I <| Z2 I (Z1f (vs := [(Z3 x2)]) (enc := Z3) (l := [x2]) I el33 I I ⟨rfl, trivial⟩ I els_Tapi_Span I I I I) I ?_
   have ⟨hg3, h⟩ := Z10 h
   refine Z2 I (st_append (m := 0) (enc := Z3) (l := v1) (l' := [x2]) (src := (.vs 10)) (rd := [(10, (.vec 14 (List.map Z3 [x2])))]) I I el33 I u33 I I I I (oneRead I) els_Tapi_Span hg3) I <| Z2 I (Z1m (cs := [.undef]) (vs := [(.vs 0)]) (ds := [(.vs 0)]) (v := (.vs 0)) sz33 I I I I I I I I) I <| Zf <| At.end ?_
   have h := Option.some.inj h
   subst h
   refine hfin _ _ _ none .normal rfl rfl rfl ?_
   rw [hend]
   exact ⟨rfl, rfl, rfl, trivial⟩
  exact (((F104_ok K (F128_y4 K) [] a100 v5 lr hv5 hps.1 hy).sw 1000 1).sw 0 12).sw 1001 2
 ·refine Zw (st' := ⟨[(2, (.ptr 2 0)), (6, (.clo 104 [(.ip [(.sl 14 (a100.map Z3) false)])]))], [(2, (.box [(.vs 12)])), (12, (.vec 14 (List.map Z3 v5)))]⟩) ⟨rfl, rfl, trivial⟩ ⟨rfl, rfl, trivial⟩ <| At.end <| Zg <| Zh <| Zc <| Z2 I (Z11 (cs := [(.vs 12)]) (v := (.vs 12)) I o33 I I I) I <| Z2 I (Zj (v := (.vs 12)) I I) I <| Zf ?_
  refine Zg <| Z1e <| At.ghost (st' := ⟨[(4, (.vs 4))], [(4, (.vec 14 (List.map Z3 v5)))]⟩) (fun a w h => (Z1a ⟨[(4, (.vs 4))], [(4, (.vec 14 (List.map Z3 v5)))]⟩ (ghost_sw (a := 12) (b := 4) I I a w (Z1a ⟨[(4, (.vs 12))], [(12, (.vec 14 (List.map Z3 v5)))]⟩ h ⟨rfl, trivial⟩ ⟨rfl, trivial⟩)) ⟨rfl, trivial⟩ ⟨rfl, trivial⟩)) ?_
  have h := Option.some.inj h
  subst h
  refine (hret _ ?_).1
  exact ⟨[(.vs 4)], ⟨rfl, trivial⟩, rfl, ⟨rfl, trivial⟩⟩
def F102 (K : Nat) (a000 : (List Zd)) : Option ((List Zd)) :=
 (F128 K a000).bind fun v2 =>
  some v2
theorem F102_ok (K : Nat) (a000 : (List Zd)) (r : (List Zd)) (h : F102 K a000 = some r) : ACall P 102 ⟨[(.clo 104 [(.ip [(.sl 14 (a000.map Z3) false)])])], [], .vs 2, [(2, .vec 14 (List.map Z3 r))], [2]⟩ := by
 refine Z1t Try.func102 Try.results102 rfl Try.ntmps102 rfl rfl rfl ?_
 intro E Q hP hN hro hret
 obtain ⟨P', nt', w0, F0, p0, S0, β0, ro0⟩ := E
 simp only at hP hN
 subst hP hN
 dsimp only [argT]
 unfold F102 at h
 refine Zh <| Zc <| Z2 I (Zj (v := (.sl 14 [] false)) I I) I <| Zf <| Zg <| Zh <| Zc <| Z2 I (Zi (v := (.clo 104 [(.ip [(.sl 14 (a000.map Z3) false)])])) I I) I ?_
 have ⟨v2, hv2, h⟩ := Z19 h
 refine Z2 I (st_callO (sz := 14) (es := (List.map Z3 v2)) (ar := [(.sl 14 [] true), (.clo 104 [(.ip [(.sl 14 (a000.map Z3) false)])])]) (caps := []) Try.call128 ((F128_ok K a000 v2 hv2).sw 4 4) I I ⟨rfl, rfl, trivial⟩ I) I <| Z2 I (Zj (v := (.vs 4)) I I) I <| Zf <| Zg <| Z1e <| At.ghost (st' := ⟨[(2, (.vs 2))], [(2, (.vec 14 (List.map Z3 v2)))]⟩) (fun a w h => (Z1a ⟨[(2, (.vs 2))], [(2, (.vec 14 (List.map Z3 v2)))]⟩ (ghost_sw (a := 4) (b := 2) I I a w (Z1a ⟨[(2, (.vs 4))], [(4, (.vec 14 (List.map Z3 v2)))]⟩ h ⟨rfl, trivial⟩ ⟨rfl, trivial⟩)) ⟨rfl, trivial⟩ ⟨rfl, trivial⟩)) ?_
 have h := Option.some.inj h
 subst h
 refine (hret _ ?_).1
 exact ⟨[(.vs 2)], ⟨rfl, trivial⟩, rfl, ⟨rfl, trivial⟩⟩
def F105_c3 (K : Nat) (a0 : (List Int)) (a1 : (List Int)) : Option (Int) :=
 if (decide ((a0.length : Int) < (a1.length : Int))) = true then
  some (Int.negSucc 0)
 else
  some 0
def F105_l2 (K : Nat) (a0 : (List Int)) (a1 : (List Int)) (c4 : Option (Int)) : Nat → Int → Option (Int)
 | 0, _ => none
 | k2 + 1, v1 =>
  if (decide (v1 < (a0.length : Int))) = true then
   if (0 : Int) ≤ v1 ∧ v1 < a0.length then
    if (decide (v1 ≥ (a1.length : Int))) = true then
     some 1
    else
     if (0 : Int) ≤ v1 ∧ v1 < a1.length then
      (F51 K (a0.getD v1.toNat 0) (a1.getD v1.toNat 0)).bind fun v9 =>
       if (v9 != 0) = true then
        some v9
       else
        (F105_l2 K a0 a1 c4 k2) (IntKind.i64.wrap (v1 + 1))
     else none
   else none
  else
   c4
def F105 (K : Nat) (a0 : (List Int)) (a1 : (List Int)) : Option (Int) :=
 F105_l2 K a0 a1 (F105_c3 K a0 a1) K 0
theorem F105_ok (K : Nat) (a0 : (List Int)) (a1 : (List Int)) (r : Int) (h : F105 K a0 a1 = some r) : ACall P 105 ⟨[(.sl 1 (a0.map Z1k) false), (.sl 1 (a1.map Z1k) false)], [], (.int .i64 r), [], []⟩ := by
 refine Z1t Try.func105 Try.results105 rfl Try.ntmps105 rfl rfl rfl ?_
 intro E Q hP hN hro hret
 obtain ⟨P', nt', w0, F0, p0, S0, β0, ro0⟩ := E
 simp only at hP hN
 subst hP hN
 dsimp only [argT]
 unfold F105 at h
 refine Zh <| Zc <| Z2 I (Zj (v := (.int .i64 0)) I I) I <| Zf <| Zg <| Zh <| Zh <| Zc ?_
 refine Z2 I (Zi (v := (.sl 1 (a0.map Z1k) false)) I I) I <| Z2 I (stx_len (l := a0) (enc := Z1k) I s87 I) I <| Z2 I (Zi (v := (.int .i64 0)) I I) I <| Zf <| Zg <| Z1x (st' := ⟨[(0, (.sl 1 (a0.map Z1k) false)), (1, (.sl 1 (a1.map Z1k) false)), (9, (.sl 1 (a0.map Z1k) false)), (10, (.int .i64 (a0.length : Int))), (11, (.int .i64 0))], []⟩) ⟨rfl, rfl, rfl, rfl, rfl, trivial⟩ trivial ?_
 refine Z1j (V := Int) (X := Unit) (lp := fun k v => F105_l2 K a0 a1 (F105_c3 K a0 a1) k v = some r) (sh := fun v => ⟨[(0, (.sl 1 (a0.map Z1k) false)), (1, (.sl 1 (a1.map Z1k) false)), (9, (.sl 1 (a0.map Z1k) false)), (10, (.int .i64 (a0.length : Int))), (11, (.int .i64 v))], []⟩) (x := fun v => F105_c3 K a0 a1 = some r) (shx := fun v => ⟨[(0, (.sl 1 (a0.map Z1k) false)), (1, (.sl 1 (a1.map Z1k) false))], []⟩) (k := K) (v := 0) h ?_ ?_
 ·intro v h
  try dsimp only at h ⊢
  unfold F105_c3 at h
  refine Zg <| Zh <| Zh <| Zc <| Z2 I (Zi (v := (.sl 1 (a0.map Z1k) false)) I I) I <| Z2 I (stx_len (l := a0) (enc := Z1k) I s87 I) I <| Z2 I (Zi (v := (.sl 1 (a1.map Z1k) false)) I I) I <| Z2 I (stx_len (l := a1) (enc := Z1k) I s87 I) I ?_
  refine Z2 I (Z1o (k := .i64) (a := (a0.length : Int)) (b := (a1.length : Int)) (c := (decide ((a0.length : Int) < (a1.length : Int)))) I I I I) I <| Zf <| Zg ?_
  have hif := Z1u h
  refine Z16 I (fun hc => ?_) (fun hc => ?_)
  ·have h := hif.1 hc
   refine Zh <| Zc <| Z2 I (Zj (v := (.int .i64 (Int.negSucc 0))) I I) I <| Zf <| Zg <| Z1e <| Z1i ?_
   have h := Option.some.inj h
   subst h
   refine (hret _ ?_).1
   exact ⟨[(.int .i64 (Int.negSucc 0))], ⟨rfl, trivial⟩, rfl, trivial⟩
  ·have h := hif.2 hc
   refine Z18 <| Zg <| Zh <| Zc <| Z2 I (Zj (v := (.int .i64 0)) I I) I <| Zf <| Zg <| Z1e ?_
   have h := Option.some.inj h
   subst h
   refine (hret _ ?_).1
   exact ⟨[(.int .i64 0)], ⟨rfl, trivial⟩, rfl, trivial⟩
 ·intro N k2 v h IH2 J2
  revert h
  revert v
  intro v1 h
  try dsimp only at h IH2 J2 ⊢
  cases k2 with
  | zero => cases h
  | succ k2 =>
   rw [F105_l2] at h
   refine Zh <| Zc <| Z2 I (Z1o (k := .i64) (a := v1) (b := (a0.length : Int)) (c := (decide (v1 < (a0.length : Int)))) I I I I) I <| Zf <| Zg <| Zh ?_
   have hif := Z1u h
   refine Z16 I (fun hc => ?_) (fun hc => ?_)
   ·have h := hif.1 hc
    refine Z18 <| Zg <| Zh <| AWp.block <| Zh <| Zc <| Z2 I (Zi (v := (.int .i64 v1)) I I) I ?_
    have ⟨hg6, h⟩ := Z10 h
    refine Z2 I (Z1r (k := .i64) (l := a0) (enc := Z1k) (z := 0) (n := v1) (cs := [(.int .i64 (a0.getD v1.toNat 0))]) (full := false) I s87 I I hg6 I) I <| Z2 I (st_loadI (cs := [(.int .i64 (a0.getD v1.toNat 0))]) (v := (.int .i64 (a0.getD v1.toNat 0))) I o3 I I) I <| Z2 I (Zj (v := (.int .i64 v1)) I I) I <| Z2 I (Zj (v := (.int .i64 (a0.getD v1.toNat 0))) I I) I <| Zf <| Zg <| Zh <| Zh ?_
    refine Zc <| Z2 I (Zi (v := (.int .i64 v1)) I I) I <| Z2 I (Zi (v := (.sl 1 (a1.map Z1k) false)) I I) I <| Z2 I (stx_len (l := a1) (enc := Z1k) I s87 I) I <| Z2 I (Z1o (k := .i64) (a := v1) (b := (a1.length : Int)) (c := (decide (v1 ≥ (a1.length : Int)))) I I I I) I <| Zf <| Zg ?_
    have hif := Z1u h
    refine Z16 I (fun hc => ?_) (fun hc => ?_)
    ·have h := hif.1 hc
     refine Zh <| Zc <| Z2 I (Zj (v := (.int .i64 1)) I I) I <| Zf <| Zg <| Z1e <| Z1i <| At.overR ?_
     refine Z1i ?_
     refine Z1i (At.overR ?_)
     refine Z1i ?_
     have h := Option.some.inj h
     subst h
     refine (hret _ ?_).1
     exact ⟨[(.int .i64 1)], ⟨rfl, trivial⟩, rfl, trivial⟩
    ·have h := hif.2 hc
     refine Z18 <| Zg <| Zh <| Zc <| Z2 I (Zi (v := (.sl 1 (a1.map Z1k) false)) I I) I <| Z2 I (Zi (v := (.int .i64 v1)) I I) I ?_
     have ⟨hg7, h⟩ := Z10 h
     refine Z2 I (Z1r (k := .i64) (l := a1) (enc := Z1k) (z := 0) (n := v1) (cs := [(.int .i64 (a1.getD v1.toNat 0))]) (full := false) I s87 I I hg7 I) I <| Z2 I (st_loadI (cs := [(.int .i64 (a1.getD v1.toNat 0))]) (v := (.int .i64 (a1.getD v1.toNat 0))) I o3 I I) I <| Z2 I (Zj (v := (.int .i64 (a1.getD v1.toNat 0))) I I) I <| Zf <| Zg <| Zh <| Zc <| Z2 I (Zi (v := (.int .i64 (a0.getD v1.toNat 0))) I I) I ?_
     refine Z2 I (Zi (v := (.int .i64 (a1.getD v1.toNat 0))) I I) I ?_
     have ⟨v9, hv9, h⟩ := Z19 h
     refine Z2 I (Z17 (ar := [(.int .i64 (a0.getD v1.toNat 0)), (.int .i64 (a1.getD v1.toNat 0))]) (caps := []) Try.call51 (F51_ok K (a0.getD v1.toNat 0) (a1.getD v1.toNat 0) v9 hv9) I I ⟨rfl, rfl, trivial⟩ I) I <| Z2 I (Zj (v := (.int .i64 v9)) I I) I <| Zf <| Zg <| Zh <| Zc <| Z2 I (Zi (v := (.int .i64 v9)) I I) I <| Z2 I (Z1o (k := .i64) (a := v9) (b := 0) (c := (v9 != 0)) I I I I) I ?_
     refine Zf <| Zg ?_
     have hif := Z1u h
     refine Z16 I (fun hc => ?_) (fun hc => ?_)
     ·have h := hif.1 hc
      refine Zh <| Zc <| Z2 I (Zi (v := (.int .i64 v9)) I I) I <| Z2 I (Zj (v := (.int .i64 v9)) I I) I <| Zf <| Zg <| Z1e <| At.overR ?_
      refine Z1i ?_
      refine Z1i (At.overR ?_)
      refine Z1i ?_
      have h := Option.some.inj h
      subst h
      refine (hret _ ?_).1
      exact ⟨[(.int .i64 v9)], ⟨rfl, trivial⟩, rfl, trivial⟩
     ·have h := hif.2 hc
      refine Z18 <| At.end <| Zg <| Zc <| Z2 I (Z1h (k := .i64) (a := v1) (b := 1) (c := (IntKind.i64.wrap (v1 + 1))) I I I I) I <| Z2 I (Zi (v := (.int .i64 (IntKind.i64.wrap (v1 + 1)))) I I) I <| Zf ?_
      exact Zw (st' := ⟨[(0, (.sl 1 (a0.map Z1k) false)), (1, (.sl 1 (a1.map Z1k) false)), (9, (.sl 1 (a0.map Z1k) false)), (10, (.int .i64 (a0.length : Int))), (11, (.int .i64 (IntKind.i64.wrap (v1 + 1))))], []⟩) ⟨rfl, rfl, rfl, rfl, rfl, trivial⟩ trivial (IH2 _ (IntKind.i64.wrap (v1 + 1)) (Nat.lt_succ_self _) h)
   ·have h := hif.2 hc
    refine AWp.exit <| At.thru ?_
    exact Zw (st' := ⟨[(0, (.sl 1 (a0.map Z1k) false)), (1, (.sl 1 (a1.map Z1k) false))], []⟩) ⟨rfl, rfl, trivial⟩ trivial (J2 () h)
def F130 (K : Nat) (a0 : Str) : Option (Bool) :=
 some (!(a0 == a0))
theorem F130_ok (K : Nat) (a0 : Str) (r : Bool) (h : F130 K a0 = some r) : ACall P 130 ⟨[(.str a0)], [], (.bool r), [], []⟩ := by
 refine Z1t Try.func130 Try.results130 rfl Try.ntmps130 rfl rfl rfl ?_
 intro E Q hP hN hro hret
 obtain ⟨P', nt', w0, F0, p0, S0, β0, ro0⟩ := E
 simp only at hP hN
 subst hP hN
 dsimp only [argT]
 unfold F130 at h
 refine Zh <| Zc <| Z2 I (Zj (v := (.bool false)) I I) I <| Zf <| Zg <| Zh <| Zc <| Z2 I (Zi (v := (.str a0)) I I) I ?_
 refine Z2 I (Zi (v := (.str a0)) I I) I <| Z2 I (st_cmpS (a := a0) (b := a0) (c := (!(a0 == a0))) I I I I) I <| Z2 I (Zj (v := (.bool (!(a0 == a0)))) I I) I <| Zf <| Zg <| Z1e ?_
 have h := Option.some.inj h
 subst h
 refine (hret _ ?_).1
 exact ⟨[(.bool (!(a0 == a0)))], ⟨rfl, trivial⟩, rfl, trivial⟩
def F106 (K : Nat) (a0 : Str) (a1 : Str) : Option (Int) :=
 (F130 K a0).bind fun v2 =>
  (F130 K a1).bind fun v4 =>
   if v2 = true then
    if v4 = true then
     some 0
    else
     some (Int.negSucc 0)
   else
    if v4 = true then
     some 1
    else
     if (slt a0 a1) = true then
      some (Int.negSucc 0)
     else
      if (!(slt a0 a1 || a0 == a1)) = true then
       some 1
      else
       some 0
theorem F106_ok (K : Nat) (a0 : Str) (a1 : Str) (r : Int) (h : F106 K a0 a1 = some r) : ACall P 106 ⟨[(.str a0), (.str a1)], [], (.int .i64 r), [], []⟩ := by
 refine Z1t Try.func106 Try.results106 rfl Try.ntmps106 rfl rfl rfl ?_
 intro E Q hP hN hro hret
 obtain ⟨P', nt', w0, F0, p0, S0, β0, ro0⟩ := E
 simp only at hP hN
 subst hP hN
 dsimp only [argT]
 unfold F106 at h
 refine Zh <| Zc <| Z2 I (Zj (v := (.int .i64 0)) I I) I <| Zf <| Zg <| Zh <| Zc <| Z2 I (Zi (v := (.str a0)) I I) I ?_
 have ⟨v2, hv2, h⟩ := Z19 h
 refine Z2 I (Z17 (ar := [(.str a0)]) (caps := []) Try.call130 (F130_ok K a0 v2 hv2) I I ⟨rfl, trivial⟩ I) I <| Z2 I (Zj (v := (.bool v2)) I I) I <| Zf <| Zg <| Zh <| Zc <| Z2 I (Zi (v := (.str a1)) I I) I ?_
 have ⟨v4, hv4, h⟩ := Z19 h
 refine Z2 I (Z17 (ar := [(.str a1)]) (caps := []) Try.call130 (F130_ok K a1 v4 hv4) I I ⟨rfl, trivial⟩ I) I <| Z2 I (Zj (v := (.bool v4)) I I) I <| Zf <| Zg <| Zh <| Zh <| Zc <| Z2 I (Zi (v := (.bool v2)) I I) I ?_
 refine Zf <| Zg ?_
 have hif := Z1u h
 refine Z16 I (fun hc => ?_) (fun hc => ?_)
 ·have h := hif.1 hc
  refine Zh <| Zh <| Zc <| Z2 I (Zi (v := (.bool v4)) I I) I <| Zf <| Zg ?_
  have hif := Z1u h
  refine Z16 I (fun hc => ?_) (fun hc => ?_)
  ·have h := hif.1 hc
   refine Zh <| Zc <| Z2 I (Zj (v := (.int .i64 0)) I I) I <| Zf <| Zg <| Z1e <| Z1i <| Z1i ?_
   have h := Option.some.inj h
   subst h
   refine (hret _ ?_).1
   exact ⟨[(.int .i64 0)], ⟨rfl, trivial⟩, rfl, trivial⟩
  ·have h := hif.2 hc
   refine Z18 <| Zg <| Zh <| Zc <| Z2 I (Zj (v := (.int .i64 (Int.negSucc 0))) I I) I <| Zf <| Zg <| Z1e ?_
   refine Z1i ?_
   have h := Option.some.inj h
   subst h
   refine (hret _ ?_).1
   exact ⟨[(.int .i64 (Int.negSucc 0))], ⟨rfl, trivial⟩, rfl, trivial⟩
 ·have h := hif.2 hc
  refine Z18 <| Zg <| Zh <| Zh <| Zc <| Z2 I (Zi (v := (.bool v4)) I I) I <| Zf <| Zg ?_
  have hif := Z1u h
  refine Z16 I (fun hc => ?_) (fun hc => ?_)
  ·have h := hif.1 hc
   refine Zh <| Zc <| Z2 I (Zj (v := (.int .i64 1)) I I) I <| Zf <| Zg <| Z1e <| Z1i ?_
   have h := Option.some.inj h
   subst h
   refine (hret _ ?_).1
   exact ⟨[(.int .i64 1)], ⟨rfl, trivial⟩, rfl, trivial⟩
  ·have h := hif.2 hc
   refine Z18 <| Zg <| Zh <| Zh <| Zc <| Z2 I (Zi (v := (.str a0)) I I) I <| Z2 I (Zi (v := (.str a1)) I I) I <| Z2 I (st_cmpS (a := a0) (b := a1) (c := (slt a0 a1)) I I I I) I ?_
   refine Zf <| Zg ?_
   have hif := Z1u h
   refine Z16 I (fun hc => ?_) (fun hc => ?_)
   ·have h := hif.1 hc
    refine Zh <| Zc <| Z2 I (Zj (v := (.int .i64 (Int.negSucc 0))) I I) I <| Zf <| Zg <| Z1e <| Z1i ?_
    have h := Option.some.inj h
    subst h
    refine (hret _ ?_).1
    exact ⟨[(.int .i64 (Int.negSucc 0))], ⟨rfl, trivial⟩, rfl, trivial⟩
   ·have h := hif.2 hc
    refine Z18 <| Zg <| Zh <| Zh <| Zc <| Z2 I (Zi (v := (.str a0)) I I) I <| Z2 I (Zi (v := (.str a1)) I I) I <| Z2 I (st_cmpS (a := a0) (b := a1) (c := (!(slt a0 a1 || a0 == a1))) I I I I) I ?_
    refine Zf <| Zg ?_
    have hif := Z1u h
    refine Z16 I (fun hc => ?_) (fun hc => ?_)
    ·have h := hif.1 hc
     refine Zh <| Zc <| Z2 I (Zj (v := (.int .i64 1)) I I) I <| Zf <| Zg <| Z1e <| Z1i ?_
     have h := Option.some.inj h
     subst h
     refine (hret _ ?_).1
     exact ⟨[(.int .i64 1)], ⟨rfl, trivial⟩, rfl, trivial⟩
    ·have h := hif.2 hc
     refine Z18 <| Zg <| Zh <| Zc <| Z2 I (Zj (v := (.int .i64 0)) I I) I <| Zf <| Zg <| Z1e ?_
     have h := Option.some.inj h
     subst h
     refine (hret _ ?_).1
     exact ⟨[(.int .i64 0)], ⟨rfl, trivial⟩, rfl, trivial⟩
def F107 (K : Nat) (a0 : Bool) : Option (Int) :=
 if a0 = true then
  some 1
 else
  some 0
theorem F107_ok (K : Nat) (a0 : Bool) (r : Int) (h : F107 K a0 = some r) : ACall P 107 ⟨[(.bool a0)], [], (.int .i64 r), [], []⟩ := by
 refine Z1t Try.func107 Try.results107 rfl Try.ntmps107 rfl rfl rfl ?_
 intro E Q hP hN hro hret
 obtain ⟨P', nt', w0, F0, p0, S0, β0, ro0⟩ := E
 simp only at hP hN
 subst hP hN
 dsimp only [argT]
 unfold F107 at h
 refine Zh <| Zc <| Z2 I (Zj (v := (.int .i64 0)) I I) I <| Zf <| Zg <| Zh <| Zh <| Zc ?_
 refine Z2 I (Zi (v := (.bool a0)) I I) I <| Zf <| Zg ?_
 have hif := Z1u h
 refine Z16 I (fun hc => ?_) (fun hc => ?_)
 ·have h := hif.1 hc
  refine Zh <| Zc <| Z2 I (Zj (v := (.int .i64 1)) I I) I <| Zf <| Zg <| Z1e <| Z1i ?_
  have h := Option.some.inj h
  subst h
  refine (hret _ ?_).1
  exact ⟨[(.int .i64 1)], ⟨rfl, trivial⟩, rfl, trivial⟩
 ·have h := hif.2 hc
  refine Z18 <| Zg <| Zh <| Zc <| Z2 I (Zj (v := (.int .i64 0)) I I) I <| Zf <| Zg <| Z1e ?_
  have h := Option.some.inj h
  subst h
  refine (hret _ ?_).1
  exact ⟨[(.int .i64 0)], ⟨rfl, trivial⟩, rfl, trivial⟩
def F133 (K : Nat) (a0 : Z1q) (a1 : Z1q) : Option (Int) :=
 (F51 K a0.Kind a1.Kind).bind fun v2 =>
  (F106 K a0.Text a1.Text).bind fun v4 =>
   (F51 K a0.Int a1.Int).bind fun v6 =>
    (F50 K [v2, v4, v6]).bind fun v8 =>
     some v8
theorem F133_ok (K : Nat) (a0 : Z1q) (a1 : Z1q) (r : Int) (h : F133 K a0 a1 = some r) : ACall P 133 ⟨[(e_Tapi_Value a0), (e_Tapi_Value a1)], [], (.int .i64 r), [], []⟩ := by
 refine Z1t Try.func133 Try.results133 rfl Try.ntmps133 rfl rfl rfl ?_
 intro E Q hP hN hro hret
 obtain ⟨P', nt', w0, F0, p0, S0, β0, ro0⟩ := E
 simp only at hP hN
 subst hP hN
 dsimp only [argT]
 unfold F133 at h
 refine Zh <| Zc <| Z2 I (st_box (v := (e_Tapi_Value a0)) (cs := (e_Tapi_Value a0).cells) I I I I I) I <| Z2 I (st_box (v := (e_Tapi_Value a1)) (cs := (e_Tapi_Value a1).cells) I I I I I) I <| Z2 I (Zj (v := (.int .i64 0)) I I) I <| Zf <| Zg <| Zh ?_
 refine Z1s mixed <| Z7 0 I (Zq (m := 2) (o := 0) I f165_0 I I) <| Z7 1 I (Z11 (cs := (e_Tapi_Value a0).cells) (v := (.int .i64 a0.Kind)) I o3 I I I) <| Z7 2 I (Zq (m := 3) (o := 0) I f165_0 I I) <| Z7 3 I (Z11 (cs := (e_Tapi_Value a1).cells) (v := (.int .i64 a1.Kind)) I o3 I I I) ?_
 have ⟨v2, hv2, h⟩ := Z19 h
 refine Z7 4 I (Z17 (ar := [(.int .i64 a0.Kind), (.int .i64 a1.Kind)]) (caps := []) Try.call51 (F51_ok K a0.Kind a1.Kind v2 hv2) I I ⟨rfl, rfl, trivial⟩ I) <| Z7 5 I (Zq (m := 2) (o := 0) I f165_1 I I) <| Z7 6 I (Z11 (cs := (e_Tapi_Value a0).cells) (v := (.str a0.Text)) I o9 I I I) <| Z7 7 I (Zq (m := 3) (o := 0) I f165_1 I I) <| Z7 8 I (Z11 (cs := (e_Tapi_Value a1).cells) (v := (.str a1.Text)) I o9 I I I) ?_
 have ⟨v4, hv4, h⟩ := Z19 h
 refine Z7 9 I (Z17 (ar := [(.str a0.Text), (.str a1.Text)]) (caps := []) Try.call106 (F106_ok K a0.Text a1.Text v4 hv4) I I ⟨rfl, rfl, trivial⟩ I) <| Z7 10 I (Zq (m := 2) (o := 0) I f165_2 I I) <| Z7 11 I (Z11 (cs := (e_Tapi_Value a0).cells) (v := (.int .i64 a0.Int)) I o3 I I I) <| Z7 12 I (Zq (m := 3) (o := 0) I f165_2 I I) <| Z7 13 I (Z11 (cs := (e_Tapi_Value a1).cells) (v := (.int .i64 a1.Int)) I o3 I I I) ?_
 have ⟨v6, hv6, h⟩ := Z19 h
 refine Z7 14 I (Z17 (ar := [(.int .i64 a0.Int), (.int .i64 a1.Int)]) (caps := []) Try.call51 (F51_ok K a0.Int a1.Int v6 hv6) I I ⟨rfl, rfl, trivial⟩ I) <| Z7 15 I (Z1f (vs := [(.int .i64 v2), (.int .i64 v4), (.int .i64 v6)]) (enc := Z1k) (l := [v2, v4, v6]) I el87 I I ⟨rfl, rfl, rfl, trivial⟩ I els_i64 I I I I) ?_
 have ⟨v8, hv8, h⟩ := Z19 h
 refine Z7 16 I (st_callB (rd := [(20, (.vec 1 (List.map Z1k [v2, v4, v6])))]) (ar := [(.vs 20)]) (caps := []) Try.call50 (F50_ok K [v2, v4, v6] v8 hv8) I I ⟨rfl, trivial⟩ (subS_mem ⟨rfl, trivial⟩) I I I) <| Z7 17 I (Zj (v := (.int .i64 v8)) I I) <| Z1v (by kernel_rfl) I <| Zg <| Z1e ?_
 have h := Option.some.inj h
 subst h
 refine (hret _ ?_).1
 exact ⟨[(.int .i64 v8)], ⟨rfl, trivial⟩, rfl, trivial⟩
def F132 (K : Nat) (a0 : Z1g) (a1 : Z1g) : Option (Int) :=
 (F106 K a0.Key a1.Key).bind fun v2 =>
  (F133 K a0.Value a1.Value).bind fun v4 =>
   (F50 K [v2, v4]).bind fun v6 =>
    some v6
theorem F132_ok (K : Nat) (a0 : Z1g) (a1 : Z1g) (r : Int) (h : F132 K a0 a1 = some r) : ACall P 132 ⟨[(Zv a0), (Zv a1)], [], (.int .i64 r), [], []⟩ := by
 refine Z1t Try.func132 Try.results132 rfl Try.ntmps132 rfl rfl rfl ?_
 intro E Q hP hN hro hret
 obtain ⟨P', nt', w0, F0, p0, S0, β0, ro0⟩ := E
 simp only at hP hN
 subst hP hN
 dsimp only [argT]
 unfold F132 at h
 refine Zh <| Zc <| Z2 I (st_box (v := (Zv a0)) (cs := (Zv a0).cells) I I I I I) I <| Z2 I (st_box (v := (Zv a1)) (cs := (Zv a1).cells) I I I I I) I <| Z2 I (Zj (v := (.int .i64 0)) I I) I <| Zf <| Zg <| Zh ?_
 refine Z1s mixed <| Z7 0 I (Zq (m := 2) (o := 0) I f167_0 I I) <| Z7 1 I (Z11 (cs := (Zv a0).cells) (v := (.str a0.Key)) I o9 I I I) <| Z7 2 I (Zq (m := 3) (o := 0) I f167_0 I I) <| Z7 3 I (Z11 (cs := (Zv a1).cells) (v := (.str a1.Key)) I o9 I I I) ?_
 have ⟨v2, hv2, h⟩ := Z19 h
 refine Z7 4 I (Z17 (ar := [(.str a0.Key), (.str a1.Key)]) (caps := []) Try.call106 (F106_ok K a0.Key a1.Key v2 hv2) I I ⟨rfl, rfl, trivial⟩ I) <| Z7 5 I (Zq (m := 2) (o := 0) I f167_1 I I) <| Z7 6 I (Z1b (cs := (Zv a0).cells) (vs := (e_Tapi_Value a0.Value).cells) I a165 I I I I) <| Z7 7 I (Zq (m := 3) (o := 0) I f167_1 I I) <| Z7 8 I (Z1b (cs := (Zv a1).cells) (vs := (e_Tapi_Value a1.Value).cells) I a165 I I I I) ?_
 have ⟨v4, hv4, h⟩ := Z19 h
 refine Z7 9 I (Z17 (ar := [(e_Tapi_Value a0.Value), (e_Tapi_Value a1.Value)]) (caps := []) Try.call133 (F133_ok K a0.Value a1.Value v4 hv4) I I ⟨rfl, rfl, trivial⟩ I) <| Z7 10 I (Z1f (vs := [(.int .i64 v2), (.int .i64 v4)]) (enc := Z1k) (l := [v2, v4]) I el87 I I ⟨rfl, rfl, trivial⟩ I els_i64 I I I I) ?_
 have ⟨v6, hv6, h⟩ := Z19 h
 refine Z7 11 I (st_callB (rd := [(15, (.vec 1 (List.map Z1k [v2, v4])))]) (ar := [(.vs 15)]) (caps := []) Try.call50 (F50_ok K [v2, v4] v6 hv6) I I ⟨rfl, trivial⟩ (subS_mem ⟨rfl, trivial⟩) I I I) <| Z7 12 I (Zj (v := (.int .i64 v6)) I I) <| Z1v (by kernel_rfl) I <| Zg <| Z1e ?_
 have h := Option.some.inj h
 subst h
 refine (hret _ ?_).1
 exact ⟨[(.int .i64 v6)], ⟨rfl, trivial⟩, rfl, trivial⟩
def F131_c3 (K : Nat) (a0 : (List Z1g)) (a1 : (List Z1g)) : Option (Int) :=
 if (decide ((a0.length : Int) < (a1.length : Int))) = true then
  some (Int.negSucc 0)
 else
  some 0
def F131_l2 (K : Nat) (a0 : (List Z1g)) (a1 : (List Z1g)) (c4 : Option (Int)) : Nat → Int → Option (Int)
 | 0, _ => none
 | k2 + 1, v1 =>
  if (decide (v1 < (a0.length : Int))) = true then
   if (0 : Int) ≤ v1 ∧ v1 < a0.length then
    if (decide (v1 ≥ (a1.length : Int))) = true then
     some 1
    else
     if (0 : Int) ≤ v1 ∧ v1 < a1.length then
      (F132 K (a0.getD v1.toNat z_Tapi_Attr) (a1.getD v1.toNat z_Tapi_Attr)).bind fun v9 =>
       if (v9 != 0) = true then
        some v9
       else
        (F131_l2 K a0 a1 c4 k2) (IntKind.i64.wrap (v1 + 1))
     else none
   else none
  else
   c4
def F131 (K : Nat) (a0 : (List Z1g)) (a1 : (List Z1g)) : Option (Int) :=
 F131_l2 K a0 a1 (F131_c3 K a0 a1) K 0
theorem F131_ok (K : Nat) (a0 : (List Z1g)) (a1 : (List Z1g)) (r : Int) (h : F131 K a0 a1 = some r) : ACall P 131 ⟨[(.sl 4 (a0.map Zv) false), (.sl 4 (a1.map Zv) false), (.clo 132 [])], [], (.int .i64 r), [], []⟩ := by
 refine Z1t Try.func131 Try.results131 rfl Try.ntmps131 rfl rfl rfl ?_
 intro E Q hP hN hro hret
 obtain ⟨P', nt', w0, F0, p0, S0, β0, ro0⟩ := E
 simp only at hP hN
 subst hP hN
 dsimp only [argT]
 unfold F131 at h
 refine Zh <| Zc <| Z2 I (Zj (v := (.int .i64 0)) I I) I <| Zf <| Zg <| Zh <| Zh <| Zc ?_
 refine Z2 I (Zi (v := (.sl 4 (a0.map Zv) false)) I I) I <| Z2 I (stx_len (l := a0) (enc := Zv) I s35 I) I <| Z2 I (Zi (v := (.int .i64 0)) I I) I <| Zf <| Zg <| Z1x (st' := ⟨[(0, (.sl 4 (a0.map Zv) false)), (1, (.sl 4 (a1.map Zv) false)), (2, (.clo 132 [])), (11, (.sl 4 (a0.map Zv) false)), (12, (.int .i64 (a0.length : Int))), (13, (.int .i64 0))], []⟩) ⟨rfl, rfl, rfl, rfl, rfl, rfl, trivial⟩ trivial ?_
 refine Z1j (V := Int) (X := Unit) (lp := fun k v => F131_l2 K a0 a1 (F131_c3 K a0 a1) k v = some r) (sh := fun v => ⟨[(0, (.sl 4 (a0.map Zv) false)), (1, (.sl 4 (a1.map Zv) false)), (2, (.clo 132 [])), (11, (.sl 4 (a0.map Zv) false)), (12, (.int .i64 (a0.length : Int))), (13, (.int .i64 v))], []⟩) (x := fun v => F131_c3 K a0 a1 = some r) (shx := fun v => ⟨[(0, (.sl 4 (a0.map Zv) false)), (1, (.sl 4 (a1.map Zv) false))], []⟩) (k := K) (v := 0) h ?_ ?_
 ·intro v h
  try dsimp only at h ⊢
  unfold F131_c3 at h
  refine Zg <| Zh <| Zh <| Zc <| Z2 I (Zi (v := (.sl 4 (a0.map Zv) false)) I I) I <| Z2 I (stx_len (l := a0) (enc := Zv) I s35 I) I <| Z2 I (Zi (v := (.sl 4 (a1.map Zv) false)) I I) I <| Z2 I (stx_len (l := a1) (enc := Zv) I s35 I) I ?_
  refine Z2 I (Z1o (k := .i64) (a := (a0.length : Int)) (b := (a1.length : Int)) (c := (decide ((a0.length : Int) < (a1.length : Int)))) I I I I) I <| Zf <| Zg ?_
  have hif := Z1u h
  refine Z16 I (fun hc => ?_) (fun hc => ?_)
  ·have h := hif.1 hc
   refine Zh <| Zc <| Z2 I (Zj (v := (.int .i64 (Int.negSucc 0))) I I) I <| Zf <| Zg <| Z1e <| Z1i ?_
   have h := Option.some.inj h
   subst h
   refine (hret _ ?_).1
   exact ⟨[(.int .i64 (Int.negSucc 0))], ⟨rfl, trivial⟩, rfl, trivial⟩
  ·have h := hif.2 hc
   refine Z18 <| Zg <| Zh <| Zc <| Z2 I (Zj (v := (.int .i64 0)) I I) I <| Zf <| Zg <| Z1e ?_
   have h := Option.some.inj h
   subst h
   refine (hret _ ?_).1
   exact ⟨[(.int .i64 0)], ⟨rfl, trivial⟩, rfl, trivial⟩
 ·intro N k2 v h IH2 J2
  revert h
  revert v
  intro v1 h
  try dsimp only at h IH2 J2 ⊢
  cases k2 with
  | zero => cases h
  | succ k2 =>
   rw [F131_l2] at h
   refine Zh <| Zc <| Z2 I (Z1o (k := .i64) (a := v1) (b := (a0.length : Int)) (c := (decide (v1 < (a0.length : Int)))) I I I I) I <| Zf <| Zg <| Zh ?_
   have hif := Z1u h
   refine Z16 I (fun hc => ?_) (fun hc => ?_)
   ·have h := hif.1 hc
    refine Z18 <| Zg <| Zh <| AWp.block <| Zh <| Zc <| Z2 I (Zi (v := (.int .i64 v1)) I I) I ?_
    have ⟨hg6, h⟩ := Z10 h
    refine Z2 I (Z1r (k := .i64) (l := a0) (enc := Zv) (z := z_Tapi_Attr) (n := v1) (cs := (Zv (a0.getD v1.toNat z_Tapi_Attr)).cells) (full := false) I s35 I I hg6 I) I <| Z2 I (st_loadIA (cs := (Zv (a0.getD v1.toNat z_Tapi_Attr)).cells) (vs := (Zv (a0.getD v1.toNat z_Tapi_Attr)).cells) I a167 I I I) I <| Z2 I (st_alloc (cs := [(.str []), (.int .i64 0), (.str []), (.int .i64 0)]) I z167 I I I) I <| Z2 I (Zj (v := (.int .i64 v1)) I I) I <| Z2 I (Z1m (cs := [(.str []), (.int .i64 0), (.str []), (.int .i64 0)]) (vs := (Zv (a0.getD v1.toNat z_Tapi_Attr)).cells) (ds := (Zv (a0.getD v1.toNat z_Tapi_Attr)).cells) (v := (Zv (a0.getD v1.toNat z_Tapi_Attr))) sz167 I I I I I I I I) I <| Zf <| Zg <| Zh ?_
    refine Zh <| Zc <| Z2 I (Zi (v := (.int .i64 v1)) I I) I <| Z2 I (Zi (v := (.sl 4 (a1.map Zv) false)) I I) I <| Z2 I (stx_len (l := a1) (enc := Zv) I s35 I) I <| Z2 I (Z1o (k := .i64) (a := v1) (b := (a1.length : Int)) (c := (decide (v1 ≥ (a1.length : Int)))) I I I I) I <| Zf <| Zg ?_
    have hif := Z1u h
    refine Z16 I (fun hc => ?_) (fun hc => ?_)
    ·have h := hif.1 hc
     refine Zh <| Zc <| Z2 I (Zj (v := (.int .i64 1)) I I) I <| Zf <| Zg <| Z1e <| Z1i <| At.overR ?_
     refine Z1i ?_
     refine Z1i (At.overR ?_)
     refine Z1i ?_
     have h := Option.some.inj h
     subst h
     refine (hret _ ?_).1
     exact ⟨[(.int .i64 1)], ⟨rfl, trivial⟩, rfl, trivial⟩
    ·have h := hif.2 hc
     refine Z18 <| Zg <| Zh <| Zc <| Z2 I (Zi (v := (.sl 4 (a1.map Zv) false)) I I) I <| Z2 I (Zi (v := (.int .i64 v1)) I I) I ?_
     have ⟨hg7, h⟩ := Z10 h
     refine Z2 I (Z1r (k := .i64) (l := a1) (enc := Zv) (z := z_Tapi_Attr) (n := v1) (cs := (Zv (a1.getD v1.toNat z_Tapi_Attr)).cells) (full := false) I s35 I I hg7 I) I <| Z2 I (st_loadIA (cs := (Zv (a1.getD v1.toNat z_Tapi_Attr)).cells) (vs := (Zv (a1.getD v1.toNat z_Tapi_Attr)).cells) I a167 I I I) I <| Z2 I (st_alloc (cs := [(.str []), (.int .i64 0), (.str []), (.int .i64 0)]) I z167 I I I) I <| Z2 I (Z1m (cs := [(.str []), (.int .i64 0), (.str []), (.int .i64 0)]) (vs := (Zv (a1.getD v1.toNat z_Tapi_Attr)).cells) (ds := (Zv (a1.getD v1.toNat z_Tapi_Attr)).cells) (v := (Zv (a1.getD v1.toNat z_Tapi_Attr))) sz167 I I I I I I I I) I <| Zf <| Zg <| Zh <| Zc ?_
     refine Z2 I (Zi (v := (.clo 132 [])) I I) I <| Z2 I (Z1b (cs := (Zv (a0.getD v1.toNat z_Tapi_Attr)).cells) (vs := (Zv (a0.getD v1.toNat z_Tapi_Attr)).cells) I a167 I I I I) I <| Z2 I (Z1b (cs := (Zv (a1.getD v1.toNat z_Tapi_Attr)).cells) (vs := (Zv (a1.getD v1.toNat z_Tapi_Attr)).cells) I a167 I I I I) I ?_
     have ⟨v9, hv9, h⟩ := Z19 h
     refine Z2 I (Z17 (ar := [(Zv (a0.getD v1.toNat z_Tapi_Attr)), (Zv (a1.getD v1.toNat z_Tapi_Attr))]) (caps := []) Try.call132 (F132_ok K (a0.getD v1.toNat z_Tapi_Attr) (a1.getD v1.toNat z_Tapi_Attr) v9 hv9) I I ⟨rfl, rfl, trivial⟩ I) I <| Z2 I (Zj (v := (.int .i64 v9)) I I) I <| Zf <| Zg <| Zh <| Zc <| Z2 I (Zi (v := (.int .i64 v9)) I I) I <| Z2 I (Z1o (k := .i64) (a := v9) (b := 0) (c := (v9 != 0)) I I I I) I ?_
     refine Zf <| Zg ?_
     have hif := Z1u h
     refine Z16 I (fun hc => ?_) (fun hc => ?_)
     ·have h := hif.1 hc
      refine Zh <| Zc <| Z2 I (Zi (v := (.int .i64 v9)) I I) I <| Z2 I (Zj (v := (.int .i64 v9)) I I) I <| Zf <| Zg <| Z1e <| At.overR ?_
      refine Z1i ?_
      refine Z1i (At.overR ?_)
      refine Z1i ?_
      have h := Option.some.inj h
      subst h
      refine (hret _ ?_).1
      exact ⟨[(.int .i64 v9)], ⟨rfl, trivial⟩, rfl, trivial⟩
     ·have h := hif.2 hc
      refine Z18 <| At.end <| Zg <| Zc <| Z2 I (Z1h (k := .i64) (a := v1) (b := 1) (c := (IntKind.i64.wrap (v1 + 1))) I I I I) I <| Z2 I (Zi (v := (.int .i64 (IntKind.i64.wrap (v1 + 1)))) I I) I <| Zf ?_
      exact Zw (st' := ⟨[(0, (.sl 4 (a0.map Zv) false)), (1, (.sl 4 (a1.map Zv) false)), (2, (.clo 132 [])), (11, (.sl 4 (a0.map Zv) false)), (12, (.int .i64 (a0.length : Int))), (13, (.int .i64 (IntKind.i64.wrap (v1 + 1))))], []⟩) ⟨rfl, rfl, rfl, rfl, rfl, rfl, trivial⟩ trivial (IH2 _ (IntKind.i64.wrap (v1 + 1)) (Nat.lt_succ_self _) h)
   ·have h := hif.2 hc
    refine AWp.exit <| At.thru ?_
    exact Zw (st' := ⟨[(0, (.sl 4 (a0.map Zv) false)), (1, (.sl 4 (a1.map Zv) false))], []⟩) ⟨rfl, rfl, trivial⟩ trivial (J2 () h)
def F108 (K : Nat) (a0 : (List Z1g)) (a1 : (List Z1g)) : Option (Int) :=
 (F131 K a0 a1).bind fun v2 =>
  some v2
theorem F108_ok (K : Nat) (a0 : (List Z1g)) (a1 : (List Z1g)) (r : Int) (h : F108 K a0 a1 = some r) : ACall P 108 ⟨[(.sl 4 (a0.map Zv) false), (.sl 4 (a1.map Zv) false)], [], (.int .i64 r), [], []⟩ := by
 refine Z1t Try.func108 Try.results108 rfl Try.ntmps108 rfl rfl rfl ?_
 intro E Q hP hN hro hret
 obtain ⟨P', nt', w0, F0, p0, S0, β0, ro0⟩ := E
 simp only at hP hN
 subst hP hN
 dsimp only [argT]
 unfold F108 at h
 refine Zh <| Zc <| Z2 I (Zj (v := (.int .i64 0)) I I) I <| Zf <| Zg <| Zh <| Zc <| Z2 I (Zi (v := (.sl 4 (a0.map Zv) false)) I I) I ?_
 refine Z2 I (Zi (v := (.sl 4 (a1.map Zv) false)) I I) I ?_
 have ⟨v2, hv2, h⟩ := Z19 h
 refine Z2 I (Z17 (ar := [(.sl 4 (a0.map Zv) false), (.sl 4 (a1.map Zv) false), (.clo 132 [])]) (caps := []) Try.call131 (F131_ok K a0 a1 v2 hv2) I I ⟨rfl, rfl, rfl, trivial⟩ I) I <| Z2 I (Zj (v := (.int .i64 v2)) I I) I <| Zf <| Zg <| Z1e ?_
 have h := Option.some.inj h
 subst h
 refine (hret _ ?_).1
 exact ⟨[(.int .i64 v2)], ⟨rfl, trivial⟩, rfl, trivial⟩
def F109_c3 (K : Nat) (a0 : (List Zr)) (a1 : (List Zr)) : Option (Int) :=
 if (decide ((a0.length : Int) < (a1.length : Int))) = true then
  some (Int.negSucc 0)
 else
  some 0
def F109_l2 (K : Nat) (a0 : (List Zr)) (a1 : (List Zr)) (c4 : Option (Int)) : Nat → Int → Option (Int)
 | 0, _ => none
 | k2 + 1, v1 =>
  if (decide (v1 < (a0.length : Int))) = true then
   if (0 : Int) ≤ v1 ∧ v1 < a0.length then
    if (decide (v1 ≥ (a1.length : Int))) = true then
     some 1
    else
     if (0 : Int) ≤ v1 ∧ v1 < a1.length then
      (F52 K (a0.getD v1.toNat Zt) (a1.getD v1.toNat Zt)).bind fun v9 =>
       if (v9 != 0) = true then
        some v9
       else
        (F109_l2 K a0 a1 c4 k2) (IntKind.i64.wrap (v1 + 1))
     else none
   else none
  else
   c4
def F109 (K : Nat) (a0 : (List Zr)) (a1 : (List Zr)) : Option (Int) :=
 F109_l2 K a0 a1 (F109_c3 K a0 a1) K 0
theorem F109_ok (K : Nat) (a0 : (List Zr)) (a1 : (List Zr)) (r : Int) (h : F109 K a0 a1 = some r) : ACall P 109 ⟨[(.sl 2 (a0.map Zk) false), (.sl 2 (a1.map Zk) false), (.clo 52 [])], [], (.int .i64 r), [], []⟩ := by
 refine Z1t Try.func109 Try.results109 rfl Try.ntmps109 rfl rfl rfl ?_
 intro E Q hP hN hro hret
 obtain ⟨P', nt', w0, F0, p0, S0, β0, ro0⟩ := E
 simp only at hP hN
 subst hP hN
 dsimp only [argT]
 unfold F109 at h
 refine Zh <| Zc <| Z2 I (Zj (v := (.int .i64 0)) I I) I <| Zf <| Zg <| Zh <| Zh <| Zc ?_
 refine Z2 I (Zi (v := (.sl 2 (a0.map Zk) false)) I I) I <| Z2 I (stx_len (l := a0) (enc := Zk) I s36 I) I <| Z2 I (Zi (v := (.int .i64 0)) I I) I <| Zf <| Zg <| Z1x (st' := ⟨[(0, (.sl 2 (a0.map Zk) false)), (1, (.sl 2 (a1.map Zk) false)), (2, (.clo 52 [])), (11, (.sl 2 (a0.map Zk) false)), (12, (.int .i64 (a0.length : Int))), (13, (.int .i64 0))], []⟩) ⟨rfl, rfl, rfl, rfl, rfl, rfl, trivial⟩ trivial ?_
 refine Z1j (V := Int) (X := Unit) (lp := fun k v => F109_l2 K a0 a1 (F109_c3 K a0 a1) k v = some r) (sh := fun v => ⟨[(0, (.sl 2 (a0.map Zk) false)), (1, (.sl 2 (a1.map Zk) false)), (2, (.clo 52 [])), (11, (.sl 2 (a0.map Zk) false)), (12, (.int .i64 (a0.length : Int))), (13, (.int .i64 v))], []⟩) (x := fun v => F109_c3 K a0 a1 = some r) (shx := fun v => ⟨[(0, (.sl 2 (a0.map Zk) false)), (1, (.sl 2 (a1.map Zk) false))], []⟩) (k := K) (v := 0) h ?_ ?_
 ·intro v h
  try dsimp only at h ⊢
  unfold F109_c3 at h
  refine Zg <| Zh <| Zh <| Zc <| Z2 I (Zi (v := (.sl 2 (a0.map Zk) false)) I I) I <| Z2 I (stx_len (l := a0) (enc := Zk) I s36 I) I <| Z2 I (Zi (v := (.sl 2 (a1.map Zk) false)) I I) I <| Z2 I (stx_len (l := a1) (enc := Zk) I s36 I) I ?_
  refine Z2 I (Z1o (k := .i64) (a := (a0.length : Int)) (b := (a1.length : Int)) (c := (decide ((a0.length : Int) < (a1.length : Int)))) I I I I) I <| Zf <| Zg ?_
  have hif := Z1u h
  refine Z16 I (fun hc => ?_) (fun hc => ?_)
  ·have h := hif.1 hc
   refine Zh <| Zc <| Z2 I (Zj (v := (.int .i64 (Int.negSucc 0))) I I) I <| Zf <| Zg <| Z1e <| Z1i ?_
   have h := Option.some.inj h
   subst h
   refine (hret _ ?_).1
   exact ⟨[(.int .i64 (Int.negSucc 0))], ⟨rfl, trivial⟩, rfl, trivial⟩
  ·have h := hif.2 hc
   refine Z18 <| Zg <| Zh <| Zc <| Z2 I (Zj (v := (.int .i64 0)) I I) I <| Zf <| Zg <| Z1e ?_
   have h := Option.some.inj h
   subst h
   refine (hret _ ?_).1
   exact ⟨[(.int .i64 0)], ⟨rfl, trivial⟩, rfl, trivial⟩
 ·intro N k2 v h IH2 J2
  revert h
  revert v
  intro v1 h
  try dsimp only at h IH2 J2 ⊢
  cases k2 with
  | zero => cases h
  | succ k2 =>
   rw [F109_l2] at h
   refine Zh <| Zc <| Z2 I (Z1o (k := .i64) (a := v1) (b := (a0.length : Int)) (c := (decide (v1 < (a0.length : Int)))) I I I I) I <| Zf <| Zg <| Zh ?_
   have hif := Z1u h
   refine Z16 I (fun hc => ?_) (fun hc => ?_)
   ·have h := hif.1 hc
    refine Z18 <| Zg <| Zh <| AWp.block <| Zh <| Zc <| Z2 I (Zi (v := (.int .i64 v1)) I I) I ?_
    have ⟨hg6, h⟩ := Z10 h
    refine Z2 I (Z1r (k := .i64) (l := a0) (enc := Zk) (z := Zt) (n := v1) (cs := (Zk (a0.getD v1.toNat Zt)).cells) (full := false) I s36 I I hg6 I) I <| Z2 I (st_loadIA (cs := (Zk (a0.getD v1.toNat Zt)).cells) (vs := (Zk (a0.getD v1.toNat Zt)).cells) I a23 I I I) I <| Z2 I (st_alloc (cs := [(.int .i64 0), (.int .i64 0)]) I z23 I I I) I <| Z2 I (Zj (v := (.int .i64 v1)) I I) I <| Z2 I (Z1m (cs := [(.int .i64 0), (.int .i64 0)]) (vs := (Zk (a0.getD v1.toNat Zt)).cells) (ds := (Zk (a0.getD v1.toNat Zt)).cells) (v := (Zk (a0.getD v1.toNat Zt))) sz23 I I I I I I I I) I <| Zf <| Zg <| Zh ?_
    refine Zh <| Zc <| Z2 I (Zi (v := (.int .i64 v1)) I I) I <| Z2 I (Zi (v := (.sl 2 (a1.map Zk) false)) I I) I <| Z2 I (stx_len (l := a1) (enc := Zk) I s36 I) I <| Z2 I (Z1o (k := .i64) (a := v1) (b := (a1.length : Int)) (c := (decide (v1 ≥ (a1.length : Int)))) I I I I) I <| Zf <| Zg ?_
    have hif := Z1u h
    refine Z16 I (fun hc => ?_) (fun hc => ?_)
    ·have h := hif.1 hc
     refine Zh <| Zc <| Z2 I (Zj (v := (.int .i64 1)) I I) I <| Zf <| Zg <| Z1e <| Z1i <| At.overR ?_
     refine Z1i ?_
     refine Z1i (At.overR ?_)
     refine Z1i ?_
     have h := Option.some.inj h
     subst h
     refine (hret _ ?_).1
     exact ⟨[(.int .i64 1)], ⟨rfl, trivial⟩, rfl, trivial⟩
    ·have h := hif.2 hc
     refine Z18 <| Zg <| Zh <| Zc <| Z2 I (Zi (v := (.sl 2 (a1.map Zk) false)) I I) I <| Z2 I (Zi (v := (.int .i64 v1)) I I) I ?_
     have ⟨hg7, h⟩ := Z10 h
     refine Z2 I (Z1r (k := .i64) (l := a1) (enc := Zk) (z := Zt) (n := v1) (cs := (Zk (a1.getD v1.toNat Zt)).cells) (full := false) I s36 I I hg7 I) I <| Z2 I (st_loadIA (cs := (Zk (a1.getD v1.toNat Zt)).cells) (vs := (Zk (a1.getD v1.toNat Zt)).cells) I a23 I I I) I <| Z2 I (st_alloc (cs := [(.int .i64 0), (.int .i64 0)]) I z23 I I I) I <| Z2 I (Z1m (cs := [(.int .i64 0), (.int .i64 0)]) (vs := (Zk (a1.getD v1.toNat Zt)).cells) (ds := (Zk (a1.getD v1.toNat Zt)).cells) (v := (Zk (a1.getD v1.toNat Zt))) sz23 I I I I I I I I) I <| Zf <| Zg <| Zh <| Zc ?_
     refine Z2 I (Zi (v := (.clo 52 [])) I I) I <| Z2 I (Z1b (cs := (Zk (a0.getD v1.toNat Zt)).cells) (vs := (Zk (a0.getD v1.toNat Zt)).cells) I a23 I I I I) I <| Z2 I (Z1b (cs := (Zk (a1.getD v1.toNat Zt)).cells) (vs := (Zk (a1.getD v1.toNat Zt)).cells) I a23 I I I I) I ?_
     have ⟨v9, hv9, h⟩ := Z19 h
     refine Z2 I (Z17 (ar := [(Zk (a0.getD v1.toNat Zt)), (Zk (a1.getD v1.toNat Zt))]) (caps := []) Try.call52 (F52_ok K (a0.getD v1.toNat Zt) (a1.getD v1.toNat Zt) v9 hv9) I I ⟨rfl, rfl, trivial⟩ I) I <| Z2 I (Zj (v := (.int .i64 v9)) I I) I <| Zf <| Zg <| Zh <| Zc <| Z2 I (Zi (v := (.int .i64 v9)) I I) I <| Z2 I (Z1o (k := .i64) (a := v9) (b := 0) (c := (v9 != 0)) I I I I) I ?_
     refine Zf <| Zg ?_
     have hif := Z1u h
     refine Z16 I (fun hc => ?_) (fun hc => ?_)
     ·have h := hif.1 hc
      refine Zh <| Zc <| Z2 I (Zi (v := (.int .i64 v9)) I I) I <| Z2 I (Zj (v := (.int .i64 v9)) I I) I <| Zf <| Zg <| Z1e <| At.overR ?_
      refine Z1i ?_
      refine Z1i (At.overR ?_)
      refine Z1i ?_
      have h := Option.some.inj h
      subst h
      refine (hret _ ?_).1
      exact ⟨[(.int .i64 v9)], ⟨rfl, trivial⟩, rfl, trivial⟩
     ·have h := hif.2 hc
      refine Z18 <| At.end <| Zg <| Zc <| Z2 I (Z1h (k := .i64) (a := v1) (b := 1) (c := (IntKind.i64.wrap (v1 + 1))) I I I I) I <| Z2 I (Zi (v := (.int .i64 (IntKind.i64.wrap (v1 + 1)))) I I) I <| Zf ?_
      exact Zw (st' := ⟨[(0, (.sl 2 (a0.map Zk) false)), (1, (.sl 2 (a1.map Zk) false)), (2, (.clo 52 [])), (11, (.sl 2 (a0.map Zk) false)), (12, (.int .i64 (a0.length : Int))), (13, (.int .i64 (IntKind.i64.wrap (v1 + 1))))], []⟩) ⟨rfl, rfl, rfl, rfl, rfl, rfl, trivial⟩ trivial (IH2 _ (IntKind.i64.wrap (v1 + 1)) (Nat.lt_succ_self _) h)
   ·have h := hif.2 hc
    refine AWp.exit <| At.thru ?_
    exact Zw (st' := ⟨[(0, (.sl 2 (a0.map Zk) false)), (1, (.sl 2 (a1.map Zk) false))], []⟩) ⟨rfl, rfl, trivial⟩ trivial (J2 () h)
def F86 (K : Nat) (a0 : Zd) (a1 : Zd) : Option (Int) :=
 (F105 K [a0.Trace, a0.Id, a0.Revision, a0.Parent, a0.Clock, a0.Kind] [a1.Trace, a1.Id, a1.Revision, a1.Parent, a1.Clock, a1.Kind]).bind fun v2 =>
  (F106 K a0.Service a1.Service).bind fun v4 =>
   (F106 K a0.Version a1.Version).bind fun v6 =>
    (F106 K a0.Operation a1.Operation).bind fun v8 =>
     (F51 K a0.Start a1.Start).bind fun v10 =>
      (F51 K a0.End a1.End).bind fun v12 =>
       (F107 K a0.Error).bind fun v14 =>
        (F107 K a1.Error).bind fun v16 =>
         (F108 K a0.Attrs a1.Attrs).bind fun v18 =>
          (F109 K a0.Links a1.Links).bind fun v20 =>
           (F50 K [v2, v4, v6, v8, v10, v12, (IntKind.i64.wrap (v14 - v16)), v18, v20]).bind fun v22 =>
            some v22
theorem F86_ok (K : Nat) (a0 : Zd) (a1 : Zd) (r : Int) (h : F86 K a0 a1 = some r) : ACall P 86 ⟨[(Z3 a0), (Z3 a1)], [], (.int .i64 r), [], []⟩ := by
 refine Z1t Try.func86 Try.results86 rfl Try.ntmps86 rfl rfl rfl ?_
 intro E Q hP hN hro hret
 obtain ⟨P', nt', w0, F0, p0, S0, β0, ro0⟩ := E
 simp only at hP hN
 subst hP hN
 dsimp only [argT]
 unfold F86 at h
 refine Zh <| Zc <| Z2 I (st_box (v := (Z3 a0)) (cs := (Z3 a0).cells) I I I I I) I <| Z2 I (st_box (v := (Z3 a1)) (cs := (Z3 a1).cells) I I I I I) I <| Z2 I (Zj (v := (.int .i64 0)) I I) I <| Zf <| Zg <| Zh ?_
 refine Zc <| Z2 I (Zq (m := 2) (o := 0) I f38_0 I I) I <| Z2 I (Z11 (cs := (Z3 a0).cells) (v := (.int .i64 a0.Trace)) I o3 I I I) I <| Z2 I (Zq (m := 2) (o := 0) I f38_1 I I) I <| Z2 I (Z11 (cs := (Z3 a0).cells) (v := (.int .i64 a0.Id)) I o3 I I I) I <| Z2 I (Zq (m := 2) (o := 0) I f38_3 I I) I <| Z2 I (Z11 (cs := (Z3 a0).cells) (v := (.int .i64 a0.Revision)) I o3 I I I) I <| Z2 I (Zq (m := 2) (o := 0) I f38_2 I I) I ?_
 refine Z2 I (Z11 (cs := (Z3 a0).cells) (v := (.int .i64 a0.Parent)) I o3 I I I) I <| Z2 I (Zq (m := 2) (o := 0) I f38_4 I I) I <| Z2 I (Z11 (cs := (Z3 a0).cells) (v := (.int .i64 a0.Clock)) I o3 I I I) I <| Z2 I (Zq (m := 2) (o := 0) I f38_5 I I) I <| Z2 I (Z11 (cs := (Z3 a0).cells) (v := (.int .i64 a0.Kind)) I o3 I I I) I <| Z2 I (stx_buildA (vs := [(0, (.int .i64 a0.Trace)), (1, (.int .i64 a0.Id)), (2, (.int .i64 a0.Revision)), (3, (.int .i64 a0.Parent)), (4, (.int .i64 a0.Clock)), (5, (.int .i64 a0.Kind))]) (cs := [(.int .i64 a0.Trace), (.int .i64 a0.Id), (.int .i64 a0.Revision), (.int .i64 a0.Parent), (.int .i64 a0.Clock), (.int .i64 a0.Kind)]) I ar157 ⟨rfl, rfl, rfl, rfl, rfl, rfl, rfl, rfl, rfl, rfl, rfl, rfl, trivial⟩ I) I <| Z2 I (st_alloc (cs := [(.int .i64 0), (.int .i64 0), (.int .i64 0), (.int .i64 0), (.int .i64 0), (.int .i64 0)]) I z157 I I I) I <| Z2 I (Z1m (cs := [(.int .i64 0), (.int .i64 0), (.int .i64 0), (.int .i64 0), (.int .i64 0), (.int .i64 0)]) (vs := [(.int .i64 a0.Trace), (.int .i64 a0.Id), (.int .i64 a0.Revision), (.int .i64 a0.Parent), (.int .i64 a0.Clock), (.int .i64 a0.Kind)]) (ds := [(.int .i64 a0.Trace), (.int .i64 a0.Id), (.int .i64 a0.Revision), (.int .i64 a0.Parent), (.int .i64 a0.Clock), (.int .i64 a0.Kind)]) (v := (.ag [(.int .i64 a0.Trace), (.int .i64 a0.Id), (.int .i64 a0.Revision), (.int .i64 a0.Parent), (.int .i64 a0.Clock), (.int .i64 a0.Kind)])) sz157 I I I I I I I I) I ?_
 refine Zf <| Zg <| Zh <| Zc <| Z2 I (Zq (m := 3) (o := 0) I f38_0 I I) I <| Z2 I (Z11 (cs := (Z3 a1).cells) (v := (.int .i64 a1.Trace)) I o3 I I I) I <| Z2 I (Zq (m := 3) (o := 0) I f38_1 I I) I <| Z2 I (Z11 (cs := (Z3 a1).cells) (v := (.int .i64 a1.Id)) I o3 I I I) I ?_
 refine Z2 I (Zq (m := 3) (o := 0) I f38_3 I I) I <| Z2 I (Z11 (cs := (Z3 a1).cells) (v := (.int .i64 a1.Revision)) I o3 I I I) I <| Z2 I (Zq (m := 3) (o := 0) I f38_2 I I) I <| Z2 I (Z11 (cs := (Z3 a1).cells) (v := (.int .i64 a1.Parent)) I o3 I I I) I <| Z2 I (Zq (m := 3) (o := 0) I f38_4 I I) I <| Z2 I (Z11 (cs := (Z3 a1).cells) (v := (.int .i64 a1.Clock)) I o3 I I I) I <| Z2 I (Zq (m := 3) (o := 0) I f38_5 I I) I <| Z2 I (Z11 (cs := (Z3 a1).cells) (v := (.int .i64 a1.Kind)) I o3 I I I) I ?_
 refine Z2 I (stx_buildA (vs := [(0, (.int .i64 a1.Trace)), (1, (.int .i64 a1.Id)), (2, (.int .i64 a1.Revision)), (3, (.int .i64 a1.Parent)), (4, (.int .i64 a1.Clock)), (5, (.int .i64 a1.Kind))]) (cs := [(.int .i64 a1.Trace), (.int .i64 a1.Id), (.int .i64 a1.Revision), (.int .i64 a1.Parent), (.int .i64 a1.Clock), (.int .i64 a1.Kind)]) I ar157 ⟨rfl, rfl, rfl, rfl, rfl, rfl, rfl, rfl, rfl, rfl, rfl, rfl, trivial⟩ I) I <| Z2 I (st_alloc (cs := [(.int .i64 0), (.int .i64 0), (.int .i64 0), (.int .i64 0), (.int .i64 0), (.int .i64 0)]) I z157 I I I) I <| Z2 I (Z1m (cs := [(.int .i64 0), (.int .i64 0), (.int .i64 0), (.int .i64 0), (.int .i64 0), (.int .i64 0)]) (vs := [(.int .i64 a1.Trace), (.int .i64 a1.Id), (.int .i64 a1.Revision), (.int .i64 a1.Parent), (.int .i64 a1.Clock), (.int .i64 a1.Kind)]) (ds := [(.int .i64 a1.Trace), (.int .i64 a1.Id), (.int .i64 a1.Revision), (.int .i64 a1.Parent), (.int .i64 a1.Clock), (.int .i64 a1.Kind)]) (v := (.ag [(.int .i64 a1.Trace), (.int .i64 a1.Id), (.int .i64 a1.Revision), (.int .i64 a1.Parent), (.int .i64 a1.Clock), (.int .i64 a1.Kind)])) sz157 I I I I I I I I) I <| Zf <| Zg <| Zh <| AWp.ghost (st' := ⟨[(0, (Z3 a0)), (1, (Z3 a1)), (2, (.ptr 2 0)), (3, (.ptr 3 0)), (4, (.int .i64 0)), (5, (.ip [(.int .i64 a0.Trace), (.int .i64 a0.Id), (.int .i64 a0.Revision), (.int .i64 a0.Parent), (.int .i64 a0.Clock), (.int .i64 a0.Kind)])), (6, (.ptr 6 0)), (7, (.ptr 2 0)), (8, (.int .i64 a0.Trace)), (9, (.ptr 2 1)), (10, (.int .i64 a0.Id)), (11, (.ptr 2 3)), (12, (.int .i64 a0.Revision)), (13, (.ptr 2 2)), (14, (.int .i64 a0.Parent)), (15, (.ptr 2 4)), (16, (.int .i64 a0.Clock)), (17, (.ptr 2 5)), (18, (.int .i64 a0.Kind)), (19, (.ag [(.int .i64 a0.Trace), (.int .i64 a0.Id), (.int .i64 a0.Revision), (.int .i64 a0.Parent), (.int .i64 a0.Clock), (.int .i64 a0.Kind)])), (20, (.ptr 3 0)), (21, (.int .i64 a1.Trace)), (22, (.ptr 3 1)), (23, (.int .i64 a1.Id)), (24, (.ptr 3 3)), (25, (.int .i64 a1.Revision)), (26, (.ptr 3 2)), (27, (.int .i64 a1.Parent)), (28, (.ptr 3 4)), (29, (.int .i64 a1.Clock)), (30, (.ptr 3 5)), (31, (.int .i64 a1.Kind)), (32, (.ag [(.int .i64 a1.Trace), (.int .i64 a1.Id), (.int .i64 a1.Revision), (.int .i64 a1.Parent), (.int .i64 a1.Clock), (.int .i64 a1.Kind)]))], [(2, (.box (Z3 a0).cells)), (3, (.box (Z3 a1).cells)), (6, (.box [(.int .i64 a1.Trace), (.int .i64 a1.Id), (.int .i64 a1.Revision), (.int .i64 a1.Parent), (.int .i64 a1.Clock), (.int .i64 a1.Kind)]))]⟩) (fun a w h => (Z1a ⟨[(0, (Z3 a0)), (1, (Z3 a1)), (2, (.ptr 2 0)), (3, (.ptr 3 0)), (4, (.int .i64 0)), (5, (.ip [(.int .i64 a0.Trace), (.int .i64 a0.Id), (.int .i64 a0.Revision), (.int .i64 a0.Parent), (.int .i64 a0.Clock), (.int .i64 a0.Kind)])), (6, (.ptr 6 0)), (7, (.ptr 2 0)), (8, (.int .i64 a0.Trace)), (9, (.ptr 2 1)), (10, (.int .i64 a0.Id)), (11, (.ptr 2 3)), (12, (.int .i64 a0.Revision)), (13, (.ptr 2 2)), (14, (.int .i64 a0.Parent)), (15, (.ptr 2 4)), (16, (.int .i64 a0.Clock)), (17, (.ptr 2 5)), (18, (.int .i64 a0.Kind)), (19, (.ag [(.int .i64 a0.Trace), (.int .i64 a0.Id), (.int .i64 a0.Revision), (.int .i64 a0.Parent), (.int .i64 a0.Clock), (.int .i64 a0.Kind)])), (20, (.ptr 3 0)), (21, (.int .i64 a1.Trace)), (22, (.ptr 3 1)), (23, (.int .i64 a1.Id)), (24, (.ptr 3 3)), (25, (.int .i64 a1.Revision)), (26, (.ptr 3 2)), (27, (.int .i64 a1.Parent)), (28, (.ptr 3 4)), (29, (.int .i64 a1.Clock)), (30, (.ptr 3 5)), (31, (.int .i64 a1.Kind)), (32, (.ag [(.int .i64 a1.Trace), (.int .i64 a1.Id), (.int .i64 a1.Revision), (.int .i64 a1.Parent), (.int .i64 a1.Clock), (.int .i64 a1.Kind)]))], [(2, (.box (Z3 a0).cells)), (3, (.box (Z3 a1).cells)), (6, (.box [(.int .i64 a1.Trace), (.int .i64 a1.Id), (.int .i64 a1.Revision), (.int .i64 a1.Parent), (.int .i64 a1.Clock), (.int .i64 a1.Kind)]))]⟩ (ghost_freezeB (m := 5) (cs := [(.int .i64 a0.Trace), (.int .i64 a0.Id), (.int .i64 a0.Revision), (.int .i64 a0.Parent), (.int .i64 a0.Clock), (.int .i64 a0.Kind)]) I a w (Z1a ⟨[(0, (Z3 a0)), (1, (Z3 a1)), (2, (.ptr 2 0)), (3, (.ptr 3 0)), (4, (.int .i64 0)), (5, (.ptr 5 0)), (6, (.ptr 6 0)), (7, (.ptr 2 0)), (8, (.int .i64 a0.Trace)), (9, (.ptr 2 1)), (10, (.int .i64 a0.Id)), (11, (.ptr 2 3)), (12, (.int .i64 a0.Revision)), (13, (.ptr 2 2)), (14, (.int .i64 a0.Parent)), (15, (.ptr 2 4)), (16, (.int .i64 a0.Clock)), (17, (.ptr 2 5)), (18, (.int .i64 a0.Kind)), (19, (.ag [(.int .i64 a0.Trace), (.int .i64 a0.Id), (.int .i64 a0.Revision), (.int .i64 a0.Parent), (.int .i64 a0.Clock), (.int .i64 a0.Kind)])), (20, (.ptr 3 0)), (21, (.int .i64 a1.Trace)), (22, (.ptr 3 1)), (23, (.int .i64 a1.Id)), (24, (.ptr 3 3)), (25, (.int .i64 a1.Revision)), (26, (.ptr 3 2)), (27, (.int .i64 a1.Parent)), (28, (.ptr 3 4)), (29, (.int .i64 a1.Clock)), (30, (.ptr 3 5)), (31, (.int .i64 a1.Kind)), (32, (.ag [(.int .i64 a1.Trace), (.int .i64 a1.Id), (.int .i64 a1.Revision), (.int .i64 a1.Parent), (.int .i64 a1.Clock), (.int .i64 a1.Kind)]))], [(5, (.box [(.int .i64 a0.Trace), (.int .i64 a0.Id), (.int .i64 a0.Revision), (.int .i64 a0.Parent), (.int .i64 a0.Clock), (.int .i64 a0.Kind)])), (2, (.box (Z3 a0).cells)), (3, (.box (Z3 a1).cells)), (6, (.box [(.int .i64 a1.Trace), (.int .i64 a1.Id), (.int .i64 a1.Revision), (.int .i64 a1.Parent), (.int .i64 a1.Clock), (.int .i64 a1.Kind)]))]⟩ h ⟨rfl, rfl, rfl, rfl, rfl, rfl, rfl, rfl, rfl, rfl, rfl, rfl, rfl, rfl, rfl, rfl, rfl, rfl, rfl, rfl, rfl, rfl, rfl, rfl, rfl, rfl, rfl, rfl, rfl, rfl, rfl, rfl, rfl, trivial⟩ ⟨rfl, rfl, rfl, rfl, trivial⟩)) ⟨rfl, rfl, rfl, rfl, rfl, rfl, rfl, rfl, rfl, rfl, rfl, rfl, rfl, rfl, rfl, rfl, rfl, rfl, rfl, rfl, rfl, rfl, rfl, rfl, rfl, rfl, rfl, rfl, rfl, rfl, rfl, rfl, rfl, trivial⟩ ⟨rfl, rfl, rfl, trivial⟩)) <| AWp.ghost (st' := ⟨[(0, (Z3 a0)), (1, (Z3 a1)), (2, (.ptr 2 0)), (3, (.ptr 3 0)), (4, (.int .i64 0)), (5, (.ip [(.int .i64 a0.Trace), (.int .i64 a0.Id), (.int .i64 a0.Revision), (.int .i64 a0.Parent), (.int .i64 a0.Clock), (.int .i64 a0.Kind)])), (6, (.ip [(.int .i64 a1.Trace), (.int .i64 a1.Id), (.int .i64 a1.Revision), (.int .i64 a1.Parent), (.int .i64 a1.Clock), (.int .i64 a1.Kind)])), (7, (.ptr 2 0)), (8, (.int .i64 a0.Trace)), (9, (.ptr 2 1)), (10, (.int .i64 a0.Id)), (11, (.ptr 2 3)), (12, (.int .i64 a0.Revision)), (13, (.ptr 2 2)), (14, (.int .i64 a0.Parent)), (15, (.ptr 2 4)), (16, (.int .i64 a0.Clock)), (17, (.ptr 2 5)), (18, (.int .i64 a0.Kind)), (19, (.ag [(.int .i64 a0.Trace), (.int .i64 a0.Id), (.int .i64 a0.Revision), (.int .i64 a0.Parent), (.int .i64 a0.Clock), (.int .i64 a0.Kind)])), (20, (.ptr 3 0)), (21, (.int .i64 a1.Trace)), (22, (.ptr 3 1)), (23, (.int .i64 a1.Id)), (24, (.ptr 3 3)), (25, (.int .i64 a1.Revision)), (26, (.ptr 3 2)), (27, (.int .i64 a1.Parent)), (28, (.ptr 3 4)), (29, (.int .i64 a1.Clock)), (30, (.ptr 3 5)), (31, (.int .i64 a1.Kind)), (32, (.ag [(.int .i64 a1.Trace), (.int .i64 a1.Id), (.int .i64 a1.Revision), (.int .i64 a1.Parent), (.int .i64 a1.Clock), (.int .i64 a1.Kind)]))], [(2, (.box (Z3 a0).cells)), (3, (.box (Z3 a1).cells))]⟩) (fun a w h => (Z1a ⟨[(0, (Z3 a0)), (1, (Z3 a1)), (2, (.ptr 2 0)), (3, (.ptr 3 0)), (4, (.int .i64 0)), (5, (.ip [(.int .i64 a0.Trace), (.int .i64 a0.Id), (.int .i64 a0.Revision), (.int .i64 a0.Parent), (.int .i64 a0.Clock), (.int .i64 a0.Kind)])), (6, (.ip [(.int .i64 a1.Trace), (.int .i64 a1.Id), (.int .i64 a1.Revision), (.int .i64 a1.Parent), (.int .i64 a1.Clock), (.int .i64 a1.Kind)])), (7, (.ptr 2 0)), (8, (.int .i64 a0.Trace)), (9, (.ptr 2 1)), (10, (.int .i64 a0.Id)), (11, (.ptr 2 3)), (12, (.int .i64 a0.Revision)), (13, (.ptr 2 2)), (14, (.int .i64 a0.Parent)), (15, (.ptr 2 4)), (16, (.int .i64 a0.Clock)), (17, (.ptr 2 5)), (18, (.int .i64 a0.Kind)), (19, (.ag [(.int .i64 a0.Trace), (.int .i64 a0.Id), (.int .i64 a0.Revision), (.int .i64 a0.Parent), (.int .i64 a0.Clock), (.int .i64 a0.Kind)])), (20, (.ptr 3 0)), (21, (.int .i64 a1.Trace)), (22, (.ptr 3 1)), (23, (.int .i64 a1.Id)), (24, (.ptr 3 3)), (25, (.int .i64 a1.Revision)), (26, (.ptr 3 2)), (27, (.int .i64 a1.Parent)), (28, (.ptr 3 4)), (29, (.int .i64 a1.Clock)), (30, (.ptr 3 5)), (31, (.int .i64 a1.Kind)), (32, (.ag [(.int .i64 a1.Trace), (.int .i64 a1.Id), (.int .i64 a1.Revision), (.int .i64 a1.Parent), (.int .i64 a1.Clock), (.int .i64 a1.Kind)]))], [(2, (.box (Z3 a0).cells)), (3, (.box (Z3 a1).cells))]⟩ (ghost_freezeB (m := 6) (cs := [(.int .i64 a1.Trace), (.int .i64 a1.Id), (.int .i64 a1.Revision), (.int .i64 a1.Parent), (.int .i64 a1.Clock), (.int .i64 a1.Kind)]) I a w (Z1a ⟨[(0, (Z3 a0)), (1, (Z3 a1)), (2, (.ptr 2 0)), (3, (.ptr 3 0)), (4, (.int .i64 0)), (5, (.ip [(.int .i64 a0.Trace), (.int .i64 a0.Id), (.int .i64 a0.Revision), (.int .i64 a0.Parent), (.int .i64 a0.Clock), (.int .i64 a0.Kind)])), (6, (.ptr 6 0)), (7, (.ptr 2 0)), (8, (.int .i64 a0.Trace)), (9, (.ptr 2 1)), (10, (.int .i64 a0.Id)), (11, (.ptr 2 3)), (12, (.int .i64 a0.Revision)), (13, (.ptr 2 2)), (14, (.int .i64 a0.Parent)), (15, (.ptr 2 4)), (16, (.int .i64 a0.Clock)), (17, (.ptr 2 5)), (18, (.int .i64 a0.Kind)), (19, (.ag [(.int .i64 a0.Trace), (.int .i64 a0.Id), (.int .i64 a0.Revision), (.int .i64 a0.Parent), (.int .i64 a0.Clock), (.int .i64 a0.Kind)])), (20, (.ptr 3 0)), (21, (.int .i64 a1.Trace)), (22, (.ptr 3 1)), (23, (.int .i64 a1.Id)), (24, (.ptr 3 3)), (25, (.int .i64 a1.Revision)), (26, (.ptr 3 2)), (27, (.int .i64 a1.Parent)), (28, (.ptr 3 4)), (29, (.int .i64 a1.Clock)), (30, (.ptr 3 5)), (31, (.int .i64 a1.Kind)), (32, (.ag [(.int .i64 a1.Trace), (.int .i64 a1.Id), (.int .i64 a1.Revision), (.int .i64 a1.Parent), (.int .i64 a1.Clock), (.int .i64 a1.Kind)]))], [(6, (.box [(.int .i64 a1.Trace), (.int .i64 a1.Id), (.int .i64 a1.Revision), (.int .i64 a1.Parent), (.int .i64 a1.Clock), (.int .i64 a1.Kind)])), (2, (.box (Z3 a0).cells)), (3, (.box (Z3 a1).cells))]⟩ h ⟨rfl, rfl, rfl, rfl, rfl, rfl, rfl, rfl, rfl, rfl, rfl, rfl, rfl, rfl, rfl, rfl, rfl, rfl, rfl, rfl, rfl, rfl, rfl, rfl, rfl, rfl, rfl, rfl, rfl, rfl, rfl, rfl, rfl, trivial⟩ ⟨rfl, rfl, rfl, trivial⟩)) ⟨rfl, rfl, rfl, rfl, rfl, rfl, rfl, rfl, rfl, rfl, rfl, rfl, rfl, rfl, rfl, rfl, rfl, rfl, rfl, rfl, rfl, rfl, rfl, rfl, rfl, rfl, rfl, rfl, rfl, rfl, rfl, rfl, rfl, trivial⟩ ⟨rfl, rfl, trivial⟩)) ?_
 refine Z1s mixed <| Z7 0 I (st_sliceI (l := [a0.Trace, a0.Id, a0.Revision, a0.Parent, a0.Clock, a0.Kind]) (enc := Z1k) (cs := [(.int .i64 a0.Trace), (.int .i64 a0.Id), (.int .i64 a0.Revision), (.int .i64 a0.Parent), (.int .i64 a0.Clock), (.int .i64 a0.Kind)]) I u157 sz3 I I I I els_i64) <| Z7 1 I (st_sliceI (l := [a1.Trace, a1.Id, a1.Revision, a1.Parent, a1.Clock, a1.Kind]) (enc := Z1k) (cs := [(.int .i64 a1.Trace), (.int .i64 a1.Id), (.int .i64 a1.Revision), (.int .i64 a1.Parent), (.int .i64 a1.Clock), (.int .i64 a1.Kind)]) I u157 sz3 I I I I els_i64) ?_
 have ⟨v2, hv2, h⟩ := Z19 h
 refine Z7 2 I (Z17 (ar := [(.sl 1 ([a0.Trace, a0.Id, a0.Revision, a0.Parent, a0.Clock, a0.Kind].map Z1k) false), (.sl 1 ([a1.Trace, a1.Id, a1.Revision, a1.Parent, a1.Clock, a1.Kind].map Z1k) false)]) (caps := []) Try.call105 (F105_ok K [a0.Trace, a0.Id, a0.Revision, a0.Parent, a0.Clock, a0.Kind] [a1.Trace, a1.Id, a1.Revision, a1.Parent, a1.Clock, a1.Kind] v2 hv2) I I ⟨rfl, rfl, trivial⟩ I) <| Z7 3 I (Zq (m := 2) (o := 0) I f38_6 I I) <| Z7 4 I (Z11 (cs := (Z3 a0).cells) (v := (.str a0.Service)) I o9 I I I) <| Z7 5 I (Zq (m := 3) (o := 0) I f38_6 I I) <| Z7 6 I (Z11 (cs := (Z3 a1).cells) (v := (.str a1.Service)) I o9 I I I) ?_
 have ⟨v4, hv4, h⟩ := Z19 h
 refine Z7 7 I (Z17 (ar := [(.str a0.Service), (.str a1.Service)]) (caps := []) Try.call106 (F106_ok K a0.Service a1.Service v4 hv4) I I ⟨rfl, rfl, trivial⟩ I) <| Z7 8 I (Zq (m := 2) (o := 0) I f38_7 I I) <| Z7 9 I (Z11 (cs := (Z3 a0).cells) (v := (.str a0.Version)) I o9 I I I) <| Z7 10 I (Zq (m := 3) (o := 0) I f38_7 I I) <| Z7 11 I (Z11 (cs := (Z3 a1).cells) (v := (.str a1.Version)) I o9 I I I) ?_
 have ⟨v6, hv6, h⟩ := Z19 h
 refine Z7 12 I (Z17 (ar := [(.str a0.Version), (.str a1.Version)]) (caps := []) Try.call106 (F106_ok K a0.Version a1.Version v6 hv6) I I ⟨rfl, rfl, trivial⟩ I) <| Z7 13 I (Zq (m := 2) (o := 0) I f38_8 I I) <| Z7 14 I (Z11 (cs := (Z3 a0).cells) (v := (.str a0.Operation)) I o9 I I I) <| Z7 15 I (Zq (m := 3) (o := 0) I f38_8 I I) <| Z7 16 I (Z11 (cs := (Z3 a1).cells) (v := (.str a1.Operation)) I o9 I I I) ?_
 have ⟨v8, hv8, h⟩ := Z19 h
 refine Z7 17 I (Z17 (ar := [(.str a0.Operation), (.str a1.Operation)]) (caps := []) Try.call106 (F106_ok K a0.Operation a1.Operation v8 hv8) I I ⟨rfl, rfl, trivial⟩ I) <| Z7 18 I (Zq (m := 2) (o := 0) I f38_9 I I) <| Z7 19 I (Z11 (cs := (Z3 a0).cells) (v := (.int .i64 a0.Start)) I o3 I I I) <| Z7 20 I (Zq (m := 3) (o := 0) I f38_9 I I) <| Z7 21 I (Z11 (cs := (Z3 a1).cells) (v := (.int .i64 a1.Start)) I o3 I I I) ?_
 have ⟨v10, hv10, h⟩ := Z19 h
 refine Z7 22 I (Z17 (ar := [(.int .i64 a0.Start), (.int .i64 a1.Start)]) (caps := []) Try.call51 (F51_ok K a0.Start a1.Start v10 hv10) I I ⟨rfl, rfl, trivial⟩ I) <| Z7 23 I (Zq (m := 2) (o := 0) I f38_10 I I) <| Z7 24 I (Z11 (cs := (Z3 a0).cells) (v := (.int .i64 a0.End)) I o3 I I I) <| Z7 25 I (Zq (m := 3) (o := 0) I f38_10 I I) <| Z7 26 I (Z11 (cs := (Z3 a1).cells) (v := (.int .i64 a1.End)) I o3 I I I) ?_
 have ⟨v12, hv12, h⟩ := Z19 h
 refine Z7 27 I (Z17 (ar := [(.int .i64 a0.End), (.int .i64 a1.End)]) (caps := []) Try.call51 (F51_ok K a0.End a1.End v12 hv12) I I ⟨rfl, rfl, trivial⟩ I) <| Z7 28 I (Zq (m := 2) (o := 0) I f38_11 I I) <| Z7 29 I (Z11 (cs := (Z3 a0).cells) (v := (.bool a0.Error)) I o4 I I I) ?_
 have ⟨v14, hv14, h⟩ := Z19 h
 refine Z7 30 I (Z17 (ar := [(.bool a0.Error)]) (caps := []) Try.call107 (F107_ok K a0.Error v14 hv14) I I ⟨rfl, trivial⟩ I) <| Z7 31 I (Zq (m := 3) (o := 0) I f38_11 I I) <| Z7 32 I (Z11 (cs := (Z3 a1).cells) (v := (.bool a1.Error)) I o4 I I I) ?_
 have ⟨v16, hv16, h⟩ := Z19 h
 refine Z7 33 I (Z17 (ar := [(.bool a1.Error)]) (caps := []) Try.call107 (F107_ok K a1.Error v16 hv16) I I ⟨rfl, trivial⟩ I) <| Z7 34 I (Z1h (k := .i64) (a := v14) (b := v16) (c := (IntKind.i64.wrap (v14 - v16))) I I I I) <| Z7 35 I (Zq (m := 2) (o := 0) I f38_12 I I) <| Z7 36 I (Z11 (cs := (Z3 a0).cells) (v := (.sl 4 (a0.Attrs.map Zv) false)) I o35 I I I) <| Z7 37 I (Zq (m := 3) (o := 0) I f38_12 I I) <| Z7 38 I (Z11 (cs := (Z3 a1).cells) (v := (.sl 4 (a1.Attrs.map Zv) false)) I o35 I I I) ?_
 have ⟨v18, hv18, h⟩ := Z19 h
 refine Z7 39 I (Z17 (ar := [(.sl 4 (a0.Attrs.map Zv) false), (.sl 4 (a1.Attrs.map Zv) false)]) (caps := []) Try.call108 (F108_ok K a0.Attrs a1.Attrs v18 hv18) I I ⟨rfl, rfl, trivial⟩ I) <| Z7 40 I (Zq (m := 2) (o := 0) I f38_13 I I) <| Z7 41 I (Z11 (cs := (Z3 a0).cells) (v := (.sl 2 (a0.Links.map Zk) false)) I o36 I I I) <| Z7 42 I (Zq (m := 3) (o := 0) I f38_13 I I) <| Z7 43 I (Z11 (cs := (Z3 a1).cells) (v := (.sl 2 (a1.Links.map Zk) false)) I o36 I I I) ?_
 have ⟨v20, hv20, h⟩ := Z19 h
 refine Z7 44 I (Z17 (ar := [(.sl 2 (a0.Links.map Zk) false), (.sl 2 (a1.Links.map Zk) false), (.clo 52 [])]) (caps := []) Try.call109 (F109_ok K a0.Links a1.Links v20 hv20) I I ⟨rfl, rfl, rfl, trivial⟩ I) <| Z7 45 I (Z1f (vs := [(.int .i64 v2), (.int .i64 v4), (.int .i64 v6), (.int .i64 v8), (.int .i64 v10), (.int .i64 v12), (.int .i64 (IntKind.i64.wrap (v14 - v16))), (.int .i64 v18), (.int .i64 v20)]) (enc := Z1k) (l := [v2, v4, v6, v8, v10, v12, (IntKind.i64.wrap (v14 - v16)), v18, v20]) I el87 I I ⟨rfl, rfl, rfl, rfl, rfl, rfl, rfl, rfl, rfl, trivial⟩ I els_i64 I I I I) ?_
 have ⟨v22, hv22, h⟩ := Z19 h
 refine Z7 46 I (st_callB (rd := [(78, (.vec 1 (List.map Z1k [v2, v4, v6, v8, v10, v12, (IntKind.i64.wrap (v14 - v16)), v18, v20])))]) (ar := [(.vs 78)]) (caps := []) Try.call50 (F50_ok K [v2, v4, v6, v8, v10, v12, (IntKind.i64.wrap (v14 - v16)), v18, v20] v22 hv22) I I ⟨rfl, trivial⟩ (subS_mem ⟨rfl, trivial⟩) I I I) <| Z7 47 I (Zj (v := (.int .i64 v22)) I I) <| Z1v (by kernel_rfl) I <| Zg <| Z1e ?_
 have h := Option.some.inj h
 subst h
 refine (hret _ ?_).1
 exact ⟨[(.int .i64 v22)], ⟨rfl, trivial⟩, rfl, trivial⟩
def F84 (K : Nat) (a000 : (List Zd)) : Option ((List Zd)) :=
 (F102 K a000).bind fun v2 =>
  (sortF (fun a b => F86 K a b) v2).bind fun v4 =>
   some v4
theorem F84_ok (K : Nat) (a000 : (List Zd)) (r : (List Zd)) (h : F84 K a000 = some r) : ACall P 84 ⟨[(.clo 104 [(.ip [(.sl 14 (a000.map Z3) false)])]), (.clo 86 [])], [], .vs 4, [(4, .vec 14 (List.map Z3 r))], [4]⟩ := by
 refine Z1t Try.func84 Try.results84 rfl Try.ntmps84 rfl rfl rfl ?_
 intro E Q hP hN hro hret
 obtain ⟨P', nt', w0, F0, p0, S0, β0, ro0⟩ := E
 simp only at hP hN
 subst hP hN
 dsimp only [argT]
 unfold F84 at h
 refine Zh <| Zc <| Z2 I (Zj (v := (.sl 14 [] false)) I I) I <| Zf <| Zg <| Zh <| Zc <| Z2 I (Zi (v := (.clo 104 [(.ip [(.sl 14 (a000.map Z3) false)])])) I I) I ?_
 have ⟨v2, hv2, h⟩ := Z19 h
 refine Z2 I (st_callO (sz := 14) (es := (List.map Z3 v2)) (ar := [(.clo 104 [(.ip [(.sl 14 (a000.map Z3) false)])])]) (caps := []) Try.call102 ((F102_ok K a000 v2 hv2).sw 2 7) I I ⟨rfl, trivial⟩ I) I <| Z2 I (Zj (v := (.vs 7)) I I) I <| Zf <| Zg <| Zh <| Zc <| Z2 I (Zi (v := (.vs 7)) I I) I <| Z2 I (Zi (v := (.clo 86 [])) I I) I ?_
 have ⟨v4, hv4, h⟩ := Z19 h
 refine Z2 I (st_call (d := some 10) (c := ⟨[(.vs 7), (.clo 86 [])], [(7, (.vec 14 (List.map Z3 v2)))], .tup [], [(7, .vec 14 (List.map Z3 v4))], []⟩) (ar := [(.vs 7), (.clo 86 [])]) (caps := []) (news := []) (forg := []) Try.call103 (sort_ok (n := 7) (enc := Z3) (l := v2) (caps := []) (c := (fun a b => F86 K a b)) sortC103 Try.call86 els_Tapi_Span (fun _ => I) (fun a b m hm => F86_ok K a b m hm) hv4) I I ⟨rfl, rfl, trivial⟩ I ⟨rfl, trivial⟩ I) I <| Zf <| Zg <| Zh <| Zc <| Z2 I (Zi (v := (.vs 7)) I I) I <| Z2 I (Zj (v := (.vs 7)) I I) I <| Zf ?_
 refine Zg <| Z1e <| At.ghost (st' := ⟨[(4, (.vs 4))], [(4, (.vec 14 (List.map Z3 v4)))]⟩) (fun a w h => (Z1a ⟨[(4, (.vs 4))], [(4, (.vec 14 (List.map Z3 v4)))]⟩ (ghost_sw (a := 7) (b := 4) I I a w (Z1a ⟨[(4, (.vs 7))], [(7, (.vec 14 (List.map Z3 v4)))]⟩ h ⟨rfl, trivial⟩ ⟨rfl, trivial⟩)) ⟨rfl, trivial⟩ ⟨rfl, trivial⟩)) ?_
 have h := Option.some.inj h
 subst h
 refine (hret _ ?_).1
 exact ⟨[(.vs 4)], ⟨rfl, trivial⟩, rfl, ⟨rfl, trivial⟩⟩
def F87 (K : Nat) (a0 : Zd) (a1 : Zd) : Option (Bool) :=
 (F86 K a0 a1).bind fun v2 =>
  some (v2 == 0)
theorem F87_ok (K : Nat) (a0 : Zd) (a1 : Zd) (r : Bool) (h : F87 K a0 a1 = some r) : ACall P 87 ⟨[(Z3 a0), (Z3 a1)], [], (.bool r), [], []⟩ := by
 refine Z1t Try.func87 Try.results87 rfl Try.ntmps87 rfl rfl rfl ?_
 intro E Q hP hN hro hret
 obtain ⟨P', nt', w0, F0, p0, S0, β0, ro0⟩ := E
 simp only at hP hN
 subst hP hN
 dsimp only [argT]
 unfold F87 at h
 refine Zh <| Zc <| Z2 I (st_box (v := (Z3 a0)) (cs := (Z3 a0).cells) I I I I I) I <| Z2 I (st_box (v := (Z3 a1)) (cs := (Z3 a1).cells) I I I I I) I <| Z2 I (Zj (v := (.bool false)) I I) I <| Zf <| Zg <| Zh ?_
 refine Zc <| Z2 I (Z1b (cs := (Z3 a0).cells) (vs := (Z3 a0).cells) I a38 I I I I) I <| Z2 I (Z1b (cs := (Z3 a1).cells) (vs := (Z3 a1).cells) I a38 I I I I) I ?_
 have ⟨v2, hv2, h⟩ := Z19 h
 refine Z2 I (Z17 (ar := [(Z3 a0), (Z3 a1)]) (caps := []) Try.call86 (F86_ok K a0 a1 v2 hv2) I I ⟨rfl, rfl, trivial⟩ I) I <| Z2 I (Z1o (k := .i64) (a := v2) (b := 0) (c := (v2 == 0)) I I I I) I <| Z2 I (Zj (v := (.bool (v2 == 0))) I I) I <| Zf <| Zg <| Z1e ?_
 have h := Option.some.inj h
 subst h
 refine (hret _ ?_).1
 exact ⟨[(.bool (v2 == 0))], ⟨rfl, trivial⟩, rfl, trivial⟩
def F83_c3 (K : Nat) (a0 : (List Zd)) : Option ((List Zd)) :=
 some a0
def F83_c20 (K : Nat) (v18 : Int) (v19 : (List Zd)) : Option ((List Zd)) :=
 if (0 : Int) ≤ v18 ∧ v18 ≤ (v19.length : Int) ∧ (v19.length : Int) ≤ (v19.length : Nat) then
  if (0 + v18.toNat) + ((v19.length : Int).toNat - v18.toNat) ≤ v19.length then
   if (0 + v18.toNat) + ((v19.length : Int).toNat - v18.toNat) ≤ v19.length then
    if (0 : Int) ≤ 0 ∧ 0 ≤ v18 ∧ v18 ≤ ((v19.take (0 + v18.toNat) ++ List.replicate ((v19.length : Int).toNat - v18.toNat) Z1 ++ v19.drop ((0 + v18.toNat) + ((v19.length : Int).toNat - v18.toNat))).length : Nat) then
     if (0 + (0 : Int).toNat) + (v18.toNat - (0 : Int).toNat) ≤ (v19.take (0 + v18.toNat) ++ List.replicate ((v19.length : Int).toNat - v18.toNat) Z1 ++ v19.drop ((0 + v18.toNat) + ((v19.length : Int).toNat - v18.toNat))).length then
      some (((v19.take (0 + v18.toNat) ++ List.replicate ((v19.length : Int).toNat - v18.toNat) Z1 ++ v19.drop ((0 + v18.toNat) + ((v19.length : Int).toNat - v18.toNat))).drop (0 + (0 : Int).toNat)).take (v18.toNat - (0 : Int).toNat))
     else none
    else none
   else none
  else none
 else none
def F83_j39 (K : Nat) (b27 : Int → Int → (List Zd) → Option ((List Zd))) (v15 : Int) (v37 : Int) (v38 : (List Zd)) : Option ((List Zd)) :=
 b27 v37 (IntKind.i64.wrap (v15 + 1)) v38
def F83_l17 (K : Nat) (v1 : Int) (a0 : (List Zd)) (c21 : Int → (List Zd) → Option ((List Zd))) : Nat → Int → Int → (List Zd) → Option ((List Zd))
 | 0, _, _, _ => none
 | k17 + 1, v14, v15, v16 =>
  if (0 + v1.toNat) + ((a0.length : Int).toNat - v1.toNat) ≤ v16.length then
   if (decide (v15 < ((((a0.length : Int).toNat - v1.toNat) : Nat) : Int))) = true then
    if (0 + v1.toNat) + ((a0.length : Int).toNat - v1.toNat) ≤ v16.length then
     if (0 : Int) ≤ v15 ∧ v15 < (((a0.length : Int).toNat - v1.toNat) : Nat) then
      if ((0 + v1.toNat) + v15.toNat) < v16.length then
       if (0 + v1.toNat) + ((a0.length : Int).toNat - v1.toNat) ≤ v16.length then
        if (0 : Int) ≤ (IntKind.i64.wrap (v15 - 1)) ∧ (IntKind.i64.wrap (v15 - 1)) < (((a0.length : Int).toNat - v1.toNat) : Nat) then
         if ((0 + v1.toNat) + (IntKind.i64.wrap (v15 - 1)).toNat) < v16.length then
          (F87 K (v16.getD ((0 + v1.toNat) + v15.toNat) Z1) (v16.getD ((0 + v1.toNat) + (IntKind.i64.wrap (v15 - 1)).toNat) Z1)).bind fun v36 =>
           if (!v36) = true then
            if (0 + v1.toNat) + ((a0.length : Int).toNat - v1.toNat) ≤ v16.length then
             if (0 : Int) ≤ v15 ∧ v15 < (((a0.length : Int).toNat - v1.toNat) : Nat) then
              if ((0 + v1.toNat) + v15.toNat) < v16.length then
               if (0 : Int) ≤ v14 ∧ v14 < (v16.length : Nat) then
                if v14.toNat < v16.length then
                 F83_j39 K (F83_l17 K v1 a0 c21 k17) v15 (IntKind.i64.wrap (v14 + 1)) (v16.set v14.toNat (v16.getD ((0 + v1.toNat) + v15.toNat) Z1))
                else none
               else none
              else none
             else none
            else none
           else
            F83_j39 K (F83_l17 K v1 a0 c21 k17) v15 v14 v16
         else none
        else none
       else none
      else none
     else none
    else none
   else
    c21 v14 v16
  else none
def F83_l2 (K : Nat) (a0 : (List Zd)) (c4 : Option ((List Zd))) : Nat → Int → Option ((List Zd))
 | 0, _ => none
 | k2 + 1, v1 =>
  if (decide (v1 < (a0.length : Int))) = true then
   if (0 : Int) ≤ v1 ∧ v1 < (a0.length : Nat) then
    if v1.toNat < a0.length then
     if (0 : Int) ≤ (IntKind.i64.wrap (v1 - 1)) ∧ (IntKind.i64.wrap (v1 - 1)) < (a0.length : Nat) then
      if (IntKind.i64.wrap (v1 - 1)).toNat < a0.length then
       (F87 K (a0.getD v1.toNat Z1) (a0.getD (IntKind.i64.wrap (v1 - 1)).toNat Z1)).bind fun v11 =>
        if v11 = true then
         if (0 : Int) ≤ v1 ∧ v1 ≤ (a0.length : Int) ∧ (a0.length : Int) ≤ (a0.length : Nat) then
          if (0 + v1.toNat) + ((a0.length : Int).toNat - v1.toNat) ≤ a0.length then
           F83_l17 K v1 a0 (F83_c20 K) K v1 1 a0
          else none
         else none
        else
         (F83_l2 K a0 c4 k2) (IntKind.i64.wrap (v1 + 1))
      else none
     else none
    else none
   else none
  else
   c4
def F83 (K : Nat) (a0 : (List Zd)) : Option ((List Zd)) :=
 if (decide ((a0.length : Int) < 2)) = true then
  some a0
 else
  F83_l2 K a0 (F83_c3 K a0) K 1
theorem F83_ok (K : Nat) (a0 : (List Zd)) (r : (List Zd)) (h : F83 K a0 = some r) : ACall P 83 ⟨[(.vs 0), (.clo 87 [])], [(0, .vec 14 (List.map Z3 a0))], .vs 0, [(0, .vec 14 (List.map Z3 r))], [0]⟩ := by
 refine Z1t Try.func83 Try.results83 rfl Try.ntmps83 rfl rfl rfl ?_
 intro E Q hP hN hro hret
 obtain ⟨P', nt', w0, F0, p0, S0, β0, ro0⟩ := E
 simp only at hP hN
 subst hP hN
 dsimp only [argT]
 unfold F83 at h
 refine Zh <| Zc <| Z2 I (Zj (v := (.sl 14 [] false)) I I) I <| Zf <| Zg <| Zh <| Zh <| Zc ?_
 refine Z2 I (Zi (v := (.vs 0)) I I) I <| Z2 I (stx_lenV (l := a0) (enc := Z3) I u33 I I) I <| Z2 I (Z1o (k := .i64) (a := (a0.length : Int)) (b := 2) (c := (decide ((a0.length : Int) < 2))) I I I I) I <| Zf <| Zg ?_
 have hif := Z1u h
 refine Z16 I (fun hc => ?_) (fun hc => ?_)
 ·have h := hif.1 hc
  refine Zh <| Zc <| Z2 I (Zi (v := (.vs 0)) I I) I <| Z2 I (Zj (v := (.vs 0)) I I) I <| Zf <| Zg <| Z1e <| Z1i ?_
  have h := Option.some.inj h
  subst h
  refine (hret _ ?_).1
  exact ⟨[(.vs 0)], ⟨rfl, trivial⟩, rfl, ⟨rfl, trivial⟩⟩
 ·have h := hif.2 hc
  refine Z18 <| Zg <| Zh <| Zh <| Zc <| Z2 I (Zj (v := (.int .i64 1)) I I) I <| Zf <| Zg ?_
  refine Z1x (st' := ⟨[(0, (.vs 0)), (1, (.clo 87 [])), (5, (.int .i64 1))], [(0, (.vec 14 (List.map Z3 a0)))]⟩) ⟨rfl, rfl, rfl, trivial⟩ ⟨rfl, trivial⟩ ?_
  refine Z1j (V := Int) (X := Unit) (lp := fun k v => F83_l2 K a0 (F83_c3 K a0) k v = some r) (sh := fun v => ⟨[(0, (.vs 0)), (1, (.clo 87 [])), (5, (.int .i64 v))], [(0, (.vec 14 (List.map Z3 a0)))]⟩) (x := fun v => F83_c3 K a0 = some r) (shx := fun v => ⟨[(0, (.vs 0))], [(0, (.vec 14 (List.map Z3 a0)))]⟩) (k := K) (v := 1) h ?_ ?_
  ·intro v h
   try dsimp only at h ⊢
   unfold F83_c3 at h
   refine Zg <| Zh <| Zc <| Z2 I (Zi (v := (.vs 0)) I I) I <| Z2 I (Zj (v := (.vs 0)) I I) I <| Zf <| Zg <| Z1e ?_
   have h := Option.some.inj h
   subst h
   refine (hret _ ?_).1
   exact ⟨[(.vs 0)], ⟨rfl, trivial⟩, rfl, ⟨rfl, trivial⟩⟩
  ·intro N k2 v h IH2 J2
   revert h
   revert v
   intro v1 h
   try dsimp only at h IH2 J2 ⊢
   cases k2 with
   | zero => cases h
   | succ k2 =>
    rw [F83_l2] at h
    refine Zh <| Zh <| Zc <| Z2 I (Zi (v := (.int .i64 v1)) I I) I <| Z2 I (Zi (v := (.vs 0)) I I) I <| Z2 I (stx_lenV (l := a0) (enc := Z3) I u33 I I) I <| Z2 I (Z1o (k := .i64) (a := v1) (b := (a0.length : Int)) (c := (decide (v1 < (a0.length : Int)))) I I I I) I <| Zf ?_
    refine Zg ?_
    have hif := Z1u h
    refine Z16 I (fun hc => ?_) (fun hc => ?_)
    ·have h := hif.1 hc
     refine Z18 <| Zg <| Zh <| AWp.block <| Zh <| Z1s mixed <| Z7 0 I (Zi (v := (.clo 87 [])) I I) <| Z7 1 I (Zi (v := (.vs 0)) I I) ?_
     refine Z7 2 I (Zi (v := (.int .i64 v1)) I I) ?_
     have ⟨hg6, h⟩ := Z10 h
     refine Z7 3 I (st_indexV (k := .i64) (v := (.vs 0)) (n := 0) (off := 0) (len := a0.length) (es := (List.map Z3 a0)) (j := v1) (m := v1.toNat) I s33 I I (vecR_map _ _ _) I hg6 (Nat.zero_add _)) ?_
     have ⟨hg7, h⟩ := Z10 h
     refine Z7 4 I (st_loadVA (l := a0) (enc := Z3) (z := Z1) (vs := (Z3 (a0.getD v1.toNat Z1)).cells) I a38 I I hg7 I I) <| Z7 5 I (Zi (v := (.vs 0)) I I) <| Z7 6 I (Zi (v := (.int .i64 v1)) I I) <| Z7 7 I (Z1h (k := .i64) (a := v1) (b := 1) (c := (IntKind.i64.wrap (v1 - 1))) I I I I) ?_
     have ⟨hg8, h⟩ := Z10 h
     refine Z7 8 I (st_indexV (k := .i64) (v := (.vs 0)) (n := 0) (off := 0) (len := a0.length) (es := (List.map Z3 a0)) (j := (IntKind.i64.wrap (v1 - 1))) (m := (IntKind.i64.wrap (v1 - 1)).toNat) I s33 I I (vecR_map _ _ _) I hg8 (Nat.zero_add _)) ?_
     have ⟨hg9, h⟩ := Z10 h
     refine Z7 9 I (st_loadVA (l := a0) (enc := Z3) (z := Z1) (vs := (Z3 (a0.getD (IntKind.i64.wrap (v1 - 1)).toNat Z1)).cells) I a38 I I hg9 I I) ?_
     have ⟨v11, hv11, h⟩ := Z19 h
     refine Z7 10 I (Z17 (ar := [(Z3 (a0.getD v1.toNat Z1)), (Z3 (a0.getD (IntKind.i64.wrap (v1 - 1)).toNat Z1))]) (caps := []) Try.call87 (F87_ok K (a0.getD v1.toNat Z1) (a0.getD (IntKind.i64.wrap (v1 - 1)).toNat Z1) v11 hv11) I I ⟨rfl, rfl, trivial⟩ I) <| Z1v (by kernel_rfl) I <| Zg ?_
     have hif := Z1u h
     refine Z16 I (fun hc => ?_) (fun hc => ?_)
     ·have h := hif.1 hc
      refine Zh <| Zc <| Z2 I (Zi (v := (.vs 0)) I I) I <| Z2 I (Zi (v := (.int .i64 v1)) I I) I ?_
      have ⟨hg12, h⟩ := Z10 h
      have ⟨hg13, h⟩ := Z10 h
      refine Z2 I (stx_sliceVL (v := (.vs 0)) (n := 0) (off := 0) (len := a0.length) (l := a0) (enc := Z3) (kl := .i64) (lo := v1) I s33 I I (vecR_map _ _ _) I hg12 I) I <| Z2 I (Zj (v := (.vsub 0 (0 + v1.toNat) ((a0.length : Int).toNat - v1.toNat) false)) I I) I <| Zf <| Zg <| Zh <| Zh <| Zc <| Z2 I (Zj (v := (.int .i64 1)) I I) I ?_
      refine Zf <| Zg <| Z1x (st' := ⟨[(0, (.vs 0)), (1, (.clo 87 [])), (5, (.int .i64 v1)), (6, (.vsub 0 (0 + v1.toNat) ((a0.length : Int).toNat - v1.toNat) false)), (7, (.int .i64 1))], [(0, (.vec 14 (List.map Z3 a0)))]⟩) ⟨rfl, rfl, rfl, rfl, rfl, trivial⟩ ⟨rfl, trivial⟩ ?_
      refine Z1j (V := Int × Int × (List Zd)) (X := Int × (List Zd)) (lp := fun k v => F83_l17 K v1 a0 (F83_c20 K) k v.1 v.2.1 v.2.2 = some r) (sh := fun v => ⟨[(0, (.vs 0)), (1, (.clo 87 [])), (5, (.int .i64 v.1)), (6, (.vsub 0 (0 + v1.toNat) ((a0.length : Int).toNat - v1.toNat) false)), (7, (.int .i64 v.2.1))], [(0, (.vec 14 (List.map Z3 v.2.2)))]⟩) (x := fun v => F83_c20 K v.1 v.2 = some r) (shx := fun v => ⟨[(0, (.vs 0)), (5, (.int .i64 v.1))], [(0, (.vec 14 (List.map Z3 v.2)))]⟩) (k := K) (v := (v1, 1, a0)) h ?_ ?_
      ·intro v h
       obtain ⟨v18, v19⟩ := v
       try dsimp only at h ⊢
       unfold F83_c20 at h
       refine Zg <| Zh <| Zc <| Z2 I (Zi (v := (.vs 0)) I I) I <| Z2 I (Zi (v := (.int .i64 v18)) I I) I ?_
       have ⟨hg22, h⟩ := Z10 h
       have ⟨hg23, h⟩ := Z10 h
       refine Z2 I (stx_sliceVL (v := (.vs 0)) (n := 0) (off := 0) (len := v19.length) (l := v19) (enc := Z3) (kl := .i64) (lo := v18) I s33 I I (vecR_map _ _ _) I hg22 I) I ?_
       have ⟨hg24, h⟩ := Z10 h
       refine Z2 I (st_clear (v := (.vsub 0 (0 + v18.toNat) ((v19.length : Int).toNat - v18.toNat) false)) (n := 0) (off := (0 + v18.toNat)) (len := ((v19.length : Int).toNat - v18.toNat)) (l := v19) (enc := Z3) el33 ze38 I I I (vecR_sub hg24) els_Tapi_Span) I <| Zf <| Zg <| Zh <| Zc <| Z2 I (Zi (v := (.vs 0)) I I) I <| Z2 I (Zi (v := (.int .i64 v18)) I I) I ?_
       have ⟨hg25, h⟩ := Z10 h
       have ⟨hg26, h⟩ := Z10 h
       refine Z2 I (stx_sliceVH (v := (.vs 0)) (n := 0) (off := 0) (len := (v19.take (0 + v18.toNat) ++ List.replicate ((v19.length : Int).toNat - v18.toNat) Z1 ++ v19.drop ((0 + v18.toNat) + ((v19.length : Int).toNat - v18.toNat))).length) (l := (v19.take (0 + v18.toNat) ++ List.replicate ((v19.length : Int).toNat - v18.toNat) Z1 ++ v19.drop ((0 + v18.toNat) + ((v19.length : Int).toNat - v18.toNat)))) (enc := Z3) (kh := .i64) (hi := v18) I s33 I I (vecR_map _ _ _) I hg25 I) I <| Z2 I (Zj (v := (.vsub 0 (0 + (0 : Int).toNat) (v18.toNat - (0 : Int).toNat) false)) I I) I <| Zf <| Zg <| Z1e <| At.overR <| Z1i ?_
       refine Z1i (At.overR ?_)
       refine Z1i <| At.ghost (st' := ⟨[(4, (.vs 0))], [(0, (.vec 14 (List.map Z3 (((v19.take (0 + v18.toNat) ++ List.replicate ((v19.length : Int).toNat - v18.toNat) Z1 ++ v19.drop ((0 + v18.toNat) + ((v19.length : Int).toNat - v18.toNat))).drop (0 + (0 : Int).toNat)).take (v18.toNat - (0 : Int).toNat)))))]⟩) (fun a w h => (Z1a ⟨[(4, (.vs 0))], [(0, (.vec 14 (List.map Z3 (((v19.take (0 + v18.toNat) ++ List.replicate ((v19.length : Int).toNat - v18.toNat) Z1 ++ v19.drop ((0 + v18.toNat) + ((v19.length : Int).toNat - v18.toNat))).drop (0 + (0 : Int).toNat)).take (v18.toNat - (0 : Int).toNat)))))]⟩ (ghost_trunc (k := 4) (m := 0) (sz := 14) (off := (0 + (0 : Int).toNat)) (len := (v18.toNat - (0 : Int).toNat)) (enc := Z3) (l := (v19.take (0 + v18.toNat) ++ List.replicate ((v19.length : Int).toNat - v18.toNat) Z1 ++ v19.drop ((0 + v18.toNat) + ((v19.length : Int).toNat - v18.toNat)))) I hg26 a w (Z1a ⟨[(4, (.vsub 0 (0 + (0 : Int).toNat) (v18.toNat - (0 : Int).toNat) false))], [(0, (.vec 14 (List.map Z3 (v19.take (0 + v18.toNat) ++ List.replicate ((v19.length : Int).toNat - v18.toNat) Z1 ++ v19.drop ((0 + v18.toNat) + ((v19.length : Int).toNat - v18.toNat))))))]⟩ h ⟨rfl, trivial⟩ ⟨rfl, trivial⟩)) ⟨rfl, trivial⟩ ⟨rfl, trivial⟩)) ?_
       have h := Option.some.inj h
       subst h
       refine (hret _ ?_).1
       exact ⟨[(.vs 0)], ⟨rfl, trivial⟩, rfl, ⟨rfl, trivial⟩⟩
      ·intro N k17 v h IH17 J17
       obtain ⟨v14, v15, v16⟩ := v
       try dsimp only at h IH17 J17 ⊢
       cases k17 with
       | zero => cases h
       | succ k17 =>
        rw [F83_l17] at h
        refine Zh <| Zh <| Zc <| Z2 I (Zi (v := (.int .i64 v15)) I I) I <| Z2 I (Zi (v := (.vsub 0 (0 + v1.toNat) ((a0.length : Int).toNat - v1.toNat) false)) I I) I ?_
        have ⟨hg28, h⟩ := Z10 h
        refine Z2 I (stx_lenVS (v := (.vsub 0 (0 + v1.toNat) ((a0.length : Int).toNat - v1.toNat) false)) (n := 0) (off := (0 + v1.toNat)) (len := ((a0.length : Int).toNat - v1.toNat)) (l := v16) (enc := Z3) I u33 I I (vecR_sub hg28)) I <| Z2 I (Z1o (k := .i64) (a := v15) (b := ((((a0.length : Int).toNat - v1.toNat) : Nat) : Int)) (c := (decide (v15 < ((((a0.length : Int).toNat - v1.toNat) : Nat) : Int)))) I I I I) I <| Zf <| Zg ?_
        have hif := Z1u h
        refine Z16 I (fun hc => ?_) (fun hc => ?_)
        ·have h := hif.1 hc
         refine Z18 <| Zg <| Zh <| AWp.block <| Zh <| Z1s mixed <| Z7 0 I (Zi (v := (.clo 87 [])) I I) <| Z7 1 I (Zi (v := (.vsub 0 (0 + v1.toNat) ((a0.length : Int).toNat - v1.toNat) false)) I I) ?_
         refine Z7 2 I (Zi (v := (.int .i64 v15)) I I) ?_
         have ⟨hg29, h⟩ := Z10 h
         have ⟨hg30, h⟩ := Z10 h
         refine Z7 3 I (st_indexV (k := .i64) (v := (.vsub 0 (0 + v1.toNat) ((a0.length : Int).toNat - v1.toNat) false)) (n := 0) (off := (0 + v1.toNat)) (len := ((a0.length : Int).toNat - v1.toNat)) (es := (List.map Z3 v16)) (j := v15) (m := ((0 + v1.toNat) + v15.toNat)) I s33 I I (vecR_sub hg29) I hg30 (I)) ?_
         have ⟨hg31, h⟩ := Z10 h
         refine Z7 4 I (st_loadVA (l := v16) (enc := Z3) (z := Z1) (vs := (Z3 (v16.getD ((0 + v1.toNat) + v15.toNat) Z1)).cells) I a38 I I hg31 I I) <| Z7 5 I (Zi (v := (.vsub 0 (0 + v1.toNat) ((a0.length : Int).toNat - v1.toNat) false)) I I) <| Z7 6 I (Zi (v := (.int .i64 v15)) I I) <| Z7 7 I (Z1h (k := .i64) (a := v15) (b := 1) (c := (IntKind.i64.wrap (v15 - 1))) I I I I) ?_
         have ⟨hg32, h⟩ := Z10 h
         have ⟨hg33, h⟩ := Z10 h
         refine Z7 8 I (st_indexV (k := .i64) (v := (.vsub 0 (0 + v1.toNat) ((a0.length : Int).toNat - v1.toNat) false)) (n := 0) (off := (0 + v1.toNat)) (len := ((a0.length : Int).toNat - v1.toNat)) (es := (List.map Z3 v16)) (j := (IntKind.i64.wrap (v15 - 1))) (m := ((0 + v1.toNat) + (IntKind.i64.wrap (v15 - 1)).toNat)) I s33 I I (vecR_sub hg32) I hg33 (I)) ?_
         have ⟨hg34, h⟩ := Z10 h
         refine Z7 9 I (st_loadVA (l := v16) (enc := Z3) (z := Z1) (vs := (Z3 (v16.getD ((0 + v1.toNat) + (IntKind.i64.wrap (v15 - 1)).toNat) Z1)).cells) I a38 I I hg34 I I) ?_
         have ⟨v36, hv36, h⟩ := Z19 h
         refine Z7 10 I (Z17 (ar := [(Z3 (v16.getD ((0 + v1.toNat) + v15.toNat) Z1)), (Z3 (v16.getD ((0 + v1.toNat) + (IntKind.i64.wrap (v15 - 1)).toNat) Z1))]) (caps := []) Try.call87 (F87_ok K (v16.getD ((0 + v1.toNat) + v15.toNat) Z1) (v16.getD ((0 + v1.toNat) + (IntKind.i64.wrap (v15 - 1)).toNat) Z1) v36 hv36) I I ⟨rfl, rfl, trivial⟩ I) <| Z7 11 I (st_not (b := v36) I I) <| Z1v (by kernel_rfl) I <| Zg ?_
         refine AWp.join (V := Int × (List Zd)) (lp := fun v => F83_j39 K (F83_l17 K v1 a0 (F83_c20 K) k17) v15 v.1 v.2 = some r) (sh := fun v => ⟨[(0, (.vs 0)), (1, (.clo 87 [])), (5, (.int .i64 v.1)), (6, (.vsub 0 (0 + v1.toNat) ((a0.length : Int).toNat - v1.toNat) false)), (7, (.int .i64 v15))], [(0, (.vec 14 (List.map Z3 v.2)))]⟩) ?_ ?_
         ·intro v h
          obtain ⟨v37, v38⟩ := v
          try dsimp only at h ⊢
          unfold F83_j39 at h
          refine At.end <| Zg <| Zc <| Z2 I (Zi (v := (.int .i64 v15)) I I) I <| Z2 I (Z1h (k := .i64) (a := v15) (b := 1) (c := (IntKind.i64.wrap (v15 + 1))) I I I I) I <| Z2 I (Zj (v := (.int .i64 (IntKind.i64.wrap (v15 + 1)))) I I) I <| Zf ?_
          exact Zw (st' := ⟨[(0, (.vs 0)), (1, (.clo 87 [])), (5, (.int .i64 v37)), (6, (.vsub 0 (0 + v1.toNat) ((a0.length : Int).toNat - v1.toNat) false)), (7, (.int .i64 (IntKind.i64.wrap (v15 + 1))))], [(0, (.vec 14 (List.map Z3 v38)))]⟩) ⟨rfl, rfl, rfl, rfl, rfl, trivial⟩ ⟨rfl, trivial⟩ (IH17 _ (v37, (IntKind.i64.wrap (v15 + 1)), v38) (Nat.lt_succ_self _) h)
         ·intro J39
          have hif := Z1u h
          refine Z16 I (fun hc => ?_) (fun hc => ?_)
          ·have h := hif.1 hc
           refine Zh <| Zc <| Z2 I (Zi (v := (.vs 0)) I I) I <| Z2 I (Zi (v := (.int .i64 v14)) I I) I <| Z2 I (Zi (v := (.vsub 0 (0 + v1.toNat) ((a0.length : Int).toNat - v1.toNat) false)) I I) I <| Z2 I (Zi (v := (.int .i64 v15)) I I) I ?_
           have ⟨hg40, h⟩ := Z10 h
           have ⟨hg41, h⟩ := Z10 h
           refine Z2 I (st_indexV (k := .i64) (v := (.vsub 0 (0 + v1.toNat) ((a0.length : Int).toNat - v1.toNat) false)) (n := 0) (off := (0 + v1.toNat)) (len := ((a0.length : Int).toNat - v1.toNat)) (es := (List.map Z3 v16)) (j := v15) (m := ((0 + v1.toNat) + v15.toNat)) I s33 I I (vecR_sub hg40) I hg41 (I)) I ?_
           have ⟨hg42, h⟩ := Z10 h
           refine Z2 I (st_loadVA (l := v16) (enc := Z3) (z := Z1) (vs := (Z3 (v16.getD ((0 + v1.toNat) + v15.toNat) Z1)).cells) I a38 I I hg42 I I) I ?_
           have ⟨hg43, h⟩ := Z10 h
           refine Z2 I (st_indexV (k := .i64) (v := (.vs 0)) (n := 0) (off := 0) (len := v16.length) (es := (List.map Z3 v16)) (j := v14) (m := v14.toNat) I s33 I I (vecR_map _ _ _) I hg43 (Nat.zero_add _)) I ?_
           have ⟨hg44, h⟩ := Z10 h
           refine Z2 I (st_storeV (l := v16) (enc := Z3) (z := Z1) (a := (v16.getD ((0 + v1.toNat) + v15.toNat) Z1)) (v := (Z3 (v16.getD ((0 + v1.toNat) + v15.toNat) Z1))) sz38 I I hg44 I els_Tapi_Span I I I I) I <| Zf <| Zg <| Zc <| Z2 I (Zi (v := (.int .i64 v14)) I I) I <| Z2 I (Z1h (k := .i64) (a := v14) (b := 1) (c := (IntKind.i64.wrap (v14 + 1))) I I I I) I <| Z2 I (Zj (v := (.int .i64 (IntKind.i64.wrap (v14 + 1)))) I I) I <| Zf ?_
           exact Zw (st' := ⟨[(0, (.vs 0)), (1, (.clo 87 [])), (5, (.int .i64 (IntKind.i64.wrap (v14 + 1)))), (6, (.vsub 0 (0 + v1.toNat) ((a0.length : Int).toNat - v1.toNat) false)), (7, (.int .i64 v15))], [(0, (.vec 14 (List.map Z3 (v16.set v14.toNat (v16.getD ((0 + v1.toNat) + v15.toNat) Z1)))))]⟩) ⟨rfl, rfl, rfl, rfl, rfl, trivial⟩ ⟨rfl, trivial⟩ (J39 ((IntKind.i64.wrap (v14 + 1)), (v16.set v14.toNat (v16.getD ((0 + v1.toNat) + v15.toNat) Z1))) h)
          ·have h := hif.2 hc
           refine Z18 ?_
           exact Zw (st' := ⟨[(0, (.vs 0)), (1, (.clo 87 [])), (5, (.int .i64 v14)), (6, (.vsub 0 (0 + v1.toNat) ((a0.length : Int).toNat - v1.toNat) false)), (7, (.int .i64 v15))], [(0, (.vec 14 (List.map Z3 v16)))]⟩) ⟨rfl, rfl, rfl, rfl, rfl, trivial⟩ ⟨rfl, trivial⟩ (J39 (v14, v16) h)
        ·have h := hif.2 hc
         refine AWp.exit <| At.thru ?_
         exact Zw (st' := ⟨[(0, (.vs 0)), (5, (.int .i64 v14))], [(0, (.vec 14 (List.map Z3 v16)))]⟩) ⟨rfl, rfl, trivial⟩ ⟨rfl, trivial⟩ (J17 (v14, v16) h)
     ·have h := hif.2 hc
      refine Z18 <| At.end <| Zg <| Zc <| Z2 I (Zi (v := (.int .i64 v1)) I I) I <| Z2 I (Z1h (k := .i64) (a := v1) (b := 1) (c := (IntKind.i64.wrap (v1 + 1))) I I I I) I <| Z2 I (Zj (v := (.int .i64 (IntKind.i64.wrap (v1 + 1)))) I I) I <| Zf ?_
      exact Zw (st' := ⟨[(0, (.vs 0)), (1, (.clo 87 [])), (5, (.int .i64 (IntKind.i64.wrap (v1 + 1))))], [(0, (.vec 14 (List.map Z3 a0)))]⟩) ⟨rfl, rfl, rfl, trivial⟩ ⟨rfl, trivial⟩ (IH2 _ (IntKind.i64.wrap (v1 + 1)) (Nat.lt_succ_self _) h)
    ·have h := hif.2 hc
     refine AWp.exit <| At.thru ?_
     exact Zw (st' := ⟨[(0, (.vs 0))], [(0, (.vec 14 (List.map Z3 a0)))]⟩) ⟨rfl, trivial⟩ ⟨rfl, trivial⟩ (J2 () h)
def F72 (K : Nat) (a0 : (List Zd)) : Option ((List Zd)) :=
 (F85 K a0).bind fun v2 =>
  (F84 K v2).bind fun v4 =>
   (F83 K v4).bind fun v6 =>
    some v6
theorem F72_ok (K : Nat) (a0 : (List Zd)) (r : (List Zd)) (h : F72 K a0 = some r) : ACall P 72 ⟨[(.sl 14 (a0.map Z3) false)], [], (.sl 14 (r.map Z3) false), [], []⟩ := by
 refine Z1t Try.func72 Try.results72 rfl Try.ntmps72 rfl rfl rfl ?_
 intro E Q hP hN hro hret
 obtain ⟨P', nt', w0, F0, p0, S0, β0, ro0⟩ := E
 simp only at hP hN
 subst hP hN
 dsimp only [argT]
 unfold F72 at h
 refine Zh <| Zc <| Z2 I (Zj (v := (.sl 14 [] false)) I I) I <| Zf <| Zg <| Zh <| Zc <| Z2 I (Zi (v := (.sl 14 (a0.map Z3) false)) I I) I ?_
 have ⟨v2, hv2, h⟩ := Z19 h
 refine Z2 I (Z17 (ar := [(.sl 14 (a0.map Z3) false)]) (caps := []) Try.call85 (F85_ok K a0 v2 hv2) I I ⟨rfl, trivial⟩ I) I ?_
 have ⟨v4, hv4, h⟩ := Z19 h
 refine Z2 I (st_callO (sz := 14) (es := (List.map Z3 v4)) (ar := [(.clo 104 [(.ip [(.sl 14 (v2.map Z3) false)])]), (.clo 86 [])]) (caps := []) Try.call84 ((F84_ok K v2 v4 hv4).sw 4 5) I I ⟨rfl, rfl, trivial⟩ I) I ?_
 have ⟨v6, hv6, h⟩ := Z19 h
 refine Z2 I (st_call (d := some 6) (c := ⟨[(.vs 5), (.clo 87 [])] ++ [], [(5, (.vec 14 (List.map Z3 v4)))], .vs 5, [(5, .vec 14 (List.map Z3 v6))], [5]⟩) (ar := [(.vs 5), (.clo 87 [])]) (caps := []) (news := []) (forg := [5]) Try.call83 ((F83_ok K v4 v6 hv6).sw 0 5) I I ⟨rfl, rfl, trivial⟩ I ⟨rfl, trivial⟩ I) I <| Z2 I (Zj (v := (.vs 5)) I I) I <| Zf <| Zg <| Z1e <| At.ghost (st' := ⟨[(2, (.sl 14 (v6.map Z3) false))], []⟩) (fun a w h => (Z1a ⟨[(2, (.sl 14 (v6.map Z3) false))], []⟩ (ghost_freeze (m := 5) (sz := 14) (es := (List.map Z3 v6)) a w (Z1a ⟨[(2, (.vs 5))], [(5, (.vec 14 (List.map Z3 v6)))]⟩ h ⟨rfl, trivial⟩ ⟨rfl, trivial⟩)) ⟨rfl, trivial⟩ trivial)) ?_
 have h := Option.some.inj h
 subst h
 refine (hret _ ?_).1
 exact ⟨[(.sl 14 (v6.map Z3) false)], ⟨rfl, trivial⟩, rfl, trivial⟩
def F58 (K : Nat) (a0 : Zd) : Option (Zr) :=
 some (⟨a0.Trace, a0.Id⟩ : Zr)
theorem F58_ok (K : Nat) (a0 : Zd) (r : Zr) (h : F58 K a0 = some r) : ACall P 58 ⟨[(Z3 a0)], [], (Zk r), [], []⟩ := by
 refine Z1t Try.func58 Try.results58 rfl Try.ntmps58 rfl rfl rfl ?_
 intro E Q hP hN hro hret
 obtain ⟨P', nt', w0, F0, p0, S0, β0, ro0⟩ := E
 simp only at hP hN
 subst hP hN
 dsimp only [argT]
 unfold F58 at h
 refine Zh <| Zc <| Z2 I (st_box (v := (Z3 a0)) (cs := (Z3 a0).cells) I I I I I) I <| Z2 I (st_alloc (cs := [(.int .i64 0), (.int .i64 0)]) I z23 I I I) I <| Zf <| Zg <| Zh <| Zc ?_
 refine Z2 I (Zq (m := 1) (o := 0) I f38_0 I I) I <| Z2 I (Z11 (cs := (Z3 a0).cells) (v := (.int .i64 a0.Trace)) I o3 I I I) I <| Z2 I (Zq (m := 1) (o := 0) I f38_1 I I) I <| Z2 I (Z11 (cs := (Z3 a0).cells) (v := (.int .i64 a0.Id)) I o3 I I I) I <| Z2 I (stx_build (vs := [(0, (.int .i64 a0.Trace)), (1, (.int .i64 a0.Id))]) (cs := [(.int .i64 a0.Trace), (.int .i64 a0.Id)]) I st23 ⟨rfl, rfl, rfl, rfl, trivial⟩ I) I <| Z2 I (Z1m (cs := [(.int .i64 0), (.int .i64 0)]) (vs := [(.int .i64 a0.Trace), (.int .i64 a0.Id)]) (ds := [(.int .i64 a0.Trace), (.int .i64 a0.Id)]) (v := (.ag [(.int .i64 a0.Trace), (.int .i64 a0.Id)])) sz23 I I I I I I I I) I <| Zf <| Zg ?_
 refine Z1e ?_
 have h := Option.some.inj h
 subst h
 refine (hret _ ?_).1
 exact ⟨[(.ag [(.int .i64 a0.Trace), (.int .i64 a0.Id)])], ⟨⟨2, _, rfl, rfl, .inr ⟨_, a23, rfl, rfl⟩⟩, trivial⟩, rfl, trivial⟩
def F74 (K : Nat) (a0 : Int) (a1 : (List Zd)) : Option (Bool) :=
 if ((IntKind.i64.wrap (a0 + 1)) == (a1.length : Int)) = true then
  some true
 else
  if (0 : Int) ≤ (IntKind.i64.wrap (a0 + 1)) ∧ (IntKind.i64.wrap (a0 + 1)) < a1.length then
   (F58 K (a1.getD (IntKind.i64.wrap (a0 + 1)).toNat Z1)).bind fun v3 =>
    if (0 : Int) ≤ a0 ∧ a0 < a1.length then
     (F58 K (a1.getD a0.toNat Z1)).bind fun v6 =>
      some (!((v3.Trace == v6.Trace) && ((v3.Id == v6.Id) && true)))
    else none
  else none
theorem F74_ok (K : Nat) (a0 : Int) (a1 : (List Zd)) (r : Bool) (h : F74 K a0 a1 = some r) : ACall P 74 ⟨[(.int .i64 a0), (.ip [(.sl 14 (a1.map Z3) false)])], [], (.bool r), [], []⟩ := by
 refine Z1t Try.func74 Try.results74 rfl Try.ntmps74 rfl rfl rfl ?_
 intro E Q hP hN hro hret
 obtain ⟨P', nt', w0, F0, p0, S0, β0, ro0⟩ := E
 simp only at hP hN
 subst hP hN
 dsimp only [argT]
 unfold F74 at h
 refine Zh <| Zc <| Z2 I (Zj (v := (.bool false)) I I) I <| Zf <| Zg <| Zh <| Z1s mixed <| Z7 0 I (Zi (v := (.int .i64 a0)) I I) ?_
 refine Z7 1 I (Z1h (k := .i64) (a := a0) (b := 1) (c := (IntKind.i64.wrap (a0 + 1))) I I I I) <| Z7 2 I (st_loadI (cs := [(.sl 14 (a1.map Z3) false)]) (v := (.sl 14 (a1.map Z3) false)) I o33 I I) <| Z7 3 I (stx_len (l := a1) (enc := Z3) I s33 I) <| Z7 4 I (Z1o (k := .i64) (a := (IntKind.i64.wrap (a0 + 1))) (b := (a1.length : Int)) (c := ((IntKind.i64.wrap (a0 + 1)) == (a1.length : Int))) I I I I) <| Z7 5 I (Zi (v := (.bool ((IntKind.i64.wrap (a0 + 1)) == (a1.length : Int)))) I I) ?_
 have hif := Z1u h
 refine AOpsD.split (fun hc => ?_) (fun hc => ?_)
 ·have h := hif.1 hc
  refine Zx 6 I I I I I I I <| Zx 7 I I I I I I I <| Zx 8 I I I I I I I <| Zx 9 I I I I I I I <| Zx 10 I I I I I I I <| Zx 11 I I I I I I I <| Zx 12 I I I I I I I <| Zx 13 I I I I I I I ?_
  refine Zx 14 I I I I I I I <| Zx 15 I I I I I I I <| Zx 16 I I I I I I I <| Zx 17 I I I I I I I <| Z7 18 I (st_pickT (v := (.bool true)) I I I) <| Z7 19 I (Zj (v := (.bool true)) I I) <| Z1v (by kernel_rfl) I <| Zg ?_
  refine Z1e ?_
  have h := Option.some.inj h
  subst h
  refine (hret _ ?_).1
  exact ⟨[(.bool true)], ⟨rfl, trivial⟩, rfl, trivial⟩
 ·have h := hif.2 hc
  refine Z12 6 I I I I (st_loadI (cs := [(.sl 14 (a1.map Z3) false)]) (v := (.sl 14 (a1.map Z3) false)) I o33 I I) <| Z12 7 I I I I (Zi (v := (.int .i64 a0)) I I) <| Z12 8 I I I I (Z1h (k := .i64) (a := a0) (b := 1) (c := (IntKind.i64.wrap (a0 + 1))) I I I I) ?_
  have ⟨hg1, h⟩ := Z10 h
  refine Z12 9 I I I I (Z1r (k := .i64) (l := a1) (enc := Z3) (z := Z1) (n := (IntKind.i64.wrap (a0 + 1))) (cs := (Z3 (a1.getD (IntKind.i64.wrap (a0 + 1)).toNat Z1)).cells) (full := false) I s33 I I hg1 I) <| Z12 10 I I I I (st_loadIA (cs := (Z3 (a1.getD (IntKind.i64.wrap (a0 + 1)).toNat Z1)).cells) (vs := (Z3 (a1.getD (IntKind.i64.wrap (a0 + 1)).toNat Z1)).cells) I a38 I I I) ?_
  have ⟨v3, hv3, h⟩ := Z19 h
  refine Z12 11 I I I I (Z17 (ar := [(Z3 (a1.getD (IntKind.i64.wrap (a0 + 1)).toNat Z1))]) (caps := []) Try.call58 (F58_ok K (a1.getD (IntKind.i64.wrap (a0 + 1)).toNat Z1) v3 hv3) I I ⟨rfl, trivial⟩ I) <| Z12 12 I I I I (st_loadI (cs := [(.sl 14 (a1.map Z3) false)]) (v := (.sl 14 (a1.map Z3) false)) I o33 I I) <| Z12 13 I I I I (Zi (v := (.int .i64 a0)) I I) ?_
  have ⟨hg4, h⟩ := Z10 h
  refine Z12 14 I I I I (Z1r (k := .i64) (l := a1) (enc := Z3) (z := Z1) (n := a0) (cs := (Z3 (a1.getD a0.toNat Z1)).cells) (full := false) I s33 I I hg4 I) <| Z12 15 I I I I (st_loadIA (cs := (Z3 (a1.getD a0.toNat Z1)).cells) (vs := (Z3 (a1.getD a0.toNat Z1)).cells) I a38 I I I) ?_
  have ⟨v6, hv6, h⟩ := Z19 h
  refine Z12 16 I I I I (Z17 (ar := [(Z3 (a1.getD a0.toNat Z1))]) (caps := []) Try.call58 (F58_ok K (a1.getD a0.toNat Z1) v6 hv6) I I ⟨rfl, trivial⟩ I) <| Z12 17 I I I I (st_cmpA (xs := (Zk v3).cells) (ys := (Zk v6).cells) (b := ((v3.Trace == v6.Trace) && ((v3.Id == v6.Id) && true))) (c := (!((v3.Trace == v6.Trace) && ((v3.Id == v6.Id) && true)))) I eq23 I I I I) <| Z7 18 I (Z1p (v := (.bool (!((v3.Trace == v6.Trace) && ((v3.Id == v6.Id) && true))))) I I I) <| Z7 19 I (Zj (v := (.bool (!((v3.Trace == v6.Trace) && ((v3.Id == v6.Id) && true))))) I I) <| Z1v (by kernel_rfl) I <| Zg <| Z1e ?_
  have h := Option.some.inj h
  subst h
  refine (hret _ ?_).1
  exact ⟨[(.bool (!((v3.Trace == v6.Trace) && ((v3.Id == v6.Id) && true))))], ⟨rfl, trivial⟩, rfl, trivial⟩
def F110 (K : Nat) (a0 : (List Z1g)) : Option ((List Z1g)) :=
 if ([] : List Z1g).length + a0.length ≤ 1073741824 then
  some ([] ++ a0)
 else none
theorem F110_ok (K : Nat) (a0 : (List Z1g)) (r : (List Z1g)) (h : F110 K a0 = some r) : ACall P 110 ⟨[(.sl 4 (a0.map Zv) false)], [], .vs 2, [(2, .vec 4 (List.map Zv r))], [2]⟩ := by
 refine Z1t Try.func110 Try.results110 rfl Try.ntmps110 rfl rfl rfl ?_
 intro E Q hP hN hro hret
 obtain ⟨P', nt', w0, F0, p0, S0, β0, ro0⟩ := E
 simp only at hP hN
 subst hP hN
 dsimp only [argT]
 unfold F110 at h
 refine Zh <| Zc <| Z2 I (Zj (v := (.sl 4 [] true)) I I) I <| Zf <| Zg <| Zh <| Zh <| Zc ?_
 refine Z2 I (Zi (v := (.sl 4 (a0.map Zv) false)) I I) I ?_
 refine AOps.consNil (enc := Zv) (es := a0) (full := false) I u35 I (fun x1 hbx1 => ?_)
 refine Zf <| Zg ?_
 refine Z16 I (fun hc => ?_) (fun hc => ?_)
 ·have hz := hbx1 hc
  have h : (some []) = some r := by simp only [hz] at h ⊢; simpa using h
  refine Zh <| Zc <| Z2 I (Zj (v := (.sl 4 [] true)) I I) I <| Zf <| Zg <| Z1e <| Z1i <| At.ghost (st' := ⟨[(2, (.vs 2))], [(2, (.vec 4 (List.map Zv ([] : List Z1g))))]⟩) (fun a w h => (Z1a ⟨[(2, (.vs 2))], [(2, (.vec 4 (List.map Zv ([] : List Z1g))))]⟩ (ghost_own (k := 2) (m := 2) (sz := 4) I I a w (Z1a ⟨[(2, (.sl 4 [] true))], []⟩ h ⟨rfl, trivial⟩ trivial)) ⟨rfl, trivial⟩ ⟨rfl, trivial⟩)) ?_
  have h := Option.some.inj h
  subst h
  refine (hret _ ?_).1
  exact ⟨[(.vs 2)], ⟨rfl, trivial⟩, rfl, ⟨rfl, trivial⟩⟩
 ·refine Z18 <| Zg <| Zh <| Zc <| Z2 I (Z1f (vs := []) (enc := Zv) (l := ([] : List Z1g)) I el35 I I trivial I els_Tapi_Attr I I I I) I <| Z2 I (Zi (v := (.sl 4 (a0.map Zv) false)) I I) I ?_
  have ⟨hg2, h⟩ := Z10 h
  refine Z2 I (st_append (m := 5) (enc := Zv) (l := ([] : List Z1g)) (l' := a0) (src := (.sl 4 (a0.map Zv) false)) (rd := []) I I el35 I u35 I I I ⟨rfl, rfl, rfl⟩ noReads els_Tapi_Attr hg2) I <| Z2 I (Zj (v := (.vs 5)) I I) I <| Zf <| Zg <| Z1e <| At.ghost (st' := ⟨[(2, (.vs 2))], [(2, (.vec 4 (List.map Zv ([] ++ a0))))]⟩) (fun a w h => (Z1a ⟨[(2, (.vs 2))], [(2, (.vec 4 (List.map Zv ([] ++ a0))))]⟩ (ghost_sw (a := 5) (b := 2) I I a w (Z1a ⟨[(2, (.vs 5))], [(5, (.vec 4 (List.map Zv ([] ++ a0))))]⟩ h ⟨rfl, trivial⟩ ⟨rfl, trivial⟩)) ⟨rfl, trivial⟩ ⟨rfl, trivial⟩)) ?_
  have h := Option.some.inj h
  subst h
  refine (hret _ ?_).1
  exact ⟨[(.vs 2)], ⟨rfl, trivial⟩, rfl, ⟨rfl, trivial⟩⟩
def F111 (K : Nat) (a0 : (List Zr)) : Option ((List Zr)) :=
 if ([] : List Zr).length + a0.length ≤ 1073741824 then
  some ([] ++ a0)
 else none
theorem F111_ok (K : Nat) (a0 : (List Zr)) (r : (List Zr)) (h : F111 K a0 = some r) : ACall P 111 ⟨[(.sl 2 (a0.map Zk) false)], [], .vs 2, [(2, .vec 2 (List.map Zk r))], [2]⟩ := by
 refine Z1t Try.func111 Try.results111 rfl Try.ntmps111 rfl rfl rfl ?_
 intro E Q hP hN hro hret
 obtain ⟨P', nt', w0, F0, p0, S0, β0, ro0⟩ := E
 simp only at hP hN
 subst hP hN
 dsimp only [argT]
 unfold F111 at h
 refine Zh <| Zc <| Z2 I (Zj (v := (.sl 2 [] true)) I I) I <| Zf <| Zg <| Zh <| Zh <| Zc ?_
 refine Z2 I (Zi (v := (.sl 2 (a0.map Zk) false)) I I) I ?_
 refine AOps.consNil (enc := Zk) (es := a0) (full := false) I u36 I (fun x1 hbx1 => ?_)
 refine Zf <| Zg ?_
 refine Z16 I (fun hc => ?_) (fun hc => ?_)
 ·have hz := hbx1 hc
  have h : (some []) = some r := by simp only [hz] at h ⊢; simpa using h
  refine Zh <| Zc <| Z2 I (Zj (v := (.sl 2 [] true)) I I) I <| Zf <| Zg <| Z1e <| Z1i <| At.ghost (st' := ⟨[(2, (.vs 2))], [(2, (.vec 2 (List.map Zk ([] : List Zr))))]⟩) (fun a w h => (Z1a ⟨[(2, (.vs 2))], [(2, (.vec 2 (List.map Zk ([] : List Zr))))]⟩ (ghost_own (k := 2) (m := 2) (sz := 2) I I a w (Z1a ⟨[(2, (.sl 2 [] true))], []⟩ h ⟨rfl, trivial⟩ trivial)) ⟨rfl, trivial⟩ ⟨rfl, trivial⟩)) ?_
  have h := Option.some.inj h
  subst h
  refine (hret _ ?_).1
  exact ⟨[(.vs 2)], ⟨rfl, trivial⟩, rfl, ⟨rfl, trivial⟩⟩
 ·refine Z18 <| Zg <| Zh <| Zc <| Z2 I (Z1f (vs := []) (enc := Zk) (l := ([] : List Zr)) I el36 I I trivial I els_Tapi_Ref I I I I) I <| Z2 I (Zi (v := (.sl 2 (a0.map Zk) false)) I I) I ?_
  have ⟨hg2, h⟩ := Z10 h
  refine Z2 I (st_append (m := 5) (enc := Zk) (l := ([] : List Zr)) (l' := a0) (src := (.sl 2 (a0.map Zk) false)) (rd := []) I I el36 I u36 I I I ⟨rfl, rfl, rfl⟩ noReads els_Tapi_Ref hg2) I <| Z2 I (Zj (v := (.vs 5)) I I) I <| Zf <| Zg <| Z1e <| At.ghost (st' := ⟨[(2, (.vs 2))], [(2, (.vec 2 (List.map Zk ([] ++ a0))))]⟩) (fun a w h => (Z1a ⟨[(2, (.vs 2))], [(2, (.vec 2 (List.map Zk ([] ++ a0))))]⟩ (ghost_sw (a := 5) (b := 2) I I a w (Z1a ⟨[(2, (.vs 5))], [(5, (.vec 2 (List.map Zk ([] ++ a0))))]⟩ h ⟨rfl, trivial⟩ ⟨rfl, trivial⟩)) ⟨rfl, trivial⟩ ⟨rfl, trivial⟩)) ?_
  have h := Option.some.inj h
  subst h
  refine (hret _ ?_).1
  exact ⟨[(.vs 2)], ⟨rfl, trivial⟩, rfl, ⟨rfl, trivial⟩⟩
def F88 (K : Nat) (a0 : Zd) : Option (Zd) :=
 (F110 K a0.Attrs).bind fun v2 =>
  (F111 K a0.Links).bind fun v4 =>
   some (⟨a0.Trace, a0.Id, a0.Parent, a0.Revision, a0.Clock, a0.Kind, a0.Service, a0.Version, a0.Operation, a0.Start, a0.End, a0.Error, v2, v4⟩ : Zd)
theorem F88_ok (K : Nat) (a0 : Zd) (r : Zd) (h : F88 K a0 = some r) : ACall P 88 ⟨[(Z3 a0)], [], (Z3 r), [], []⟩ := by
 refine Z1t Try.func88 Try.results88 rfl Try.ntmps88 rfl rfl rfl ?_
 intro E Q hP hN hro hret
 obtain ⟨P', nt', w0, F0, p0, S0, β0, ro0⟩ := E
 simp only at hP hN
 subst hP hN
 dsimp only [argT]
 unfold F88 at h
 refine Zh <| Zc <| Z2 I (st_box (v := (Z3 a0)) (cs := (Z3 a0).cells) I I I I I) I <| Z2 I (st_alloc (cs := [(.int .i64 0), (.int .i64 0), (.int .i64 0), (.int .i64 0), (.int .i64 0), (.int .i64 0), (.str []), (.str []), (.str []), (.int .i64 0), (.int .i64 0), (.bool false), (.sl 4 [] false), (.sl 2 [] false)]) I z38 I I I) I <| Zf <| Zg <| Zh <| Z1s mixed ?_
 refine Z7 0 I (Zq (m := 1) (o := 0) I f38_12 I I) <| Z7 1 I (Z11 (cs := (Z3 a0).cells) (v := (.sl 4 (a0.Attrs.map Zv) false)) I o35 I I I) ?_
 have ⟨v2, hv2, h⟩ := Z19 h
 refine Z7 2 I (st_callO (sz := 4) (es := (List.map Zv v2)) (ar := [(.sl 4 (a0.Attrs.map Zv) false)]) (caps := []) Try.call110 ((F110_ok K a0.Attrs v2 hv2).sw 2 5) I I ⟨rfl, trivial⟩ I) <| Z7 3 I (Zq (m := 1) (o := 0) I f38_13 I I) <| Z7 4 I (Z11 (cs := (Z3 a0).cells) (v := (.sl 2 (a0.Links.map Zk) false)) I o36 I I I) ?_
 have ⟨v4, hv4, h⟩ := Z19 h
 refine Z7 5 I (st_callO (sz := 2) (es := (List.map Zk v4)) (ar := [(.sl 2 (a0.Links.map Zk) false)]) (caps := []) Try.call111 ((F111_ok K a0.Links v4 hv4).sw 2 8) I I ⟨rfl, trivial⟩ I) <| Z7 6 I (Zq (m := 1) (o := 0) I f38_12 I I) <| Z7 7 I (Z1m (cs := (Z3 a0).cells) (vs := [(.vs 5)]) (ds := [(.int .i64 a0.Trace), (.int .i64 a0.Id), (.int .i64 a0.Parent), (.int .i64 a0.Revision), (.int .i64 a0.Clock), (.int .i64 a0.Kind), (.str a0.Service), (.str a0.Version), (.str a0.Operation), (.int .i64 a0.Start), (.int .i64 a0.End), (.bool a0.Error), (.vs 5), (.sl 2 (a0.Links.map Zk) false)]) (v := (.vs 5)) sz35 I I I I I I I I) <| Z7 8 I (Zq (m := 1) (o := 0) I f38_13 I I) <| Z7 9 I (Z1m (cs := [(.int .i64 a0.Trace), (.int .i64 a0.Id), (.int .i64 a0.Parent), (.int .i64 a0.Revision), (.int .i64 a0.Clock), (.int .i64 a0.Kind), (.str a0.Service), (.str a0.Version), (.str a0.Operation), (.int .i64 a0.Start), (.int .i64 a0.End), (.bool a0.Error), (.vs 5), (.sl 2 (a0.Links.map Zk) false)]) (vs := [(.vs 8)]) (ds := [(.int .i64 a0.Trace), (.int .i64 a0.Id), (.int .i64 a0.Parent), (.int .i64 a0.Revision), (.int .i64 a0.Clock), (.int .i64 a0.Kind), (.str a0.Service), (.str a0.Version), (.str a0.Operation), (.int .i64 a0.Start), (.int .i64 a0.End), (.bool a0.Error), (.vs 5), (.vs 8)]) (v := (.vs 8)) sz36 I I I I I I I I) <| Z1v (by kernel_rfl) I <| Zg <| Zh ?_
 refine Zc <| Z2 I (Z1b (cs := [(.int .i64 a0.Trace), (.int .i64 a0.Id), (.int .i64 a0.Parent), (.int .i64 a0.Revision), (.int .i64 a0.Clock), (.int .i64 a0.Kind), (.str a0.Service), (.str a0.Version), (.str a0.Operation), (.int .i64 a0.Start), (.int .i64 a0.End), (.bool a0.Error), (.vs 5), (.vs 8)]) (vs := [(.int .i64 a0.Trace), (.int .i64 a0.Id), (.int .i64 a0.Parent), (.int .i64 a0.Revision), (.int .i64 a0.Clock), (.int .i64 a0.Kind), (.str a0.Service), (.str a0.Version), (.str a0.Operation), (.int .i64 a0.Start), (.int .i64 a0.End), (.bool a0.Error), (.vs 5), (.vs 8)]) I a38 I I I I) I <| Z2 I (Z1m (cs := [(.int .i64 0), (.int .i64 0), (.int .i64 0), (.int .i64 0), (.int .i64 0), (.int .i64 0), (.str []), (.str []), (.str []), (.int .i64 0), (.int .i64 0), (.bool false), (.sl 4 [] false), (.sl 2 [] false)]) (vs := [(.int .i64 a0.Trace), (.int .i64 a0.Id), (.int .i64 a0.Parent), (.int .i64 a0.Revision), (.int .i64 a0.Clock), (.int .i64 a0.Kind), (.str a0.Service), (.str a0.Version), (.str a0.Operation), (.int .i64 a0.Start), (.int .i64 a0.End), (.bool a0.Error), (.vs 5), (.vs 8)]) (ds := [(.int .i64 a0.Trace), (.int .i64 a0.Id), (.int .i64 a0.Parent), (.int .i64 a0.Revision), (.int .i64 a0.Clock), (.int .i64 a0.Kind), (.str a0.Service), (.str a0.Version), (.str a0.Operation), (.int .i64 a0.Start), (.int .i64 a0.End), (.bool a0.Error), (.vs 5), (.vs 8)]) (v := (.ag [(.int .i64 a0.Trace), (.int .i64 a0.Id), (.int .i64 a0.Parent), (.int .i64 a0.Revision), (.int .i64 a0.Clock), (.int .i64 a0.Kind), (.str a0.Service), (.str a0.Version), (.str a0.Operation), (.int .i64 a0.Start), (.int .i64 a0.End), (.bool a0.Error), (.vs 5), (.vs 8)])) sz38 I I I I I I I I) I <| Zf <| Zg <| Z1e <| At.ghost (st' := ⟨[(2, (.ptr 2 0))], [(2, (.box [(.int .i64 a0.Trace), (.int .i64 a0.Id), (.int .i64 a0.Parent), (.int .i64 a0.Revision), (.int .i64 a0.Clock), (.int .i64 a0.Kind), (.str a0.Service), (.str a0.Version), (.str a0.Operation), (.int .i64 a0.Start), (.int .i64 a0.End), (.bool a0.Error), (.sl 4 (v2.map Zv) false), (.sl 2 (v4.map Zk) false)]))]⟩) (fun a w h => (Z1a ⟨[(2, (.ptr 2 0))], [(2, (.box [(.int .i64 a0.Trace), (.int .i64 a0.Id), (.int .i64 a0.Parent), (.int .i64 a0.Revision), (.int .i64 a0.Clock), (.int .i64 a0.Kind), (.str a0.Service), (.str a0.Version), (.str a0.Operation), (.int .i64 a0.Start), (.int .i64 a0.End), (.bool a0.Error), (.sl 4 (v2.map Zv) false), (.sl 2 (v4.map Zk) false)]))]⟩ (ghost_freeze (m := 8) (sz := 2) (es := (List.map Zk v4)) a w (Z1a ⟨[(2, (.ptr 2 0))], [(8, (.vec 2 (List.map Zk v4))), (2, (.box [(.int .i64 a0.Trace), (.int .i64 a0.Id), (.int .i64 a0.Parent), (.int .i64 a0.Revision), (.int .i64 a0.Clock), (.int .i64 a0.Kind), (.str a0.Service), (.str a0.Version), (.str a0.Operation), (.int .i64 a0.Start), (.int .i64 a0.End), (.bool a0.Error), (.sl 4 (v2.map Zv) false), (.vs 8)]))]⟩ (Z1a ⟨[(2, (.ptr 2 0))], [(2, (.box [(.int .i64 a0.Trace), (.int .i64 a0.Id), (.int .i64 a0.Parent), (.int .i64 a0.Revision), (.int .i64 a0.Clock), (.int .i64 a0.Kind), (.str a0.Service), (.str a0.Version), (.str a0.Operation), (.int .i64 a0.Start), (.int .i64 a0.End), (.bool a0.Error), (.sl 4 (v2.map Zv) false), (.vs 8)])), (8, (.vec 2 (List.map Zk v4)))]⟩ (ghost_freeze (m := 5) (sz := 4) (es := (List.map Zv v2)) a w (Z1a ⟨[(2, (.ptr 2 0))], [(5, (.vec 4 (List.map Zv v2))), (2, (.box [(.int .i64 a0.Trace), (.int .i64 a0.Id), (.int .i64 a0.Parent), (.int .i64 a0.Revision), (.int .i64 a0.Clock), (.int .i64 a0.Kind), (.str a0.Service), (.str a0.Version), (.str a0.Operation), (.int .i64 a0.Start), (.int .i64 a0.End), (.bool a0.Error), (.vs 5), (.vs 8)])), (8, (.vec 2 (List.map Zk v4)))]⟩ h ⟨rfl, trivial⟩ ⟨rfl, rfl, rfl, trivial⟩)) ⟨rfl, trivial⟩ ⟨rfl, rfl, trivial⟩) ⟨rfl, trivial⟩ ⟨rfl, rfl, trivial⟩)) ⟨rfl, trivial⟩ ⟨rfl, trivial⟩)) ?_
 have h := Option.some.inj h
 subst h
 refine (hret _ ?_).1
 exact ⟨[(.ag [(.int .i64 a0.Trace), (.int .i64 a0.Id), (.int .i64 a0.Parent), (.int .i64 a0.Revision), (.int .i64 a0.Clock), (.int .i64 a0.Kind), (.str a0.Service), (.str a0.Version), (.str a0.Operation), (.int .i64 a0.Start), (.int .i64 a0.End), (.bool a0.Error), (.sl 4 (v2.map Zv) false), (.sl 2 (v4.map Zk) false)])], ⟨⟨2, _, rfl, rfl, .inr ⟨_, a38, rfl, rfl⟩⟩, trivial⟩, rfl, trivial⟩
def F73_c5 (K : Nat) (v4 : (List Zd)) : Option ((List Zd)) :=
 some v4
def F73_j12 (K : Nat) (b7 : Int → (List Zd) → Option ((List Zd))) (v1 : Int) (v11 : (List Zd)) : Option ((List Zd)) :=
 b7 (IntKind.i64.wrap (v1 + 1)) v11
def F73_l3 (K : Nat) (a0 : (List Zd)) (a100 : (List Zd)) (c6 : (List Zd) → Option ((List Zd))) : Nat → Int → (List Zd) → Option ((List Zd))
 | 0, _, _ => none
 | k3 + 1, v1, v2 =>
  if (decide (v1 < (a0.length : Int))) = true then
   if (0 : Int) ≤ v1 ∧ v1 < a0.length then
    (F74 K v1 a100).bind fun v10 =>
     if v10 = true then
      (F88 K (a0.getD v1.toNat Z1)).bind fun v14 =>
       if v2.length + [v14].length ≤ 1073741824 then
        F73_j12 K (F73_l3 K a0 a100 c6 k3) v1 (v2 ++ [v14])
       else none
     else
      F73_j12 K (F73_l3 K a0 a100 c6 k3) v1 v2
   else none
  else
   c6 v2
def F73 (K : Nat) (a0 : (List Zd)) (a100 : (List Zd)) : Option ((List Zd)) :=
 F73_l3 K a0 a100 (F73_c5 K) K 0 []
theorem F73_ok (K : Nat) (a0 : (List Zd)) (a100 : (List Zd)) (r : (List Zd)) (h : F73 K a0 a100 = some r) : ACall P 73 ⟨[(.sl 14 (a0.map Z3) false), (.clo 74 [(.ip [(.sl 14 (a100.map Z3) false)])])], [], (.sl 14 (r.map Z3) false), [], []⟩ := by
 refine Z1t Try.func73 Try.results73 rfl Try.ntmps73 rfl rfl rfl ?_
 intro E Q hP hN hro hret
 obtain ⟨P', nt', w0, F0, p0, S0, β0, ro0⟩ := E
 simp only at hP hN
 subst hP hN
 dsimp only [argT]
 unfold F73 at h
 refine Zh <| Zc <| Z2 I (Zj (v := (.sl 14 [] false)) I I) I <| Zf <| Zg <| Zh <| Zc <| Z2 I (Zj (v := (.sl 14 [] true)) I I) I ?_
 refine Zf <| Zg <| Zh <| Zh <| Zc <| Z2 I (Zi (v := (.sl 14 (a0.map Z3) false)) I I) I <| Z2 I (stx_len (l := a0) (enc := Z3) I s33 I) I <| Z2 I (Zi (v := (.int .i64 0)) I I) I ?_
 refine Zf <| Zg <| AWp.ghost (st' := ⟨[(1, (.clo 74 [(.ip [(.sl 14 (a100.map Z3) false)])])), (5, (.vs 5)), (8, (.sl 14 (a0.map Z3) false)), (9, (.int .i64 (a0.length : Int))), (10, (.int .i64 0))], [(5, (.vec 14 (List.map Z3 ([] : List Zd))))]⟩) (fun a w h => (Z1a ⟨[(1, (.clo 74 [(.ip [(.sl 14 (a100.map Z3) false)])])), (5, (.vs 5)), (8, (.sl 14 (a0.map Z3) false)), (9, (.int .i64 (a0.length : Int))), (10, (.int .i64 0))], [(5, (.vec 14 (List.map Z3 ([] : List Zd))))]⟩ (ghost_own (k := 5) (m := 5) (sz := 14) I I a w (Z1a ⟨[(5, (.sl 14 [] true)), (1, (.clo 74 [(.ip [(.sl 14 (a100.map Z3) false)])])), (8, (.sl 14 (a0.map Z3) false)), (9, (.int .i64 (a0.length : Int))), (10, (.int .i64 0))], []⟩ h ⟨rfl, rfl, rfl, rfl, rfl, trivial⟩ trivial)) ⟨rfl, rfl, rfl, rfl, rfl, trivial⟩ ⟨rfl, trivial⟩)) <| Z1x (st' := ⟨[(1, (.clo 74 [(.ip [(.sl 14 (a100.map Z3) false)])])), (5, (.vs 5)), (8, (.sl 14 (a0.map Z3) false)), (9, (.int .i64 (a0.length : Int))), (10, (.int .i64 0))], [(5, (.vec 14 (List.map Z3 [])))]⟩) ⟨rfl, rfl, rfl, rfl, rfl, trivial⟩ ⟨rfl, trivial⟩ ?_
 refine Z1j (V := Int × (List Zd)) (X := (List Zd)) (lp := fun k v => F73_l3 K a0 a100 (F73_c5 K) k v.1 v.2 = some r) (sh := fun v => ⟨[(1, (.clo 74 [(.ip [(.sl 14 (a100.map Z3) false)])])), (5, (.vs 5)), (8, (.sl 14 (a0.map Z3) false)), (9, (.int .i64 (a0.length : Int))), (10, (.int .i64 v.1))], [(5, (.vec 14 (List.map Z3 v.2)))]⟩) (x := fun v => F73_c5 K v = some r) (shx := fun v => ⟨[(5, (.vs 5))], [(5, (.vec 14 (List.map Z3 v)))]⟩) (k := K) (v := (0, [])) h ?_ ?_
 ·intro v h
  revert h
  revert v
  intro v4 h
  try dsimp only at h ⊢
  unfold F73_c5 at h
  refine Zg <| Zh <| Zc <| Z2 I (Zi (v := (.vs 5)) I I) I <| Z2 I (Zj (v := (.vs 5)) I I) I <| Zf <| Zg <| Z1e ?_
  refine At.ghost (st' := ⟨[(4, (.sl 14 (v4.map Z3) false))], []⟩) (fun a w h => (Z1a ⟨[(4, (.sl 14 (v4.map Z3) false))], []⟩ (ghost_freeze (m := 5) (sz := 14) (es := (List.map Z3 v4)) a w (Z1a ⟨[(4, (.vs 5))], [(5, (.vec 14 (List.map Z3 v4)))]⟩ h ⟨rfl, trivial⟩ ⟨rfl, trivial⟩)) ⟨rfl, trivial⟩ trivial)) ?_
  have h := Option.some.inj h
  subst h
  refine (hret _ ?_).1
  exact ⟨[(.sl 14 (v4.map Z3) false)], ⟨rfl, trivial⟩, rfl, trivial⟩
 ·intro N k3 v h IH3 J3
  obtain ⟨v1, v2⟩ := v
  try dsimp only at h IH3 J3 ⊢
  cases k3 with
  | zero => cases h
  | succ k3 =>
   rw [F73_l3] at h
   refine Zh <| Zc <| Z2 I (Z1o (k := .i64) (a := v1) (b := (a0.length : Int)) (c := (decide (v1 < (a0.length : Int)))) I I I I) I <| Zf <| Zg <| Zh ?_
   have hif := Z1u h
   refine Z16 I (fun hc => ?_) (fun hc => ?_)
   ·have h := hif.1 hc
    refine Z18 <| Zg <| Zh <| AWp.block <| Zh <| Zc <| Z2 I (Zi (v := (.int .i64 v1)) I I) I ?_
    have ⟨hg8, h⟩ := Z10 h
    refine Z2 I (Z1r (k := .i64) (l := a0) (enc := Z3) (z := Z1) (n := v1) (cs := (Z3 (a0.getD v1.toNat Z1)).cells) (full := false) I s33 I I hg8 I) I <| Z2 I (st_loadIA (cs := (Z3 (a0.getD v1.toNat Z1)).cells) (vs := (Z3 (a0.getD v1.toNat Z1)).cells) I a38 I I I) I <| Z2 I (st_alloc (cs := [(.int .i64 0), (.int .i64 0), (.int .i64 0), (.int .i64 0), (.int .i64 0), (.int .i64 0), (.str []), (.str []), (.str []), (.int .i64 0), (.int .i64 0), (.bool false), (.sl 4 [] false), (.sl 2 [] false)]) I z38 I I I) I <| Z2 I (Zj (v := (.int .i64 v1)) I I) I <| Z2 I (Z1m (cs := [(.int .i64 0), (.int .i64 0), (.int .i64 0), (.int .i64 0), (.int .i64 0), (.int .i64 0), (.str []), (.str []), (.str []), (.int .i64 0), (.int .i64 0), (.bool false), (.sl 4 [] false), (.sl 2 [] false)]) (vs := (Z3 (a0.getD v1.toNat Z1)).cells) (ds := (Z3 (a0.getD v1.toNat Z1)).cells) (v := (Z3 (a0.getD v1.toNat Z1))) sz38 I I I I I I I I) I <| Zf <| Zg <| Zh ?_
    refine Zc <| Z2 I (Zi (v := (.clo 74 [(.ip [(.sl 14 (a100.map Z3) false)])])) I I) I <| Z2 I (Zi (v := (.int .i64 v1)) I I) I ?_
    have ⟨v10, hv10, h⟩ := Z19 h
    refine Z2 I (Z17 (ar := [(.int .i64 v1)]) (caps := [(.ip [(.sl 14 (a100.map Z3) false)])]) Try.call74 (F74_ok K v1 a100 v10 hv10) I I ⟨rfl, trivial⟩ I) I <| Zf <| Zg ?_
    refine AWp.join (V := (List Zd)) (lp := fun v => F73_j12 K (F73_l3 K a0 a100 (F73_c5 K) k3) v1 v = some r) (sh := fun v => ⟨[(1, (.clo 74 [(.ip [(.sl 14 (a100.map Z3) false)])])), (5, (.vs 5)), (8, (.sl 14 (a0.map Z3) false)), (9, (.int .i64 (a0.length : Int))), (10, (.int .i64 v1))], [(5, (.vec 14 (List.map Z3 v)))]⟩) ?_ ?_
    ·intro v h
     revert h
     revert v
     intro v11 h
     try dsimp only at h ⊢
     unfold F73_j12 at h
     refine At.end <| Zg <| Zc <| Z2 I (Z1h (k := .i64) (a := v1) (b := 1) (c := (IntKind.i64.wrap (v1 + 1))) I I I I) I <| Z2 I (Zi (v := (.int .i64 (IntKind.i64.wrap (v1 + 1)))) I I) I <| Zf ?_
     exact Zw (st' := ⟨[(1, (.clo 74 [(.ip [(.sl 14 (a100.map Z3) false)])])), (5, (.vs 5)), (8, (.sl 14 (a0.map Z3) false)), (9, (.int .i64 (a0.length : Int))), (10, (.int .i64 (IntKind.i64.wrap (v1 + 1))))], [(5, (.vec 14 (List.map Z3 v11)))]⟩) ⟨rfl, rfl, rfl, rfl, rfl, trivial⟩ ⟨rfl, trivial⟩ (IH3 _ ((IntKind.i64.wrap (v1 + 1)), v11) (Nat.lt_succ_self _) h)
    ·intro J12
     have hif := Z1u h
     refine Z16 I (fun hc => ?_) (fun hc => ?_)
     ·have h := hif.1 hc
      refine Zc <| Z2 I (Zi (v := (.vs 5)) I I) I <| Z2 I (Z1b (cs := (Z3 (a0.getD v1.toNat Z1)).cells) (vs := (Z3 (a0.getD v1.toNat Z1)).cells) I a38 I I I I) I ?_
      have ⟨v14, hv14, h⟩ := Z19 h
      refine Z2 I (Z17 (ar := [(Z3 (a0.getD v1.toNat Z1))]) (caps := []) Try.call88 (F88_ok K (a0.getD v1.toNat Z1) v14 hv14) I I ⟨rfl, trivial⟩ I) I <| Z2 I (Z1f (vs := [(Z3 v14)]) (enc := Z3) (l := [v14]) I el33 I I ⟨rfl, trivial⟩ I els_Tapi_Span I I I I) I ?_
      have ⟨hg15, h⟩ := Z10 h
      refine Z2 I (st_append (m := 5) (enc := Z3) (l := v2) (l' := [v14]) (src := (.vs 21)) (rd := [(21, (.vec 14 (List.map Z3 [v14])))]) I I el33 I u33 I I I I (oneRead I) els_Tapi_Span hg15) I <| Z2 I (Zj (v := (.vs 5)) I I) I <| Zf ?_
      exact Zw (st' := ⟨[(1, (.clo 74 [(.ip [(.sl 14 (a100.map Z3) false)])])), (5, (.vs 5)), (8, (.sl 14 (a0.map Z3) false)), (9, (.int .i64 (a0.length : Int))), (10, (.int .i64 v1))], [(5, (.vec 14 (List.map Z3 (v2 ++ [v14]))))]⟩) ⟨rfl, rfl, rfl, rfl, rfl, trivial⟩ ⟨rfl, trivial⟩ (J12 (v2 ++ [v14]) h)
     ·have h := hif.2 hc
      refine Z18 ?_
      exact Zw (st' := ⟨[(1, (.clo 74 [(.ip [(.sl 14 (a100.map Z3) false)])])), (5, (.vs 5)), (8, (.sl 14 (a0.map Z3) false)), (9, (.int .i64 (a0.length : Int))), (10, (.int .i64 v1))], [(5, (.vec 14 (List.map Z3 v2)))]⟩) ⟨rfl, rfl, rfl, rfl, rfl, trivial⟩ ⟨rfl, trivial⟩ (J12 v2 h)
   ·have h := hif.2 hc
    refine AWp.exit <| At.thru ?_
    exact Zw (st' := ⟨[(5, (.vs 5))], [(5, (.vec 14 (List.map Z3 v2)))]⟩) ⟨rfl, trivial⟩ ⟨rfl, trivial⟩ (J3 v2 h)
def F44 (K : Nat) (a0 : (List Zd)) : Option ((List Zd)) :=
 (F72 K a0).bind fun v2 =>
  (F73 K v2 v2).bind fun v4 =>
   some v4
theorem F44_ok (K : Nat) (a0 : (List Zd)) (r : (List Zd)) (h : F44 K a0 = some r) : ACall P 44 ⟨[(.sl 14 (a0.map Z3) false)], [], (.sl 14 (r.map Z3) false), [], []⟩ := by
 refine Z1t Try.func44 Try.results44 rfl Try.ntmps44 rfl rfl rfl ?_
 intro E Q hP hN hro hret
 obtain ⟨P', nt', w0, F0, p0, S0, β0, ro0⟩ := E
 simp only at hP hN
 subst hP hN
 dsimp only [argT]
 unfold F44 at h
 refine Zh <| Zc <| Z2 I (Zj (v := (.sl 14 [] false)) I I) I <| Zf <| Zg <| Zh <| Zc <| Z2 I (Zi (v := (.sl 14 (a0.map Z3) false)) I I) I ?_
 have ⟨v2, hv2, h⟩ := Z19 h
 refine Z2 I (Z17 (ar := [(.sl 14 (a0.map Z3) false)]) (caps := []) Try.call72 (F72_ok K a0 v2 hv2) I I ⟨rfl, trivial⟩ I) I <| Z2 I (st_alloc (cs := [(.sl 14 [] true)]) I z33f I I I) I <| Z2 I (Z1m (cs := [(.sl 14 [] true)]) (vs := [(.sl 14 (v2.map Z3) false)]) (ds := [(.sl 14 (v2.map Z3) false)]) (v := (.sl 14 (v2.map Z3) false)) sz33 I I I I I I I I) I <| Zf <| Zg <| Zh <| Zc <| Z2 I (Z11 (cs := [(.sl 14 (v2.map Z3) false)]) (v := (.sl 14 (v2.map Z3) false)) I o33 I I I) I ?_
 refine Z2 I (stx_makeFunc (vs := [(.ptr 3 0)]) I ⟨rfl, trivial⟩) I <| AOps.ghost (st' := ⟨[(0, (.sl 14 (a0.map Z3) false)), (2, (.sl 14 [] false)), (3, (.ip [(.sl 14 (v2.map Z3) false)])), (4, (.sl 14 (a0.map Z3) false)), (5, (.sl 14 (v2.map Z3) false)), (6, (.sl 14 (v2.map Z3) false)), (7, (.clo 74 [(.ip [(.sl 14 (v2.map Z3) false)])]))], []⟩) (fun a w h => (Z1a ⟨[(0, (.sl 14 (a0.map Z3) false)), (2, (.sl 14 [] false)), (3, (.ip [(.sl 14 (v2.map Z3) false)])), (4, (.sl 14 (a0.map Z3) false)), (5, (.sl 14 (v2.map Z3) false)), (6, (.sl 14 (v2.map Z3) false)), (7, (.clo 74 [(.ip [(.sl 14 (v2.map Z3) false)])]))], []⟩ (ghost_freezeB (m := 3) (cs := [(.sl 14 (v2.map Z3) false)]) I a w (Z1a ⟨[(0, (.sl 14 (a0.map Z3) false)), (2, (.sl 14 [] false)), (3, (.ptr 3 0)), (4, (.sl 14 (a0.map Z3) false)), (5, (.sl 14 (v2.map Z3) false)), (6, (.sl 14 (v2.map Z3) false)), (7, (.clo 74 [(.ptr 3 0)]))], [(3, (.box [(.sl 14 (v2.map Z3) false)]))]⟩ h ⟨rfl, rfl, rfl, rfl, rfl, rfl, rfl, trivial⟩ ⟨rfl, trivial⟩)) ⟨rfl, rfl, rfl, rfl, rfl, rfl, rfl, trivial⟩ trivial)) ?_
 have ⟨v4, hv4, h⟩ := Z19 h
 refine Z2 I (Z17 (ar := [(.sl 14 (v2.map Z3) false), (.clo 74 [(.ip [(.sl 14 (v2.map Z3) false)])])]) (caps := []) Try.call73 (F73_ok K v2 v2 v4 hv4) I I ⟨rfl, rfl, trivial⟩ I) I <| Z2 I (Zj (v := (.sl 14 (v4.map Z3) false)) I I) I <| Zf <| Zg <| Z1e ?_
 have h := Option.some.inj h
 subst h
 refine (hret _ ?_).1
 exact ⟨[(.sl 14 (v4.map Z3) false)], ⟨rfl, trivial⟩, rfl, trivial⟩
def F55 (K : Nat) (a0 : (List Zb)) : Option ((List Zb)) :=
 if ([] : List Zb).length + a0.length ≤ 1073741824 then
  some ([] ++ a0)
 else none
theorem F55_ok (K : Nat) (a0 : (List Zb)) (r : (List Zb)) (h : F55 K a0 = some r) : ACall P 55 ⟨[(.sl 10 (a0.map Z6) false)], [], .vs 2, [(2, .vec 10 (List.map Z6 r))], [2]⟩ := by
 refine Z1t Try.func55 Try.results55 rfl Try.ntmps55 rfl rfl rfl ?_
 intro E Q hP hN hro hret
 obtain ⟨P', nt', w0, F0, p0, S0, β0, ro0⟩ := E
 simp only at hP hN
 subst hP hN
 dsimp only [argT]
 unfold F55 at h
 refine Zh <| Zc <| Z2 I (Zj (v := (.sl 10 [] true)) I I) I <| Zf <| Zg <| Zh <| Zh <| Zc ?_
 refine Z2 I (Zi (v := (.sl 10 (a0.map Z6) false)) I I) I ?_
 refine AOps.consNil (enc := Z6) (es := a0) (full := false) I u29 I (fun x1 hbx1 => ?_)
 refine Zf <| Zg ?_
 refine Z16 I (fun hc => ?_) (fun hc => ?_)
 ·have hz := hbx1 hc
  have h : (some []) = some r := by simp only [hz] at h ⊢; simpa using h
  refine Zh <| Zc <| Z2 I (Zj (v := (.sl 10 [] true)) I I) I <| Zf <| Zg <| Z1e <| Z1i <| At.ghost (st' := ⟨[(2, (.vs 2))], [(2, (.vec 10 (List.map Z6 ([] : List Zb))))]⟩) (fun a w h => (Z1a ⟨[(2, (.vs 2))], [(2, (.vec 10 (List.map Z6 ([] : List Zb))))]⟩ (ghost_own (k := 2) (m := 2) (sz := 10) I I a w (Z1a ⟨[(2, (.sl 10 [] true))], []⟩ h ⟨rfl, trivial⟩ trivial)) ⟨rfl, trivial⟩ ⟨rfl, trivial⟩)) ?_
  have h := Option.some.inj h
  subst h
  refine (hret _ ?_).1
  exact ⟨[(.vs 2)], ⟨rfl, trivial⟩, rfl, ⟨rfl, trivial⟩⟩
 ·refine Z18 <| Zg <| Zh <| Zc <| Z2 I (Z1f (vs := []) (enc := Z6) (l := ([] : List Zb)) I el29 I I trivial I Z1n I I I I) I <| Z2 I (Zi (v := (.sl 10 (a0.map Z6) false)) I I) I ?_
  have ⟨hg2, h⟩ := Z10 h
  refine Z2 I (st_append (m := 5) (enc := Z6) (l := ([] : List Zb)) (l' := a0) (src := (.sl 10 (a0.map Z6) false)) (rd := []) I I el29 I u29 I I I ⟨rfl, rfl, rfl⟩ noReads Z1n hg2) I <| Z2 I (Zj (v := (.vs 5)) I I) I <| Zf <| Zg <| Z1e <| At.ghost (st' := ⟨[(2, (.vs 2))], [(2, (.vec 10 (List.map Z6 ([] ++ a0))))]⟩) (fun a w h => (Z1a ⟨[(2, (.vs 2))], [(2, (.vec 10 (List.map Z6 ([] ++ a0))))]⟩ (ghost_sw (a := 5) (b := 2) I I a w (Z1a ⟨[(2, (.vs 5))], [(5, (.vec 10 (List.map Z6 ([] ++ a0))))]⟩ h ⟨rfl, trivial⟩ ⟨rfl, trivial⟩)) ⟨rfl, trivial⟩ ⟨rfl, trivial⟩)) ?_
  have h := Option.some.inj h
  subst h
  refine (hret _ ?_).1
  exact ⟨[(.vs 2)], ⟨rfl, trivial⟩, rfl, ⟨rfl, trivial⟩⟩
def F57_c3 (K : Nat) (a0 : (List Zb)) : Option ((List Zb)) :=
 some a0
def F57_c18 (K : Nat) (v16 : Int) (v17 : (List Zb)) : Option ((List Zb)) :=
 if (0 : Int) ≤ v16 ∧ v16 ≤ (v17.length : Int) ∧ (v17.length : Int) ≤ (v17.length : Nat) then
  if (0 + v16.toNat) + ((v17.length : Int).toNat - v16.toNat) ≤ v17.length then
   if (0 + v16.toNat) + ((v17.length : Int).toNat - v16.toNat) ≤ v17.length then
    if (0 : Int) ≤ 0 ∧ 0 ≤ v16 ∧ v16 ≤ ((v17.take (0 + v16.toNat) ++ List.replicate ((v17.length : Int).toNat - v16.toNat) Z8 ++ v17.drop ((0 + v16.toNat) + ((v17.length : Int).toNat - v16.toNat))).length : Nat) then
     if (0 + (0 : Int).toNat) + (v16.toNat - (0 : Int).toNat) ≤ (v17.take (0 + v16.toNat) ++ List.replicate ((v17.length : Int).toNat - v16.toNat) Z8 ++ v17.drop ((0 + v16.toNat) + ((v17.length : Int).toNat - v16.toNat))).length then
      some (((v17.take (0 + v16.toNat) ++ List.replicate ((v17.length : Int).toNat - v16.toNat) Z8 ++ v17.drop ((0 + v16.toNat) + ((v17.length : Int).toNat - v16.toNat))).drop (0 + (0 : Int).toNat)).take (v16.toNat - (0 : Int).toNat))
     else none
    else none
   else none
  else none
 else none
def F57_j35 (K : Nat) (b25 : Int → Int → (List Zb) → Option ((List Zb))) (v13 : Int) (v33 : Int) (v34 : (List Zb)) : Option ((List Zb)) :=
 b25 v33 (IntKind.i64.wrap (v13 + 1)) v34
def F57_l15 (K : Nat) (v1 : Int) (a0 : (List Zb)) (c19 : Int → (List Zb) → Option ((List Zb))) : Nat → Int → Int → (List Zb) → Option ((List Zb))
 | 0, _, _, _ => none
 | k15 + 1, v12, v13, v14 =>
  if (0 + v1.toNat) + ((a0.length : Int).toNat - v1.toNat) ≤ v14.length then
   if (decide (v13 < ((((a0.length : Int).toNat - v1.toNat) : Nat) : Int))) = true then
    if (0 + v1.toNat) + ((a0.length : Int).toNat - v1.toNat) ≤ v14.length then
     if (0 : Int) ≤ v13 ∧ v13 < (((a0.length : Int).toNat - v1.toNat) : Nat) then
      if ((0 + v1.toNat) + v13.toNat) < v14.length then
       if (0 + v1.toNat) + ((a0.length : Int).toNat - v1.toNat) ≤ v14.length then
        if (0 : Int) ≤ (IntKind.i64.wrap (v13 - 1)) ∧ (IntKind.i64.wrap (v13 - 1)) < (((a0.length : Int).toNat - v1.toNat) : Nat) then
         if ((0 + v1.toNat) + (IntKind.i64.wrap (v13 - 1)).toNat) < v14.length then
          if (!(((v14.getD ((0 + v1.toNat) + v13.toNat) Z8).Kind == (v14.getD ((0 + v1.toNat) + (IntKind.i64.wrap (v13 - 1)).toNat) Z8).Kind) && (((v14.getD ((0 + v1.toNat) + v13.toNat) Z8).A.Trace == (v14.getD ((0 + v1.toNat) + (IntKind.i64.wrap (v13 - 1)).toNat) Z8).A.Trace) && (((v14.getD ((0 + v1.toNat) + v13.toNat) Z8).A.Id == (v14.getD ((0 + v1.toNat) + (IntKind.i64.wrap (v13 - 1)).toNat) Z8).A.Id) && (((v14.getD ((0 + v1.toNat) + v13.toNat) Z8).B.Trace == (v14.getD ((0 + v1.toNat) + (IntKind.i64.wrap (v13 - 1)).toNat) Z8).B.Trace) && (((v14.getD ((0 + v1.toNat) + v13.toNat) Z8).B.Id == (v14.getD ((0 + v1.toNat) + (IntKind.i64.wrap (v13 - 1)).toNat) Z8).B.Id) && (((v14.getD ((0 + v1.toNat) + v13.toNat) Z8).From == (v14.getD ((0 + v1.toNat) + (IntKind.i64.wrap (v13 - 1)).toNat) Z8).From) && (((v14.getD ((0 + v1.toNat) + v13.toNat) Z8).To == (v14.getD ((0 + v1.toNat) + (IntKind.i64.wrap (v13 - 1)).toNat) Z8).To) && (((v14.getD ((0 + v1.toNat) + v13.toNat) Z8).Sent == (v14.getD ((0 + v1.toNat) + (IntKind.i64.wrap (v13 - 1)).toNat) Z8).Sent) && (((v14.getD ((0 + v1.toNat) + v13.toNat) Z8).Received == (v14.getD ((0 + v1.toNat) + (IntKind.i64.wrap (v13 - 1)).toNat) Z8).Received) && (((v14.getD ((0 + v1.toNat) + v13.toNat) Z8).Least == (v14.getD ((0 + v1.toNat) + (IntKind.i64.wrap (v13 - 1)).toNat) Z8).Least) && true))))))))))) = true then
           if (0 + v1.toNat) + ((a0.length : Int).toNat - v1.toNat) ≤ v14.length then
            if (0 : Int) ≤ v13 ∧ v13 < (((a0.length : Int).toNat - v1.toNat) : Nat) then
             if ((0 + v1.toNat) + v13.toNat) < v14.length then
              if (0 : Int) ≤ v12 ∧ v12 < (v14.length : Nat) then
               if v12.toNat < v14.length then
                F57_j35 K (F57_l15 K v1 a0 c19 k15) v13 (IntKind.i64.wrap (v12 + 1)) (v14.set v12.toNat (v14.getD ((0 + v1.toNat) + v13.toNat) Z8))
               else none
              else none
             else none
            else none
           else none
          else
           F57_j35 K (F57_l15 K v1 a0 c19 k15) v13 v12 v14
         else none
        else none
       else none
      else none
     else none
    else none
   else
    c19 v12 v14
  else none
def F57_l2 (K : Nat) (a0 : (List Zb)) (c4 : Option ((List Zb))) : Nat → Int → Option ((List Zb))
 | 0, _ => none
 | k2 + 1, v1 =>
  if (decide (v1 < (a0.length : Int))) = true then
   if (0 : Int) ≤ v1 ∧ v1 < (a0.length : Nat) then
    if v1.toNat < a0.length then
     if (0 : Int) ≤ (IntKind.i64.wrap (v1 - 1)) ∧ (IntKind.i64.wrap (v1 - 1)) < (a0.length : Nat) then
      if (IntKind.i64.wrap (v1 - 1)).toNat < a0.length then
       if (((a0.getD v1.toNat Z8).Kind == (a0.getD (IntKind.i64.wrap (v1 - 1)).toNat Z8).Kind) && (((a0.getD v1.toNat Z8).A.Trace == (a0.getD (IntKind.i64.wrap (v1 - 1)).toNat Z8).A.Trace) && (((a0.getD v1.toNat Z8).A.Id == (a0.getD (IntKind.i64.wrap (v1 - 1)).toNat Z8).A.Id) && (((a0.getD v1.toNat Z8).B.Trace == (a0.getD (IntKind.i64.wrap (v1 - 1)).toNat Z8).B.Trace) && (((a0.getD v1.toNat Z8).B.Id == (a0.getD (IntKind.i64.wrap (v1 - 1)).toNat Z8).B.Id) && (((a0.getD v1.toNat Z8).From == (a0.getD (IntKind.i64.wrap (v1 - 1)).toNat Z8).From) && (((a0.getD v1.toNat Z8).To == (a0.getD (IntKind.i64.wrap (v1 - 1)).toNat Z8).To) && (((a0.getD v1.toNat Z8).Sent == (a0.getD (IntKind.i64.wrap (v1 - 1)).toNat Z8).Sent) && (((a0.getD v1.toNat Z8).Received == (a0.getD (IntKind.i64.wrap (v1 - 1)).toNat Z8).Received) && (((a0.getD v1.toNat Z8).Least == (a0.getD (IntKind.i64.wrap (v1 - 1)).toNat Z8).Least) && true)))))))))) = true then
        if (0 : Int) ≤ v1 ∧ v1 ≤ (a0.length : Int) ∧ (a0.length : Int) ≤ (a0.length : Nat) then
         if (0 + v1.toNat) + ((a0.length : Int).toNat - v1.toNat) ≤ a0.length then
          F57_l15 K v1 a0 (F57_c18 K) K v1 1 a0
         else none
        else none
       else
        (F57_l2 K a0 c4 k2) (IntKind.i64.wrap (v1 + 1))
      else none
     else none
    else none
   else none
  else
   c4
def F57 (K : Nat) (a0 : (List Zb)) : Option ((List Zb)) :=
 if (decide ((a0.length : Int) < 2)) = true then
  some a0
 else
  F57_l2 K a0 (F57_c3 K a0) K 1
theorem F57_ok (K : Nat) (a0 : (List Zb)) (r : (List Zb)) (h : F57 K a0 = some r) : ACall P 57 ⟨[(.vs 0)], [(0, .vec 10 (List.map Z6 a0))], .vs 0, [(0, .vec 10 (List.map Z6 r))], [0]⟩ := by
 refine Z1t Try.func57 Try.results57 rfl Try.ntmps57 rfl rfl rfl ?_
 intro E Q hP hN hro hret
 obtain ⟨P', nt', w0, F0, p0, S0, β0, ro0⟩ := E
 simp only at hP hN
 subst hP hN
 dsimp only [argT]
 unfold F57 at h
 refine Zh <| Zc <| Z2 I (Zj (v := (.sl 10 [] false)) I I) I <| Zf <| Zg <| Zh <| Zh <| Zc ?_
 refine Z2 I (Zi (v := (.vs 0)) I I) I <| Z2 I (stx_lenV (l := a0) (enc := Z6) I u29 I I) I <| Z2 I (Z1o (k := .i64) (a := (a0.length : Int)) (b := 2) (c := (decide ((a0.length : Int) < 2))) I I I I) I <| Zf <| Zg ?_
 have hif := Z1u h
 refine Z16 I (fun hc => ?_) (fun hc => ?_)
 ·have h := hif.1 hc
  refine Zh <| Zc <| Z2 I (Zi (v := (.vs 0)) I I) I <| Z2 I (Zj (v := (.vs 0)) I I) I <| Zf <| Zg <| Z1e <| Z1i ?_
  have h := Option.some.inj h
  subst h
  refine (hret _ ?_).1
  exact ⟨[(.vs 0)], ⟨rfl, trivial⟩, rfl, ⟨rfl, trivial⟩⟩
 ·have h := hif.2 hc
  refine Z18 <| Zg <| Zh <| Zh <| Zc <| Z2 I (Zj (v := (.int .i64 1)) I I) I <| Zf <| Zg ?_
  refine Z1x (st' := ⟨[(0, (.vs 0)), (3, (.int .i64 1))], [(0, (.vec 10 (List.map Z6 a0)))]⟩) ⟨rfl, rfl, trivial⟩ ⟨rfl, trivial⟩ ?_
  refine Z1j (V := Int) (X := Unit) (lp := fun k v => F57_l2 K a0 (F57_c3 K a0) k v = some r) (sh := fun v => ⟨[(0, (.vs 0)), (3, (.int .i64 v))], [(0, (.vec 10 (List.map Z6 a0)))]⟩) (x := fun v => F57_c3 K a0 = some r) (shx := fun v => ⟨[(0, (.vs 0))], [(0, (.vec 10 (List.map Z6 a0)))]⟩) (k := K) (v := 1) h ?_ ?_
  ·intro v h
   try dsimp only at h ⊢
   unfold F57_c3 at h
   refine Zg <| Zh <| Zc <| Z2 I (Zi (v := (.vs 0)) I I) I <| Z2 I (Zj (v := (.vs 0)) I I) I <| Zf <| Zg <| Z1e ?_
   have h := Option.some.inj h
   subst h
   refine (hret _ ?_).1
   exact ⟨[(.vs 0)], ⟨rfl, trivial⟩, rfl, ⟨rfl, trivial⟩⟩
  ·intro N k2 v h IH2 J2
   revert h
   revert v
   intro v1 h
   try dsimp only at h IH2 J2 ⊢
   cases k2 with
   | zero => cases h
   | succ k2 =>
    rw [F57_l2] at h
    refine Zh <| Zh <| Zc <| Z2 I (Zi (v := (.int .i64 v1)) I I) I <| Z2 I (Zi (v := (.vs 0)) I I) I <| Z2 I (stx_lenV (l := a0) (enc := Z6) I u29 I I) I <| Z2 I (Z1o (k := .i64) (a := v1) (b := (a0.length : Int)) (c := (decide (v1 < (a0.length : Int)))) I I I I) I <| Zf ?_
    refine Zg ?_
    have hif := Z1u h
    refine Z16 I (fun hc => ?_) (fun hc => ?_)
    ·have h := hif.1 hc
     refine Z18 <| Zg <| Zh <| AWp.block <| Zh <| Z1s mixed <| Z7 0 I (Zi (v := (.vs 0)) I I) <| Z7 1 I (Zi (v := (.int .i64 v1)) I I) ?_
     have ⟨hg6, h⟩ := Z10 h
     refine Z7 2 I (st_indexV (k := .i64) (v := (.vs 0)) (n := 0) (off := 0) (len := a0.length) (es := (List.map Z6 a0)) (j := v1) (m := v1.toNat) I s29 I I (vecR_map _ _ _) I hg6 (Nat.zero_add _)) ?_
     have ⟨hg7, h⟩ := Z10 h
     refine Z7 3 I (st_loadVA (l := a0) (enc := Z6) (z := Z8) (vs := (Z6 (a0.getD v1.toNat Z8)).cells) I a25 I I hg7 I I) <| Z7 4 I (Zi (v := (.vs 0)) I I) <| Z7 5 I (Zi (v := (.int .i64 v1)) I I) <| Z7 6 I (Z1h (k := .i64) (a := v1) (b := 1) (c := (IntKind.i64.wrap (v1 - 1))) I I I I) ?_
     have ⟨hg8, h⟩ := Z10 h
     refine Z7 7 I (st_indexV (k := .i64) (v := (.vs 0)) (n := 0) (off := 0) (len := a0.length) (es := (List.map Z6 a0)) (j := (IntKind.i64.wrap (v1 - 1))) (m := (IntKind.i64.wrap (v1 - 1)).toNat) I s29 I I (vecR_map _ _ _) I hg8 (Nat.zero_add _)) ?_
     have ⟨hg9, h⟩ := Z10 h
     refine Z7 8 I (st_loadVA (l := a0) (enc := Z6) (z := Z8) (vs := (Z6 (a0.getD (IntKind.i64.wrap (v1 - 1)).toNat Z8)).cells) I a25 I I hg9 I I) <| Z7 9 I (st_cmpA (xs := (Z6 (a0.getD v1.toNat Z8)).cells) (ys := (Z6 (a0.getD (IntKind.i64.wrap (v1 - 1)).toNat Z8)).cells) (b := (((a0.getD v1.toNat Z8).Kind == (a0.getD (IntKind.i64.wrap (v1 - 1)).toNat Z8).Kind) && (((a0.getD v1.toNat Z8).A.Trace == (a0.getD (IntKind.i64.wrap (v1 - 1)).toNat Z8).A.Trace) && (((a0.getD v1.toNat Z8).A.Id == (a0.getD (IntKind.i64.wrap (v1 - 1)).toNat Z8).A.Id) && (((a0.getD v1.toNat Z8).B.Trace == (a0.getD (IntKind.i64.wrap (v1 - 1)).toNat Z8).B.Trace) && (((a0.getD v1.toNat Z8).B.Id == (a0.getD (IntKind.i64.wrap (v1 - 1)).toNat Z8).B.Id) && (((a0.getD v1.toNat Z8).From == (a0.getD (IntKind.i64.wrap (v1 - 1)).toNat Z8).From) && (((a0.getD v1.toNat Z8).To == (a0.getD (IntKind.i64.wrap (v1 - 1)).toNat Z8).To) && (((a0.getD v1.toNat Z8).Sent == (a0.getD (IntKind.i64.wrap (v1 - 1)).toNat Z8).Sent) && (((a0.getD v1.toNat Z8).Received == (a0.getD (IntKind.i64.wrap (v1 - 1)).toNat Z8).Received) && (((a0.getD v1.toNat Z8).Least == (a0.getD (IntKind.i64.wrap (v1 - 1)).toNat Z8).Least) && true))))))))))) (c := (((a0.getD v1.toNat Z8).Kind == (a0.getD (IntKind.i64.wrap (v1 - 1)).toNat Z8).Kind) && (((a0.getD v1.toNat Z8).A.Trace == (a0.getD (IntKind.i64.wrap (v1 - 1)).toNat Z8).A.Trace) && (((a0.getD v1.toNat Z8).A.Id == (a0.getD (IntKind.i64.wrap (v1 - 1)).toNat Z8).A.Id) && (((a0.getD v1.toNat Z8).B.Trace == (a0.getD (IntKind.i64.wrap (v1 - 1)).toNat Z8).B.Trace) && (((a0.getD v1.toNat Z8).B.Id == (a0.getD (IntKind.i64.wrap (v1 - 1)).toNat Z8).B.Id) && (((a0.getD v1.toNat Z8).From == (a0.getD (IntKind.i64.wrap (v1 - 1)).toNat Z8).From) && (((a0.getD v1.toNat Z8).To == (a0.getD (IntKind.i64.wrap (v1 - 1)).toNat Z8).To) && (((a0.getD v1.toNat Z8).Sent == (a0.getD (IntKind.i64.wrap (v1 - 1)).toNat Z8).Sent) && (((a0.getD v1.toNat Z8).Received == (a0.getD (IntKind.i64.wrap (v1 - 1)).toNat Z8).Received) && (((a0.getD v1.toNat Z8).Least == (a0.getD (IntKind.i64.wrap (v1 - 1)).toNat Z8).Least) && true))))))))))) I eq25 I I I I) <| Z1v (by kernel_rfl) I <| Zg ?_
     have hif := Z1u h
     refine Z16 I (fun hc => ?_) (fun hc => ?_)
     ·have h := hif.1 hc
      refine Zh <| Zc <| Z2 I (Zi (v := (.vs 0)) I I) I <| Z2 I (Zi (v := (.int .i64 v1)) I I) I ?_
      have ⟨hg10, h⟩ := Z10 h
      have ⟨hg11, h⟩ := Z10 h
      refine Z2 I (stx_sliceVL (v := (.vs 0)) (n := 0) (off := 0) (len := a0.length) (l := a0) (enc := Z6) (kl := .i64) (lo := v1) I s29 I I (vecR_map _ _ _) I hg10 I) I <| Z2 I (Zj (v := (.vsub 0 (0 + v1.toNat) ((a0.length : Int).toNat - v1.toNat) false)) I I) I <| Zf <| Zg <| Zh <| Zh <| Zc <| Z2 I (Zj (v := (.int .i64 1)) I I) I ?_
      refine Zf <| Zg <| Z1x (st' := ⟨[(0, (.vs 0)), (3, (.int .i64 v1)), (4, (.vsub 0 (0 + v1.toNat) ((a0.length : Int).toNat - v1.toNat) false)), (5, (.int .i64 1))], [(0, (.vec 10 (List.map Z6 a0)))]⟩) ⟨rfl, rfl, rfl, rfl, trivial⟩ ⟨rfl, trivial⟩ ?_
      refine Z1j (V := Int × Int × (List Zb)) (X := Int × (List Zb)) (lp := fun k v => F57_l15 K v1 a0 (F57_c18 K) k v.1 v.2.1 v.2.2 = some r) (sh := fun v => ⟨[(0, (.vs 0)), (3, (.int .i64 v.1)), (4, (.vsub 0 (0 + v1.toNat) ((a0.length : Int).toNat - v1.toNat) false)), (5, (.int .i64 v.2.1))], [(0, (.vec 10 (List.map Z6 v.2.2)))]⟩) (x := fun v => F57_c18 K v.1 v.2 = some r) (shx := fun v => ⟨[(0, (.vs 0)), (3, (.int .i64 v.1))], [(0, (.vec 10 (List.map Z6 v.2)))]⟩) (k := K) (v := (v1, 1, a0)) h ?_ ?_
      ·intro v h
       obtain ⟨v16, v17⟩ := v
       try dsimp only at h ⊢
       unfold F57_c18 at h
       refine Zg <| Zh <| Zc <| Z2 I (Zi (v := (.vs 0)) I I) I <| Z2 I (Zi (v := (.int .i64 v16)) I I) I ?_
       have ⟨hg20, h⟩ := Z10 h
       have ⟨hg21, h⟩ := Z10 h
       refine Z2 I (stx_sliceVL (v := (.vs 0)) (n := 0) (off := 0) (len := v17.length) (l := v17) (enc := Z6) (kl := .i64) (lo := v16) I s29 I I (vecR_map _ _ _) I hg20 I) I ?_
       have ⟨hg22, h⟩ := Z10 h
       refine Z2 I (st_clear (v := (.vsub 0 (0 + v16.toNat) ((v17.length : Int).toNat - v16.toNat) false)) (n := 0) (off := (0 + v16.toNat)) (len := ((v17.length : Int).toNat - v16.toNat)) (l := v17) (enc := Z6) el29 ze25 I I I (vecR_sub hg22) Z1n) I <| Zf <| Zg <| Zh <| Zc <| Z2 I (Zi (v := (.vs 0)) I I) I <| Z2 I (Zi (v := (.int .i64 v16)) I I) I ?_
       have ⟨hg23, h⟩ := Z10 h
       have ⟨hg24, h⟩ := Z10 h
       refine Z2 I (stx_sliceVH (v := (.vs 0)) (n := 0) (off := 0) (len := (v17.take (0 + v16.toNat) ++ List.replicate ((v17.length : Int).toNat - v16.toNat) Z8 ++ v17.drop ((0 + v16.toNat) + ((v17.length : Int).toNat - v16.toNat))).length) (l := (v17.take (0 + v16.toNat) ++ List.replicate ((v17.length : Int).toNat - v16.toNat) Z8 ++ v17.drop ((0 + v16.toNat) + ((v17.length : Int).toNat - v16.toNat)))) (enc := Z6) (kh := .i64) (hi := v16) I s29 I I (vecR_map _ _ _) I hg23 I) I <| Z2 I (Zj (v := (.vsub 0 (0 + (0 : Int).toNat) (v16.toNat - (0 : Int).toNat) false)) I I) I <| Zf <| Zg <| Z1e <| At.overR <| Z1i ?_
       refine Z1i (At.overR ?_)
       refine Z1i <| At.ghost (st' := ⟨[(2, (.vs 0))], [(0, (.vec 10 (List.map Z6 (((v17.take (0 + v16.toNat) ++ List.replicate ((v17.length : Int).toNat - v16.toNat) Z8 ++ v17.drop ((0 + v16.toNat) + ((v17.length : Int).toNat - v16.toNat))).drop (0 + (0 : Int).toNat)).take (v16.toNat - (0 : Int).toNat)))))]⟩) (fun a w h => (Z1a ⟨[(2, (.vs 0))], [(0, (.vec 10 (List.map Z6 (((v17.take (0 + v16.toNat) ++ List.replicate ((v17.length : Int).toNat - v16.toNat) Z8 ++ v17.drop ((0 + v16.toNat) + ((v17.length : Int).toNat - v16.toNat))).drop (0 + (0 : Int).toNat)).take (v16.toNat - (0 : Int).toNat)))))]⟩ (ghost_trunc (k := 2) (m := 0) (sz := 10) (off := (0 + (0 : Int).toNat)) (len := (v16.toNat - (0 : Int).toNat)) (enc := Z6) (l := (v17.take (0 + v16.toNat) ++ List.replicate ((v17.length : Int).toNat - v16.toNat) Z8 ++ v17.drop ((0 + v16.toNat) + ((v17.length : Int).toNat - v16.toNat)))) I hg24 a w (Z1a ⟨[(2, (.vsub 0 (0 + (0 : Int).toNat) (v16.toNat - (0 : Int).toNat) false))], [(0, (.vec 10 (List.map Z6 (v17.take (0 + v16.toNat) ++ List.replicate ((v17.length : Int).toNat - v16.toNat) Z8 ++ v17.drop ((0 + v16.toNat) + ((v17.length : Int).toNat - v16.toNat))))))]⟩ h ⟨rfl, trivial⟩ ⟨rfl, trivial⟩)) ⟨rfl, trivial⟩ ⟨rfl, trivial⟩)) ?_
       have h := Option.some.inj h
       subst h
       refine (hret _ ?_).1
       exact ⟨[(.vs 0)], ⟨rfl, trivial⟩, rfl, ⟨rfl, trivial⟩⟩
      ·intro N k15 v h IH15 J15
       obtain ⟨v12, v13, v14⟩ := v
       try dsimp only at h IH15 J15 ⊢
       cases k15 with
       | zero => cases h
       | succ k15 =>
        rw [F57_l15] at h
        refine Zh <| Zh <| Zc <| Z2 I (Zi (v := (.int .i64 v13)) I I) I <| Z2 I (Zi (v := (.vsub 0 (0 + v1.toNat) ((a0.length : Int).toNat - v1.toNat) false)) I I) I ?_
        have ⟨hg26, h⟩ := Z10 h
        refine Z2 I (stx_lenVS (v := (.vsub 0 (0 + v1.toNat) ((a0.length : Int).toNat - v1.toNat) false)) (n := 0) (off := (0 + v1.toNat)) (len := ((a0.length : Int).toNat - v1.toNat)) (l := v14) (enc := Z6) I u29 I I (vecR_sub hg26)) I <| Z2 I (Z1o (k := .i64) (a := v13) (b := ((((a0.length : Int).toNat - v1.toNat) : Nat) : Int)) (c := (decide (v13 < ((((a0.length : Int).toNat - v1.toNat) : Nat) : Int)))) I I I I) I <| Zf <| Zg ?_
        have hif := Z1u h
        refine Z16 I (fun hc => ?_) (fun hc => ?_)
        ·have h := hif.1 hc
         refine Z18 <| Zg <| Zh <| AWp.block <| Zh <| Z1s mixed <| Z7 0 I (Zi (v := (.vsub 0 (0 + v1.toNat) ((a0.length : Int).toNat - v1.toNat) false)) I I) <| Z7 1 I (Zi (v := (.int .i64 v13)) I I) ?_
         have ⟨hg27, h⟩ := Z10 h
         have ⟨hg28, h⟩ := Z10 h
         refine Z7 2 I (st_indexV (k := .i64) (v := (.vsub 0 (0 + v1.toNat) ((a0.length : Int).toNat - v1.toNat) false)) (n := 0) (off := (0 + v1.toNat)) (len := ((a0.length : Int).toNat - v1.toNat)) (es := (List.map Z6 v14)) (j := v13) (m := ((0 + v1.toNat) + v13.toNat)) I s29 I I (vecR_sub hg27) I hg28 (I)) ?_
         have ⟨hg29, h⟩ := Z10 h
         refine Z7 3 I (st_loadVA (l := v14) (enc := Z6) (z := Z8) (vs := (Z6 (v14.getD ((0 + v1.toNat) + v13.toNat) Z8)).cells) I a25 I I hg29 I I) <| Z7 4 I (Zi (v := (.vsub 0 (0 + v1.toNat) ((a0.length : Int).toNat - v1.toNat) false)) I I) <| Z7 5 I (Zi (v := (.int .i64 v13)) I I) <| Z7 6 I (Z1h (k := .i64) (a := v13) (b := 1) (c := (IntKind.i64.wrap (v13 - 1))) I I I I) ?_
         have ⟨hg30, h⟩ := Z10 h
         have ⟨hg31, h⟩ := Z10 h
         refine Z7 7 I (st_indexV (k := .i64) (v := (.vsub 0 (0 + v1.toNat) ((a0.length : Int).toNat - v1.toNat) false)) (n := 0) (off := (0 + v1.toNat)) (len := ((a0.length : Int).toNat - v1.toNat)) (es := (List.map Z6 v14)) (j := (IntKind.i64.wrap (v13 - 1))) (m := ((0 + v1.toNat) + (IntKind.i64.wrap (v13 - 1)).toNat)) I s29 I I (vecR_sub hg30) I hg31 (I)) ?_
         have ⟨hg32, h⟩ := Z10 h
         refine Z7 8 I (st_loadVA (l := v14) (enc := Z6) (z := Z8) (vs := (Z6 (v14.getD ((0 + v1.toNat) + (IntKind.i64.wrap (v13 - 1)).toNat) Z8)).cells) I a25 I I hg32 I I) <| Z7 9 I (st_cmpA (xs := (Z6 (v14.getD ((0 + v1.toNat) + v13.toNat) Z8)).cells) (ys := (Z6 (v14.getD ((0 + v1.toNat) + (IntKind.i64.wrap (v13 - 1)).toNat) Z8)).cells) (b := (((v14.getD ((0 + v1.toNat) + v13.toNat) Z8).Kind == (v14.getD ((0 + v1.toNat) + (IntKind.i64.wrap (v13 - 1)).toNat) Z8).Kind) && (((v14.getD ((0 + v1.toNat) + v13.toNat) Z8).A.Trace == (v14.getD ((0 + v1.toNat) + (IntKind.i64.wrap (v13 - 1)).toNat) Z8).A.Trace) && (((v14.getD ((0 + v1.toNat) + v13.toNat) Z8).A.Id == (v14.getD ((0 + v1.toNat) + (IntKind.i64.wrap (v13 - 1)).toNat) Z8).A.Id) && (((v14.getD ((0 + v1.toNat) + v13.toNat) Z8).B.Trace == (v14.getD ((0 + v1.toNat) + (IntKind.i64.wrap (v13 - 1)).toNat) Z8).B.Trace) && (((v14.getD ((0 + v1.toNat) + v13.toNat) Z8).B.Id == (v14.getD ((0 + v1.toNat) + (IntKind.i64.wrap (v13 - 1)).toNat) Z8).B.Id) && (((v14.getD ((0 + v1.toNat) + v13.toNat) Z8).From == (v14.getD ((0 + v1.toNat) + (IntKind.i64.wrap (v13 - 1)).toNat) Z8).From) && (((v14.getD ((0 + v1.toNat) + v13.toNat) Z8).To == (v14.getD ((0 + v1.toNat) + (IntKind.i64.wrap (v13 - 1)).toNat) Z8).To) && (((v14.getD ((0 + v1.toNat) + v13.toNat) Z8).Sent == (v14.getD ((0 + v1.toNat) + (IntKind.i64.wrap (v13 - 1)).toNat) Z8).Sent) && (((v14.getD ((0 + v1.toNat) + v13.toNat) Z8).Received == (v14.getD ((0 + v1.toNat) + (IntKind.i64.wrap (v13 - 1)).toNat) Z8).Received) && (((v14.getD ((0 + v1.toNat) + v13.toNat) Z8).Least == (v14.getD ((0 + v1.toNat) + (IntKind.i64.wrap (v13 - 1)).toNat) Z8).Least) && true))))))))))) (c := (!(((v14.getD ((0 + v1.toNat) + v13.toNat) Z8).Kind == (v14.getD ((0 + v1.toNat) + (IntKind.i64.wrap (v13 - 1)).toNat) Z8).Kind) && (((v14.getD ((0 + v1.toNat) + v13.toNat) Z8).A.Trace == (v14.getD ((0 + v1.toNat) + (IntKind.i64.wrap (v13 - 1)).toNat) Z8).A.Trace) && (((v14.getD ((0 + v1.toNat) + v13.toNat) Z8).A.Id == (v14.getD ((0 + v1.toNat) + (IntKind.i64.wrap (v13 - 1)).toNat) Z8).A.Id) && (((v14.getD ((0 + v1.toNat) + v13.toNat) Z8).B.Trace == (v14.getD ((0 + v1.toNat) + (IntKind.i64.wrap (v13 - 1)).toNat) Z8).B.Trace) && (((v14.getD ((0 + v1.toNat) + v13.toNat) Z8).B.Id == (v14.getD ((0 + v1.toNat) + (IntKind.i64.wrap (v13 - 1)).toNat) Z8).B.Id) && (((v14.getD ((0 + v1.toNat) + v13.toNat) Z8).From == (v14.getD ((0 + v1.toNat) + (IntKind.i64.wrap (v13 - 1)).toNat) Z8).From) && (((v14.getD ((0 + v1.toNat) + v13.toNat) Z8).To == (v14.getD ((0 + v1.toNat) + (IntKind.i64.wrap (v13 - 1)).toNat) Z8).To) && (((v14.getD ((0 + v1.toNat) + v13.toNat) Z8).Sent == (v14.getD ((0 + v1.toNat) + (IntKind.i64.wrap (v13 - 1)).toNat) Z8).Sent) && (((v14.getD ((0 + v1.toNat) + v13.toNat) Z8).Received == (v14.getD ((0 + v1.toNat) + (IntKind.i64.wrap (v13 - 1)).toNat) Z8).Received) && (((v14.getD ((0 + v1.toNat) + v13.toNat) Z8).Least == (v14.getD ((0 + v1.toNat) + (IntKind.i64.wrap (v13 - 1)).toNat) Z8).Least) && true)))))))))))) I eq25 I I I I) <| Z1v (by kernel_rfl) I <| Zg ?_
         refine AWp.join (V := Int × (List Zb)) (lp := fun v => F57_j35 K (F57_l15 K v1 a0 (F57_c18 K) k15) v13 v.1 v.2 = some r) (sh := fun v => ⟨[(0, (.vs 0)), (3, (.int .i64 v.1)), (4, (.vsub 0 (0 + v1.toNat) ((a0.length : Int).toNat - v1.toNat) false)), (5, (.int .i64 v13))], [(0, (.vec 10 (List.map Z6 v.2)))]⟩) ?_ ?_
         ·intro v h
          obtain ⟨v33, v34⟩ := v
          try dsimp only at h ⊢
          unfold F57_j35 at h
          refine At.end <| Zg <| Zc <| Z2 I (Zi (v := (.int .i64 v13)) I I) I <| Z2 I (Z1h (k := .i64) (a := v13) (b := 1) (c := (IntKind.i64.wrap (v13 + 1))) I I I I) I <| Z2 I (Zj (v := (.int .i64 (IntKind.i64.wrap (v13 + 1)))) I I) I <| Zf ?_
          exact Zw (st' := ⟨[(0, (.vs 0)), (3, (.int .i64 v33)), (4, (.vsub 0 (0 + v1.toNat) ((a0.length : Int).toNat - v1.toNat) false)), (5, (.int .i64 (IntKind.i64.wrap (v13 + 1))))], [(0, (.vec 10 (List.map Z6 v34)))]⟩) ⟨rfl, rfl, rfl, rfl, trivial⟩ ⟨rfl, trivial⟩ (IH15 _ (v33, (IntKind.i64.wrap (v13 + 1)), v34) (Nat.lt_succ_self _) h)
         ·intro J35
          have hif := Z1u h
          refine Z16 I (fun hc => ?_) (fun hc => ?_)
          ·have h := hif.1 hc
           refine Zh <| Zc <| Z2 I (Zi (v := (.vs 0)) I I) I <| Z2 I (Zi (v := (.int .i64 v12)) I I) I <| Z2 I (Zi (v := (.vsub 0 (0 + v1.toNat) ((a0.length : Int).toNat - v1.toNat) false)) I I) I <| Z2 I (Zi (v := (.int .i64 v13)) I I) I ?_
           have ⟨hg36, h⟩ := Z10 h
           have ⟨hg37, h⟩ := Z10 h
           refine Z2 I (st_indexV (k := .i64) (v := (.vsub 0 (0 + v1.toNat) ((a0.length : Int).toNat - v1.toNat) false)) (n := 0) (off := (0 + v1.toNat)) (len := ((a0.length : Int).toNat - v1.toNat)) (es := (List.map Z6 v14)) (j := v13) (m := ((0 + v1.toNat) + v13.toNat)) I s29 I I (vecR_sub hg36) I hg37 (I)) I ?_
           have ⟨hg38, h⟩ := Z10 h
           refine Z2 I (st_loadVA (l := v14) (enc := Z6) (z := Z8) (vs := (Z6 (v14.getD ((0 + v1.toNat) + v13.toNat) Z8)).cells) I a25 I I hg38 I I) I ?_
           have ⟨hg39, h⟩ := Z10 h
           refine Z2 I (st_indexV (k := .i64) (v := (.vs 0)) (n := 0) (off := 0) (len := v14.length) (es := (List.map Z6 v14)) (j := v12) (m := v12.toNat) I s29 I I (vecR_map _ _ _) I hg39 (Nat.zero_add _)) I ?_
           have ⟨hg40, h⟩ := Z10 h
           refine Z2 I (st_storeV (l := v14) (enc := Z6) (z := Z8) (a := (v14.getD ((0 + v1.toNat) + v13.toNat) Z8)) (v := (Z6 (v14.getD ((0 + v1.toNat) + v13.toNat) Z8))) sz25 I I hg40 I Z1n I I I I) I <| Zf <| Zg <| Zc <| Z2 I (Zi (v := (.int .i64 v12)) I I) I <| Z2 I (Z1h (k := .i64) (a := v12) (b := 1) (c := (IntKind.i64.wrap (v12 + 1))) I I I I) I <| Z2 I (Zj (v := (.int .i64 (IntKind.i64.wrap (v12 + 1)))) I I) I <| Zf ?_
           exact Zw (st' := ⟨[(0, (.vs 0)), (3, (.int .i64 (IntKind.i64.wrap (v12 + 1)))), (4, (.vsub 0 (0 + v1.toNat) ((a0.length : Int).toNat - v1.toNat) false)), (5, (.int .i64 v13))], [(0, (.vec 10 (List.map Z6 (v14.set v12.toNat (v14.getD ((0 + v1.toNat) + v13.toNat) Z8)))))]⟩) ⟨rfl, rfl, rfl, rfl, trivial⟩ ⟨rfl, trivial⟩ (J35 ((IntKind.i64.wrap (v12 + 1)), (v14.set v12.toNat (v14.getD ((0 + v1.toNat) + v13.toNat) Z8))) h)
          ·have h := hif.2 hc
           refine Z18 ?_
           exact Zw (st' := ⟨[(0, (.vs 0)), (3, (.int .i64 v12)), (4, (.vsub 0 (0 + v1.toNat) ((a0.length : Int).toNat - v1.toNat) false)), (5, (.int .i64 v13))], [(0, (.vec 10 (List.map Z6 v14)))]⟩) ⟨rfl, rfl, rfl, rfl, trivial⟩ ⟨rfl, trivial⟩ (J35 (v12, v14) h)
        ·have h := hif.2 hc
         refine AWp.exit <| At.thru ?_
         exact Zw (st' := ⟨[(0, (.vs 0)), (3, (.int .i64 v12))], [(0, (.vec 10 (List.map Z6 v14)))]⟩) ⟨rfl, rfl, trivial⟩ ⟨rfl, trivial⟩ (J15 (v12, v14) h)
     ·have h := hif.2 hc
      refine Z18 <| At.end <| Zg <| Zc <| Z2 I (Zi (v := (.int .i64 v1)) I I) I <| Z2 I (Z1h (k := .i64) (a := v1) (b := 1) (c := (IntKind.i64.wrap (v1 + 1))) I I I I) I <| Z2 I (Zj (v := (.int .i64 (IntKind.i64.wrap (v1 + 1)))) I I) I <| Zf ?_
      exact Zw (st' := ⟨[(0, (.vs 0)), (3, (.int .i64 (IntKind.i64.wrap (v1 + 1))))], [(0, (.vec 10 (List.map Z6 a0)))]⟩) ⟨rfl, rfl, trivial⟩ ⟨rfl, trivial⟩ (IH2 _ (IntKind.i64.wrap (v1 + 1)) (Nat.lt_succ_self _) h)
    ·have h := hif.2 hc
     refine AWp.exit <| At.thru ?_
     exact Zw (st' := ⟨[(0, (.vs 0))], [(0, (.vec 10 (List.map Z6 a0)))]⟩) ⟨rfl, trivial⟩ ⟨rfl, trivial⟩ (J2 () h)
def F19 (K : Nat) (a0 : (List Zb)) : Option ((List Zb)) :=
 (F55 K a0).bind fun v2 =>
  (sortF (fun a b => F15 K a b) v2).bind fun v4 =>
   (F57 K v4).bind fun v6 =>
    some v6
theorem F19_ok (K : Nat) (a0 : (List Zb)) (r : (List Zb)) (h : F19 K a0 = some r) : ACall P 19 ⟨[(.sl 10 (a0.map Z6) false)], [], (.sl 10 (r.map Z6) false), [], []⟩ := by
 refine Z1t Try.func19 Try.results19 rfl Try.ntmps19 rfl rfl rfl ?_
 intro E Q hP hN hro hret
 obtain ⟨P', nt', w0, F0, p0, S0, β0, ro0⟩ := E
 simp only at hP hN
 subst hP hN
 dsimp only [argT]
 unfold F19 at h
 refine Zh <| Zc <| Z2 I (Zj (v := (.sl 10 [] false)) I I) I <| Zf <| Zg <| Zh <| Zc <| Z2 I (Zi (v := (.sl 10 (a0.map Z6) false)) I I) I ?_
 have ⟨v2, hv2, h⟩ := Z19 h
 refine Z2 I (st_callO (sz := 10) (es := (List.map Z6 v2)) (ar := [(.sl 10 (a0.map Z6) false)]) (caps := []) Try.call55 ((F55_ok K a0 v2 hv2).sw 2 5) I I ⟨rfl, trivial⟩ I) I <| Z2 I (Zj (v := (.vs 5)) I I) I <| Zf <| Zg <| Zh <| Zc <| Z2 I (Zi (v := (.vs 5)) I I) I ?_
 have ⟨v4, hv4, h⟩ := Z19 h
 refine Z2 I (st_call (d := some 7) (c := ⟨[(.vs 5), (.clo 15 [])], [(5, (.vec 10 (List.map Z6 v2)))], .tup [], [(5, .vec 10 (List.map Z6 v4))], []⟩) (ar := [(.vs 5), (.clo 15 [])]) (caps := []) (news := []) (forg := []) Try.call56 (sort_ok (n := 5) (enc := Z6) (l := v2) (caps := []) (c := (fun a b => F15 K a b)) sortC56 Try.call15 Z1n (fun _ => I) (fun a b m hm => F15_ok K a b m hm) hv4) I I ⟨rfl, rfl, trivial⟩ I ⟨rfl, trivial⟩ I) I <| Zf <| Zg <| Zh <| Zc <| Z2 I (Zi (v := (.vs 5)) I I) I ?_
 have ⟨v6, hv6, h⟩ := Z19 h
 refine Z2 I (st_call (d := some 9) (c := ⟨[(.vs 5)] ++ [], [(5, (.vec 10 (List.map Z6 v4)))], .vs 5, [(5, .vec 10 (List.map Z6 v6))], [5]⟩) (ar := [(.vs 5)]) (caps := []) (news := []) (forg := [5]) Try.call57 ((F57_ok K v4 v6 hv6).sw 0 5) I I ⟨rfl, trivial⟩ I ⟨rfl, trivial⟩ I) I <| Z2 I (Zj (v := (.vs 5)) I I) I <| Zf <| Zg <| Z1e <| At.ghost (st' := ⟨[(2, (.sl 10 (v6.map Z6) false))], []⟩) (fun a w h => (Z1a ⟨[(2, (.sl 10 (v6.map Z6) false))], []⟩ (ghost_freeze (m := 5) (sz := 10) (es := (List.map Z6 v6)) a w (Z1a ⟨[(2, (.vs 5))], [(5, (.vec 10 (List.map Z6 v6)))]⟩ h ⟨rfl, trivial⟩ ⟨rfl, trivial⟩)) ⟨rfl, trivial⟩ trivial)) ?_
 have h := Option.some.inj h
 subst h
 refine (hret _ ?_).1
 exact ⟨[(.sl 10 (v6.map Z6) false)], ⟨rfl, trivial⟩, rfl, trivial⟩
end Go.AM.Msg
