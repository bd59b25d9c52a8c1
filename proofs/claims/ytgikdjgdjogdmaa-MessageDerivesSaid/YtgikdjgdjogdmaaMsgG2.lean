/- What these functions compute, each with its walk: F54, F17. -/
import Derived.Test.YtgikdjgdjogdmaaMsgT
import Derived.Test.YtgikdjgdjogdmaaMsgG0
namespace Go.AM.Msg
open Go Go.AM Go.Proofs
set_option maxRecDepth 100000
set_option maxHeartbeats 2000000
def F54 (K : Nat) (a0 : Int) (a1 : Int) : Option (Int) :=
 if (decide (a0 < a1)) = true then
  some (Int.negSucc 0)
 else
  if (decide (a0 > a1)) = true then
   some 1
  else
   some 0
theorem F54_ok (K : Nat) (a0 : Int) (a1 : Int) (r : Int) (h : F54 K a0 a1 = some r) : ACall P 54 ⟨[(.int .i64 a0), (.int .i64 a1)], [], (.int .i64 r), [], []⟩ := by
 refine Z1t Try.func54 Try.results54 rfl Try.ntmps54 rfl rfl rfl ?_
 intro E Q hP hN hro hret
 obtain ⟨P', nt', w0, F0, p0, S0, β0, ro0⟩ := E
 simp only at hP hN
 subst hP hN
 dsimp only [argT]
 unfold F54 at h
 refine Zh <| Zc <| Z2 I (Zj (v := (.int .i64 0)) I I) I <| Zf <| Zg <| Zh <| AWp.block <| Zh ?_
 refine Zc <| Z2 I (Zi (v := (.int .i64 a0)) I I) I <| Z2 I (Zi (v := (.int .i64 a1)) I I) I <| Z2 I (Z1o (k := .i64) (a := a0) (b := a1) (c := (decide (a0 < a1))) I I I I) I <| Z2 I (Zj (v := (.bool (decide (a0 < a1)))) I I) I <| Zf <| Zg ?_
 have hif := Z1u h
 refine Z16 I (fun hc => ?_) (fun hc => ?_)
 ·have h := hif.1 hc
  refine Zh <| Zc <| Z2 I (Zj (v := (.int .i64 (Int.negSucc 0))) I I) I <| Zf <| Zg <| Z1e <| At.overR <| Z1i ?_
  have h := Option.some.inj h
  subst h
  refine (hret _ ?_).1
  exact ⟨[(.int .i64 (Int.negSucc 0))], ⟨rfl, trivial⟩, rfl, trivial⟩
 ·have h := hif.2 hc
  refine Zh <| Zc <| Z2 I (Zi (v := (.int .i64 a0)) I I) I <| Z2 I (Zi (v := (.int .i64 a1)) I I) I <| Z2 I (Z1o (k := .i64) (a := a0) (b := a1) (c := (decide (a0 > a1))) I I I I) I <| Z2 I (Zj (v := (.bool (decide (a0 > a1)))) I I) I <| Zf <| Zg ?_
  have hif := Z1u h
  refine Z16 I (fun hc => ?_) (fun hc => ?_)
  ·have h := hif.1 hc
   refine Zh <| Zc <| Z2 I (Zj (v := (.int .i64 1)) I I) I <| Zf <| Zg <| Z1e <| At.overR <| Z1i ?_
   have h := Option.some.inj h
   subst h
   refine (hret _ ?_).1
   exact ⟨[(.int .i64 1)], ⟨rfl, trivial⟩, rfl, trivial⟩
  ·have h := hif.2 hc
   refine Z18 <| At.end <| Zg <| Zh <| Zc <| Z2 I (Zj (v := (.int .i64 0)) I I) I <| Zf <| Zg ?_
   refine Z1e ?_
   have h := Option.some.inj h
   subst h
   refine (hret _ ?_).1
   exact ⟨[(.int .i64 0)], ⟨rfl, trivial⟩, rfl, trivial⟩
def F17_c19 (K : Nat) : Option (Int) :=
 some 0
def F17_l18 (K : Nat) (v2 : Int) (v4 : Int) (v6 : Int) (v8 : Int) (v10 : Int) (v12 : Int) (v14 : Int) (v16 : Int) (c20 : Option (Int)) : Nat → Int → Option (Int)
 | 0, _ => none
 | k18 + 1, v17 =>
  if (decide (v17 < ([v2, v4, v6, v8, v10, v12, v14, v16].length : Int))) = true then
   if (0 : Int) ≤ v17 ∧ v17 < ([v2, v4, v6, v8, v10, v12, v14, v16].length : Nat) then
    if v17.toNat < [v2, v4, v6, v8, v10, v12, v14, v16].length then
     if (([v2, v4, v6, v8, v10, v12, v14, v16].getD v17.toNat 0) != 0) = true then
      if (0 : Int) ≤ v17 ∧ v17 < ([v2, v4, v6, v8, v10, v12, v14, v16].length : Nat) then
       if v17.toNat < [v2, v4, v6, v8, v10, v12, v14, v16].length then
        some ([v2, v4, v6, v8, v10, v12, v14, v16].getD v17.toNat 0)
       else none
      else none
     else
      (F17_l18 K v2 v4 v6 v8 v10 v12 v14 v16 c20 k18) (IntKind.i64.wrap (v17 + 1))
    else none
   else none
  else
   c20
def F17 (K : Nat) (a0 : Zb) (a1 : Zb) : Option (Int) :=
 (F54 K a0.Kind a1.Kind).bind fun v2 =>
  (F52 K a0.A a1.A).bind fun v4 =>
   (F52 K a0.B a1.B).bind fun v6 =>
    (F54 K a0.From a1.From).bind fun v8 =>
     (F54 K a0.To a1.To).bind fun v10 =>
      (F54 K a0.Sent a1.Sent).bind fun v12 =>
       (F54 K a0.Received a1.Received).bind fun v14 =>
        (F54 K a0.Least a1.Least).bind fun v16 =>
         F17_l18 K v2 v4 v6 v8 v10 v12 v14 v16 (F17_c19 K) K 0
theorem F17_ok (K : Nat) (a0 : Zb) (a1 : Zb) (r : Int) (h : F17 K a0 a1 = some r) : ACall P 17 ⟨[(Z6 a0), (Z6 a1)], [], (.int .i64 r), [], []⟩ := by
 refine Z1t Try.func17 Try.results17 rfl Try.ntmps17 rfl rfl rfl ?_
 intro E Q hP hN hro hret
 obtain ⟨P', nt', w0, F0, p0, S0, β0, ro0⟩ := E
 simp only at hP hN
 subst hP hN
 dsimp only [argT]
 unfold F17 at h
 refine Zh <| Zc <| Z2 I (st_box (v := (Z6 a0)) (cs := (Z6 a0).cells) I I I I I) I <| Z2 I (st_box (v := (Z6 a1)) (cs := (Z6 a1).cells) I I I I I) I <| Z2 I (Zj (v := (.int .i64 0)) I I) I <| Zf <| Zg <| Zh ?_
 refine Z1s mixed <| Z7 0 I (Zq (m := 2) (o := 0) I f25_0 I I) <| Z7 1 I (Z11 (cs := (Z6 a0).cells) (v := (.int .i64 a0.Kind)) I o3 I I I) <| Z7 2 I (Zq (m := 3) (o := 0) I f25_0 I I) <| Z7 3 I (Z11 (cs := (Z6 a1).cells) (v := (.int .i64 a1.Kind)) I o3 I I I) ?_
 have ⟨v2, hv2, h⟩ := Z19 h
 refine Z7 4 I (Z17 (ar := [(.int .i64 a0.Kind), (.int .i64 a1.Kind)]) (caps := []) Try.call54 (F54_ok K a0.Kind a1.Kind v2 hv2) I I ⟨rfl, rfl, trivial⟩ I) <| Z7 5 I (Zq (m := 2) (o := 0) I f25_1 I I) <| Z7 6 I (Z1b (cs := (Z6 a0).cells) (vs := (Zk a0.A).cells) I a23 I I I I) <| Z7 7 I (Zq (m := 3) (o := 0) I f25_1 I I) <| Z7 8 I (Z1b (cs := (Z6 a1).cells) (vs := (Zk a1.A).cells) I a23 I I I I) ?_
 have ⟨v4, hv4, h⟩ := Z19 h
 refine Z7 9 I (Z17 (ar := [(Zk a0.A), (Zk a1.A)]) (caps := []) Try.call52 (F52_ok K a0.A a1.A v4 hv4) I I ⟨rfl, rfl, trivial⟩ I) <| Z7 10 I (Zq (m := 2) (o := 0) I f25_2 I I) <| Z7 11 I (Z1b (cs := (Z6 a0).cells) (vs := (Zk a0.B).cells) I a23 I I I I) <| Z7 12 I (Zq (m := 3) (o := 0) I f25_2 I I) <| Z7 13 I (Z1b (cs := (Z6 a1).cells) (vs := (Zk a1.B).cells) I a23 I I I I) ?_
 have ⟨v6, hv6, h⟩ := Z19 h
 refine Z7 14 I (Z17 (ar := [(Zk a0.B), (Zk a1.B)]) (caps := []) Try.call52 (F52_ok K a0.B a1.B v6 hv6) I I ⟨rfl, rfl, trivial⟩ I) <| Z7 15 I (Zq (m := 2) (o := 0) I f25_3 I I) <| Z7 16 I (Z11 (cs := (Z6 a0).cells) (v := (.int .i64 a0.From)) I o3 I I I) <| Z7 17 I (Zq (m := 3) (o := 0) I f25_3 I I) <| Z7 18 I (Z11 (cs := (Z6 a1).cells) (v := (.int .i64 a1.From)) I o3 I I I) ?_
 have ⟨v8, hv8, h⟩ := Z19 h
 refine Z7 19 I (Z17 (ar := [(.int .i64 a0.From), (.int .i64 a1.From)]) (caps := []) Try.call54 (F54_ok K a0.From a1.From v8 hv8) I I ⟨rfl, rfl, trivial⟩ I) <| Z7 20 I (Zq (m := 2) (o := 0) I f25_4 I I) <| Z7 21 I (Z11 (cs := (Z6 a0).cells) (v := (.int .i64 a0.To)) I o3 I I I) <| Z7 22 I (Zq (m := 3) (o := 0) I f25_4 I I) <| Z7 23 I (Z11 (cs := (Z6 a1).cells) (v := (.int .i64 a1.To)) I o3 I I I) ?_
 have ⟨v10, hv10, h⟩ := Z19 h
 refine Z7 24 I (Z17 (ar := [(.int .i64 a0.To), (.int .i64 a1.To)]) (caps := []) Try.call54 (F54_ok K a0.To a1.To v10 hv10) I I ⟨rfl, rfl, trivial⟩ I) <| Z7 25 I (Zq (m := 2) (o := 0) I f25_5 I I) <| Z7 26 I (Z11 (cs := (Z6 a0).cells) (v := (.int .i64 a0.Sent)) I o3 I I I) <| Z7 27 I (Zq (m := 3) (o := 0) I f25_5 I I) <| Z7 28 I (Z11 (cs := (Z6 a1).cells) (v := (.int .i64 a1.Sent)) I o3 I I I) ?_
 have ⟨v12, hv12, h⟩ := Z19 h
 refine Z7 29 I (Z17 (ar := [(.int .i64 a0.Sent), (.int .i64 a1.Sent)]) (caps := []) Try.call54 (F54_ok K a0.Sent a1.Sent v12 hv12) I I ⟨rfl, rfl, trivial⟩ I) <| Z7 30 I (Zq (m := 2) (o := 0) I f25_6 I I) <| Z7 31 I (Z11 (cs := (Z6 a0).cells) (v := (.int .i64 a0.Received)) I o3 I I I) <| Z7 32 I (Zq (m := 3) (o := 0) I f25_6 I I) <| Z7 33 I (Z11 (cs := (Z6 a1).cells) (v := (.int .i64 a1.Received)) I o3 I I I) ?_
 have ⟨v14, hv14, h⟩ := Z19 h
 refine Z7 34 I (Z17 (ar := [(.int .i64 a0.Received), (.int .i64 a1.Received)]) (caps := []) Try.call54 (F54_ok K a0.Received a1.Received v14 hv14) I I ⟨rfl, rfl, trivial⟩ I) <| Z7 35 I (Zq (m := 2) (o := 0) I f25_7 I I) <| Z7 36 I (Z11 (cs := (Z6 a0).cells) (v := (.int .i64 a0.Least)) I o3 I I I) <| Z7 37 I (Zq (m := 3) (o := 0) I f25_7 I I) <| Z7 38 I (Z11 (cs := (Z6 a1).cells) (v := (.int .i64 a1.Least)) I o3 I I I) ?_
 have ⟨v16, hv16, h⟩ := Z19 h
 refine Z7 39 I (Z17 (ar := [(.int .i64 a0.Least), (.int .i64 a1.Least)]) (caps := []) Try.call54 (F54_ok K a0.Least a1.Least v16 hv16) I I ⟨rfl, rfl, trivial⟩ I) <| Z7 40 I (Z1f (vs := [(.int .i64 v2), (.int .i64 v4), (.int .i64 v6), (.int .i64 v8), (.int .i64 v10), (.int .i64 v12), (.int .i64 v14), (.int .i64 v16)]) (enc := Z1k) (l := [v2, v4, v6, v8, v10, v12, v14, v16]) I el87 I I ⟨rfl, rfl, rfl, rfl, rfl, rfl, rfl, rfl, trivial⟩ I els_i64 I I I I) <| Z7 41 I (Zj (v := (.vs 47)) I I) <| Z1v (by kernel_rfl) I <| Zg <| Zh <| Zh <| Zc ?_
 refine Z2 I (Zj (v := (.int .i64 0)) I I) I <| Zf <| Zg <| AWp.ghost (st' := ⟨[(5, (.vs 5)), (6, (.int .i64 0))], [(5, (.vec 1 (List.map Z1k [v2, v4, v6, v8, v10, v12, v14, v16])))]⟩) (fun a w h => (Z1a ⟨[(5, (.vs 5)), (6, (.int .i64 0))], [(5, (.vec 1 (List.map Z1k [v2, v4, v6, v8, v10, v12, v14, v16])))]⟩ (ghost_sw (a := 47) (b := 5) I I a w (Z1a ⟨[(5, (.vs 47)), (6, (.int .i64 0))], [(47, (.vec 1 (List.map Z1k [v2, v4, v6, v8, v10, v12, v14, v16])))]⟩ h ⟨rfl, rfl, trivial⟩ ⟨rfl, trivial⟩)) ⟨rfl, rfl, trivial⟩ ⟨rfl, trivial⟩)) <| Z1x (st' := ⟨[(5, (.vs 5)), (6, (.int .i64 0))], [(5, (.vec 1 (List.map Z1k [v2, v4, v6, v8, v10, v12, v14, v16])))]⟩) ⟨rfl, rfl, trivial⟩ ⟨rfl, trivial⟩ ?_
 refine Z1j (V := Int) (X := Unit) (lp := fun k v => F17_l18 K v2 v4 v6 v8 v10 v12 v14 v16 (F17_c19 K) k v = some r) (sh := fun v => ⟨[(5, (.vs 5)), (6, (.int .i64 v))], [(5, (.vec 1 (List.map Z1k [v2, v4, v6, v8, v10, v12, v14, v16])))]⟩) (x := fun v => F17_c19 K = some r) (shx := fun v => ⟨[], []⟩) (k := K) (v := 0) h ?_ ?_
 ·intro v h
  try dsimp only at h ⊢
  unfold F17_c19 at h
  refine Zg <| Zh <| Zc <| Z2 I (Zj (v := (.int .i64 0)) I I) I <| Zf <| Zg <| Z1e ?_
  have h := Option.some.inj h
  subst h
  refine (hret _ ?_).1
  exact ⟨[(.int .i64 0)], ⟨rfl, trivial⟩, rfl, trivial⟩
 ·intro N k18 v h IH18 J18
  revert h
  revert v
  intro v17 h
  try dsimp only at h IH18 J18 ⊢
  cases k18 with
  | zero => cases h
  | succ k18 =>
   rw [F17_l18] at h
   refine Zh <| Zh <| Zc <| Z2 I (Zi (v := (.int .i64 v17)) I I) I <| Z2 I (Zi (v := (.vs 5)) I I) I <| Z2 I (stx_lenV (l := [v2, v4, v6, v8, v10, v12, v14, v16]) (enc := Z1k) I u87 I I) I <| Z2 I (Z1o (k := .i64) (a := v17) (b := ([v2, v4, v6, v8, v10, v12, v14, v16].length : Int)) (c := (decide (v17 < ([v2, v4, v6, v8, v10, v12, v14, v16].length : Int)))) I I I I) I <| Zf ?_
   refine Zg ?_
   have hif := Z1u h
   refine Z16 I (fun hc => ?_) (fun hc => ?_)
   ·have h := hif.1 hc
    refine Z18 <| Zg <| Zh <| AWp.block <| Zh <| Zc <| Z2 I (Zi (v := (.vs 5)) I I) I <| Z2 I (Zi (v := (.int .i64 v17)) I I) I ?_
    have ⟨hg22, h⟩ := Z10 h
    refine Z2 I (st_indexV (k := .i64) (v := (.vs 5)) (n := 5) (off := 0) (len := ([v2, v4, v6, v8, v10, v12, v14, v16].length)) (es := (List.map Z1k [v2, v4, v6, v8, v10, v12, v14, v16])) (j := v17) (m := v17.toNat) I s87 I I (vecR_map _ _ _) I hg22 (Nat.zero_add _)) I ?_
    have ⟨hg23, h⟩ := Z10 h
    refine Z2 I (st_loadV (l := [v2, v4, v6, v8, v10, v12, v14, v16]) (enc := Z1k) (z := 0) (v := (.int .i64 ([v2, v4, v6, v8, v10, v12, v14, v16].getD v17.toNat 0))) I o3 I I hg23 I) I <| Z2 I (Z1o (k := .i64) (a := ([v2, v4, v6, v8, v10, v12, v14, v16].getD v17.toNat 0)) (b := 0) (c := (([v2, v4, v6, v8, v10, v12, v14, v16].getD v17.toNat 0) != 0)) I I I I) I <| Zf <| Zg ?_
    have hif := Z1u h
    refine Z16 I (fun hc => ?_) (fun hc => ?_)
    ·have h := hif.1 hc
     refine Zh <| Zc <| Z2 I (Zi (v := (.vs 5)) I I) I <| Z2 I (Zi (v := (.int .i64 v17)) I I) I ?_
     have ⟨hg24, h⟩ := Z10 h
     refine Z2 I (st_indexV (k := .i64) (v := (.vs 5)) (n := 5) (off := 0) (len := ([v2, v4, v6, v8, v10, v12, v14, v16].length)) (es := (List.map Z1k [v2, v4, v6, v8, v10, v12, v14, v16])) (j := v17) (m := v17.toNat) I s87 I I (vecR_map _ _ _) I hg24 (Nat.zero_add _)) I ?_
     have ⟨hg25, h⟩ := Z10 h
     refine Z2 I (st_loadV (l := [v2, v4, v6, v8, v10, v12, v14, v16]) (enc := Z1k) (z := 0) (v := (.int .i64 ([v2, v4, v6, v8, v10, v12, v14, v16].getD v17.toNat 0))) I o3 I I hg25 I) I <| Z2 I (Zj (v := (.int .i64 ([v2, v4, v6, v8, v10, v12, v14, v16].getD v17.toNat 0))) I I) I <| Zf <| Zg <| Z1e <| At.overR <| Z1i ?_
     refine Z1i (At.overR ?_)
     refine Z1i ?_
     have h := Option.some.inj h
     subst h
     refine (hret _ ?_).1
     exact ⟨[(.int .i64 ([v2, v4, v6, v8, v10, v12, v14, v16].getD v17.toNat 0))], ⟨rfl, trivial⟩, rfl, trivial⟩
    ·have h := hif.2 hc
     refine Z18 <| At.end <| Zg <| Zc <| Z2 I (Zi (v := (.int .i64 v17)) I I) I <| Z2 I (Z1h (k := .i64) (a := v17) (b := 1) (c := (IntKind.i64.wrap (v17 + 1))) I I I I) I <| Z2 I (Zj (v := (.int .i64 (IntKind.i64.wrap (v17 + 1)))) I I) I <| Zf ?_
     exact Zw (st' := ⟨[(5, (.vs 5)), (6, (.int .i64 (IntKind.i64.wrap (v17 + 1))))], [(5, (.vec 1 (List.map Z1k [v2, v4, v6, v8, v10, v12, v14, v16])))]⟩) ⟨rfl, rfl, trivial⟩ ⟨rfl, trivial⟩ (IH18 _ (IntKind.i64.wrap (v17 + 1)) (Nat.lt_succ_self _) h)
   ·have h := hif.2 hc
    refine AWp.exit <| At.thru ?_
    exact Zw (st' := ⟨[], []⟩) trivial trivial (J18 () h)
end Go.AM.Msg
