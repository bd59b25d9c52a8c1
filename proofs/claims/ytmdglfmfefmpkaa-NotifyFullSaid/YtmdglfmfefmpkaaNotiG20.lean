/- What these functions compute, each with its walk: F8. -/
import Derived.Test.YtmdglfmfefmpkaaNotiT
import Derived.Test.YtmdglfmfefmpkaaNotiG2
import Derived.Test.YtmdglfmfefmpkaaNotiG4
import Derived.Test.YtmdglfmfefmpkaaNotiG8
namespace Go.AM.Noti
open Go Go.AM Go.Proofs
set_option maxRecDepth 100000
set_option maxHeartbeats 2000000
def F8_j22 (_K : Nat) (v21 : Bool) : Option (Bool) :=
 some v21
noncomputable def F8_c15 (K : Nat) (v4 : Ze) (v8 : (List Zo)) (v14 : (List Z13)) : Option (Bool) :=
 (F27 K v4 255).bind fun v18 =>
 (F27 K (⟨v4.Policy, v8, v4.Silences, v14⟩ : Ze) 255).bind fun v20 =>
 (F29 K v18.1 v20.1).bind fun v24 =>
 if v24 = true then
 if (v18.2 == 0) = true then
 F8_j22 K (v20.2 == 0)
 else
 F8_j22 K false
 else
 F8_j22 K false
def F8_l13 (K : Nat) (v4 : Ze) (c16 : (List Z13) → Option (Bool)) : Nat → Int → (List Z13) → Option (Bool)
 | 0, _, _ => none
 | k13 + 1, v11, v12 =>
 if (decide (v11 ≥ 0)) = true then
 if (0 : Int) ≤ v11 ∧ v11 < v4.Acks.length then
 if (0 : Int) ≤ v11 ∧ v11 < v4.Acks.length then
 if v12.length + [(v4.Acks.getD v11.toNat Z1q), (v4.Acks.getD v11.toNat Z1q)].length ≤ 1073741824 then
 (F8_l13 K v4 c16 k13) (IntKind.i64.wrap (v11 - 1)) (v12 ++ [(v4.Acks.getD v11.toNat Z1q), (v4.Acks.getD v11.toNat Z1q)])
 else none
 else none
 else none
 else
 c16 v12
noncomputable def F8_c9 (K : Nat) (v4 : Ze) (v8 : (List Zo)) : Option (Bool) :=
 F8_l13 K v4 (F8_c15 K v4 v8) K (IntKind.i64.wrap ((v4.Acks.length : Int) - 1)) []
def F8_l7 (K : Nat) (v4 : Ze) (c10 : (List Zo) → Option (Bool)) : Nat → Int → (List Zo) → Option (Bool)
 | 0, _, _ => none
 | k7 + 1, v5, v6 =>
 if (decide (v5 ≥ 0)) = true then
 if (0 : Int) ≤ v5 ∧ v5 < v4.Firings.length then
 if (0 : Int) ≤ v5 ∧ v5 < v4.Firings.length then
 if v6.length + [(v4.Firings.getD v5.toNat Z12), (v4.Firings.getD v5.toNat Z12)].length ≤ 1073741824 then
 (F8_l7 K v4 c10 k7) (IntKind.i64.wrap (v5 - 1)) (v6 ++ [(v4.Firings.getD v5.toNat Z12), (v4.Firings.getD v5.toNat Z12)])
 else none
 else none
 else none
 else
 c10 v6
noncomputable def F8 (K : Nat) (a0 : Z15) : Option (Bool) :=
 (F13 K).bind fun v2 =>
 if (!v2) = true then
 some false
 else
 (F14 K a0).bind fun v4 =>
 F8_l7 K v4 (F8_c9 K v4) K (IntKind.i64.wrap ((v4.Firings.length : Int) - 1)) []
theorem F8_ok (K : Nat) (a0 : Z15) (r : Bool) (h : F8 K a0 = some r) : ACall P 8 ⟨[(Zv a0)], [], (.bool r), [], []⟩ := by
 refine Z1v Try.func8 Try.results8 rfl Try.ntmps8 rfl rfl rfl ?_
 intro E Q hP hN hro hret
 obtain ⟨P', nt', w0, F0, p0, S0, β0, ro0⟩ := E
 simp only at hP hN
 subst hP hN
 dsimp only [argT]
 unfold F8 at h
 refine Zb <| Z5 <| Z1 I (Z2r I I I I I) I <| Z1 I (Zd (v := (.bool false)) I I) I <| Z7 <| Z8 <| Zb <| Zb <| Z5 ?_
 have ⟨v2, hv2, h⟩ := Z1a h
 refine Z1 I (Z1d (ar := []) Try.call13 (F13_ok K v2 hv2) I I J0 I) I <| Z1 I (Z2c I I) I <| Z7 <| Z8 ?_
 have hif := Z1h h
 refine Zq I (fun hc => ?_) (fun hc => ?_)
 ·have h := hif.1 hc
  refine Zb <| Z5 <| Z1 I (Zd (v := (.bool false)) I I) I <| Z7 <| Z8 <| Z1e <| Zx ?_
  have h := Option.some.inj h
  subst h
  refine (hret _ ?_).1
  exact ⟨[(.bool false)], ⟨I, J0⟩, I, J0⟩
 have h := hif.2 hc
 refine Z14 <| Z8 <| Zb <| Z5 <| Z1 I (Z1n I a25 I I I I) I ?_
 have ⟨v4, hv4, h⟩ := Z1a h
 refine Z1 I (Z1d (ar := [(Zv a0)]) Try.call14 (F14_ok K a0 v4 hv4) I I ⟨I, J0⟩ I) I <| Z1 I (Z1x I z34f I I I) I <| Z1 I (Z1f sz34 I I I I I I I I) I <| Z7 <| Z8 <| Zb <| Z5 <| Z1 I (Z1n I a34 I I I I) I <| Z1 I (Z1x I z34f I I I) I <| Z1 I (Z1f sz34 I I I I I I I I) I <| Z7 <| Z8 <| Zb <| Z5 <| Z1 I (Zm I f34_1 I I) I <| Z1 I (Z1f (cs := (Zf v4).cells) (vs := [(.sl 4 [] true)]) (ds := [(.int .i64 v4.Policy.By), (.int .i64 v4.Policy.Repeat), (.sl 2 (v4.Policy.Steps.map Zj) false), (.sl 4 [] true), (.sl 5 (v4.Silences.map Zk) false), (.sl 3 (v4.Acks.map Zp) false)]) (v := (.sl 4 [] true)) sz30 I I I I I I I I) I <| Z1 I (Zm I f34_3 I I) I <| Z1 I (Z1f (cs := [(.int .i64 v4.Policy.By), (.int .i64 v4.Policy.Repeat), (.sl 2 (v4.Policy.Steps.map Zj) false), (.sl 4 [] true), (.sl 5 (v4.Silences.map Zk) false), (.sl 3 (v4.Acks.map Zp) false)]) (vs := [(.sl 3 [] true)]) (ds := [(.int .i64 v4.Policy.By), (.int .i64 v4.Policy.Repeat), (.sl 2 (v4.Policy.Steps.map Zj) false), (.sl 4 [] true), (.sl 5 (v4.Silences.map Zk) false), (.sl 3 [] true)]) (v := (.sl 3 [] true)) sz32 I I I I I I I I) I <| Z7 <| Z8 <| Zb <| Zb <| Z5 <| Z1 I (Zm I f34_1 I I) I ?_
 refine Z1 I (Zs I o30 I I I) I <| Z1 I (Z24 (l := v4.Firings) (enc := Zh) I s30 I) I <| Z1 I (Z1p (k := .i64) (b := 1) (c := (IntKind.i64.wrap ((v4.Firings.length : Int) - 1))) I I I I) I <| Z1 I (Zd I I) I <| Z7 <| Z8 <| Z2p (st' := ⟨[(3, (.ptr 3 0)), (4, (.ptr 4 0)), (5, (.int .i64 (IntKind.i64.wrap ((v4.Firings.length : Int) - 1))))], [(3, (.box (Zf v4).cells)), (4, (.box [(.int .i64 v4.Policy.By), (.int .i64 v4.Policy.Repeat), (.sl 2 (v4.Policy.Steps.map Zj) false), (.vs 84), (.sl 5 (v4.Silences.map Zk) false), (.sl 3 [] true)])), (84, (.vec 4 (List.map Zh ([] : List Zo))))]⟩) (fun a w h => (Z1k _ (Z3l (n := 4) (m := 84) (sz := 4) (j := 3) I I I a w (Z1k ⟨[(3, (.ptr 3 0)), (4, (.ptr 4 0)), (5, (.int .i64 (IntKind.i64.wrap ((v4.Firings.length : Int) - 1))))], [(4, (.box [(.int .i64 v4.Policy.By), (.int .i64 v4.Policy.Repeat), (.sl 2 (v4.Policy.Steps.map Zj) false), (.sl 4 [] true), (.sl 5 (v4.Silences.map Zk) false), (.sl 3 [] true)])), (3, (.box (Zf v4).cells))]⟩ h ⟨I, I, I, J0⟩ ⟨I, I, J0⟩)) ⟨I, I, I, J0⟩ ⟨I, I, I, J0⟩)) <| Z1r (st' := ⟨[(3, (.ptr 3 0)), (4, (.ptr 4 0)), (5, (.int .i64 (IntKind.i64.wrap ((v4.Firings.length : Int) - 1))))], [(3, (.box (Zf v4).cells)), (4, (.box [(.int .i64 v4.Policy.By), (.int .i64 v4.Policy.Repeat), (.sl 2 (v4.Policy.Steps.map Zj) false), (.vs 84), (.sl 5 (v4.Silences.map Zk) false), (.sl 3 [] true)])), (84, (.vec 4 (List.map Zh [])))]⟩) ⟨I, I, I, J0⟩ ⟨I, I, I, J0⟩ ?_
 refine Z1o (V := Int × (List Zo)) (X := (List Zo)) (lp := fun k v => F8_l7 K v4 (F8_c9 K v4) k v.1 v.2 = some r) (sh := fun v => ⟨[(3, (.ptr 3 0)), (4, (.ptr 4 0)), (5, (.int .i64 v.1))], [(3, (.box (Zf v4).cells)), (4, (.box [(.int .i64 v4.Policy.By), (.int .i64 v4.Policy.Repeat), (.sl 2 (v4.Policy.Steps.map Zj) false), (.vs 84), (.sl 5 (v4.Silences.map Zk) false), (.sl 3 [] true)])), (84, (.vec 4 (List.map Zh v.2)))]⟩) (x := fun v => F8_c9 K v4 v = some r) (shx := fun v => ⟨[(3, (.ptr 3 0)), (4, (.ptr 4 0))], [(3, (.box (Zf v4).cells)), (4, (.box [(.int .i64 v4.Policy.By), (.int .i64 v4.Policy.Repeat), (.sl 2 (v4.Policy.Steps.map Zj) false), (.vs 84), (.sl 5 (v4.Silences.map Zk) false), (.sl 3 [] true)])), (84, (.vec 4 (List.map Zh v)))]⟩) (k := K) (v := ((IntKind.i64.wrap ((v4.Firings.length : Int) - 1)), [])) h ?_ ?_
 ·intro v h
  revert h
  revert v
  intro v8 h
  try dsimp only at h ⊢
  unfold F8_c9 at h
  refine Z8 <| Zb <| Zb <| Z5 <| Z1 I (Zm I f34_3 I I) I <| Z1 I (Zs I o32 I I I) I <| Z1 I (Z24 (l := v4.Acks) (enc := Zp) I s32 I) I <| Z1 I (Z1p (k := .i64) (b := 1) (c := (IntKind.i64.wrap ((v4.Acks.length : Int) - 1))) I I I I) I <| Z1 I (Zd I I) I <| Z7 <| Z8 <| Z2p (st' := ⟨[(3, (.ptr 3 0)), (4, (.ptr 4 0)), (6, (.int .i64 (IntKind.i64.wrap ((v4.Acks.length : Int) - 1))))], [(3, (.box (Zf v4).cells)), (4, (.box [(.int .i64 v4.Policy.By), (.int .i64 v4.Policy.Repeat), (.sl 2 (v4.Policy.Steps.map Zj) false), (.vs 84), (.sl 5 (v4.Silences.map Zk) false), (.vs 83)])), (83, (.vec 3 (List.map Zp ([] : List Z13)))), (84, (.vec 4 (List.map Zh v8)))]⟩) (fun a w h => (Z1k _ (Z3l (n := 4) (m := 83) (sz := 3) (j := 5) I I I a w (Z1k ⟨[(3, (.ptr 3 0)), (4, (.ptr 4 0)), (6, (.int .i64 (IntKind.i64.wrap ((v4.Acks.length : Int) - 1))))], [(4, (.box [(.int .i64 v4.Policy.By), (.int .i64 v4.Policy.Repeat), (.sl 2 (v4.Policy.Steps.map Zj) false), (.vs 84), (.sl 5 (v4.Silences.map Zk) false), (.sl 3 [] true)])), (3, (.box (Zf v4).cells)), (84, (.vec 4 (List.map Zh v8)))]⟩ h ⟨I, I, I, J0⟩ ⟨I, I, I, J0⟩)) ⟨I, I, I, J0⟩ ⟨I, I, I, I, J0⟩)) <| Z1r (st' := ⟨[(3, (.ptr 3 0)), (4, (.ptr 4 0)), (6, (.int .i64 (IntKind.i64.wrap ((v4.Acks.length : Int) - 1))))], [(3, (.box (Zf v4).cells)), (4, (.box [(.int .i64 v4.Policy.By), (.int .i64 v4.Policy.Repeat), (.sl 2 (v4.Policy.Steps.map Zj) false), (.vs 84), (.sl 5 (v4.Silences.map Zk) false), (.vs 83)])), (83, (.vec 3 (List.map Zp []))), (84, (.vec 4 (List.map Zh v8)))]⟩) ⟨I, I, I, J0⟩ ⟨I, I, I, I, J0⟩ ?_
  refine Z1o (V := Int × (List Z13)) (X := (List Z13)) (lp := fun k v => F8_l13 K v4 (F8_c15 K v4 v8) k v.1 v.2 = some r) (sh := fun v => ⟨[(3, (.ptr 3 0)), (4, (.ptr 4 0)), (6, (.int .i64 v.1))], [(3, (.box (Zf v4).cells)), (4, (.box [(.int .i64 v4.Policy.By), (.int .i64 v4.Policy.Repeat), (.sl 2 (v4.Policy.Steps.map Zj) false), (.vs 84), (.sl 5 (v4.Silences.map Zk) false), (.vs 83)])), (83, (.vec 3 (List.map Zp v.2))), (84, (.vec 4 (List.map Zh v8)))]⟩) (x := fun v => F8_c15 K v4 v8 v = some r) (shx := fun v => ⟨[(3, (.ptr 3 0)), (4, (.ptr 4 0))], [(3, (.box (Zf v4).cells)), (4, (.box [(.int .i64 v4.Policy.By), (.int .i64 v4.Policy.Repeat), (.sl 2 (v4.Policy.Steps.map Zj) false), (.vs 84), (.sl 5 (v4.Silences.map Zk) false), (.vs 83)])), (83, (.vec 3 (List.map Zp v))), (84, (.vec 4 (List.map Zh v8)))]⟩) (k := K) (v := ((IntKind.i64.wrap ((v4.Acks.length : Int) - 1)), [])) h ?_ ?_
  ·intro v h
   revert h
   revert v
   intro v14 h
   try dsimp only at h ⊢
   unfold F8_c15 at h
   refine Z8 <| Zb <| Z5 <| Z1 I (Z1n I a34 I I I I) I ?_
   have ⟨v18, hv18, h⟩ := Z1a h
   refine Z1 I (Z1d (ar := [(Zf v4), (.int .i64 255)]) Try.call27 (F27_ok K v4 255 v18 hv18) I I ⟨I, I, J0⟩ I) I <| Z1 I (Z9 I I) I <| Z1 I (Z20 I I I) I <| Z1 I (Z20 I I I) I <| Z1 I (Zd I I) I <| Z1 I (Zd I I) I <| Z7 <| Z8 <| Zb <| Z5 <| Z1 I (Z1n I a34 I I I I) I <| Z3b (st' := ⟨[(7, (.sl 5 (v18.1.map Z3) false)), (8, (.int .i64 v18.2)), (70, (.ag [(.int .i64 v4.Policy.By), (.int .i64 v4.Policy.Repeat), (.sl 2 (v4.Policy.Steps.map Zj) false), (.sl 4 (v8.map Zh) false), (.sl 5 (v4.Silences.map Zk) false), (.vs 83)]))], [(83, (.vec 3 (List.map Zp v14)))]⟩) (fun a w h => (Z1k _ (Z22 (m := 84) (sz := 4) (es := (List.map Zh v8)) a w (Z1k ⟨[(7, (.sl 5 (v18.1.map Z3) false)), (8, (.int .i64 v18.2)), (70, (.ag [(.int .i64 v4.Policy.By), (.int .i64 v4.Policy.Repeat), (.sl 2 (v4.Policy.Steps.map Zj) false), (.vs 84), (.sl 5 (v4.Silences.map Zk) false), (.vs 83)]))], [(84, (.vec 4 (List.map Zh v8))), (83, (.vec 3 (List.map Zp v14)))]⟩ h ⟨I, I, I, J0⟩ ⟨I, I, J0⟩)) ⟨I, I, I, J0⟩ ⟨I, J0⟩)) <| Z3b (st' := ⟨[(7, (.sl 5 (v18.1.map Z3) false)), (8, (.int .i64 v18.2)), (70, (.ag [(.int .i64 v4.Policy.By), (.int .i64 v4.Policy.Repeat), (.sl 2 (v4.Policy.Steps.map Zj) false), (.sl 4 (v8.map Zh) false), (.sl 5 (v4.Silences.map Zk) false), (.sl 3 (v14.map Zp) false)]))], []⟩) (fun a w h => (Z1k _ (Z22 (m := 83) (sz := 3) (es := (List.map Zp v14)) a w (Z1k ⟨[(7, (.sl 5 (v18.1.map Z3) false)), (8, (.int .i64 v18.2)), (70, (.ag [(.int .i64 v4.Policy.By), (.int .i64 v4.Policy.Repeat), (.sl 2 (v4.Policy.Steps.map Zj) false), (.sl 4 (v8.map Zh) false), (.sl 5 (v4.Silences.map Zk) false), (.vs 83)]))], [(83, (.vec 3 (List.map Zp v14)))]⟩ h ⟨I, I, I, J0⟩ ⟨I, J0⟩)) ⟨I, I, I, J0⟩ J0)) ?_
   have ⟨v20, hv20, h⟩ := Z1a h
   refine Z1 I (Z1d (ar := [(.ag [(.int .i64 v4.Policy.By), (.int .i64 v4.Policy.Repeat), (.sl 2 (v4.Policy.Steps.map Zj) false), (.sl 4 (v8.map Zh) false), (.sl 5 (v4.Silences.map Zk) false), (.sl 3 (v14.map Zp) false)]), (.int .i64 255)]) Try.call27 (F27_ok K (⟨v4.Policy, v8, v4.Silences, v14⟩ : Ze) 255 v20 hv20) I I ⟨I, I, J0⟩ I) I <| Z1 I (Z9 I I) I <| Z1 I (Z20 I I I) I <| Z1 I (Z20 I I I) I <| Z1 I (Zd I I) I <| Z1 I (Zd I I) I <| Z7 <| Z8 <| Zb ?_
   refine Z21 (V := Bool) (lp := fun v => F8_j22 K v = some r) (sh := fun v => ⟨[(2, (.bool v))], []⟩) ?_ ?_
   ·intro v h
    revert h
    revert v
    intro v21 h
    try dsimp only at h ⊢
    unfold F8_j22 at h
    refine Z8 <| Z1e ?_
    have h := Option.some.inj h
    subst h
    refine (hret _ ?_).1
    exact ⟨[(.bool v21)], ⟨I, J0⟩, I, J0⟩
   intro J22
   refine Z5 <| Z1 I (Z9 I I) I <| Z1 I (Z9 I I) I ?_
   have ⟨v24, hv24, h⟩ := Z1a h
   refine Z1 I (Z1d (ar := [(.sl 5 (v18.1.map Z3) false), (.sl 5 (v20.1.map Z3) false)]) Try.call29 (F29_ok K v18.1 v20.1 v24 hv24) I I ⟨I, I, J0⟩ I) I <| Z1 I (Z9 I I) I ?_
   have hif := Z1h h
   refine Z16 (fun hc => ?_) (fun hc => ?_)
   ·have h := hif.1 hc
    refine Zc I I I I (Z9 I I) I <| Zc I I I I (Z1c (b := 0) (c := (v18.2 == 0)) I I I I) I <| Z1 I (Z19 I I I) I <| Z1 I (Z9 I I) I ?_
    have hif := Z1h h
    refine Z16 (fun hc => ?_) (fun hc => ?_)
    ·have h := hif.1 hc
     refine Zc I I I I (Z9 I I) I <| Zc I I I I (Z1c (b := 0) (c := (v20.2 == 0)) I I I I) I <| Z1 I (Z19 I I I) I <| Z1 I (Zd I I) I <| Z7 ?_
     exact Zz (J22 (v20.2 == 0) h) ⟨I, J0⟩ trivial
    have h := hif.2 hc
    refine Zg I I I I I I I <| Zg I I I I I I I <| Z1 I (Zy (v := (.bool false)) I I I) I <| Z1 I (Zd (v := (.bool false)) I I) I <| Z7 ?_
    exact Zz (J22 false h) ⟨I, J0⟩ trivial
   have h := hif.2 hc
   refine Zg I I I I I I I <| Zg I I I I I I I <| Z1 I (Zy (v := (.bool false)) I I I) I <| Z1 I (Z9 (v := (.bool false)) I I) I <| Zg I I I I I I I <| Zg I I I I I I I <| Z1 I (Zy (v := (.bool false)) I I I) I <| Z1 I (Zd (v := (.bool false)) I I) I <| Z7 ?_
   exact Zz (J22 false h) ⟨I, J0⟩ trivial
  intro N k13 v h IH13 J13
  obtain ⟨v11, v12⟩ := v
  try dsimp only at h IH13 J13 ⊢
  cases k13 with
  | zero => cases h
  | succ k13 =>
   rw [F8_l13] at h
   refine Zb <| Zb <| Z5 <| Z1 I (Z9 I I) I <| Z1 I (Z1c (b := 0) (c := (decide (v11 ≥ 0))) I I I I) I <| Z7 <| Z8 ?_
   have hif := Z1h h
   refine Zq I (fun hc => ?_) (fun hc => ?_)
   ·have h := hif.1 hc
    refine Z14 <| Z8 <| Zb <| Z1t <| Z1y mixed <| Za 0 I (Zm I f34_3 I I) <| Za 1 I (st_loadPC (cs := [(.int .i64 v4.Policy.By), (.int .i64 v4.Policy.Repeat), (.sl 2 (v4.Policy.Steps.map Zj) false), (.vs 84), (.sl 5 (v4.Silences.map Zk) false), (.vs 83)]) (v := (.vs 83)) I o32 I I I) <| Za 2 I (Zm I f34_3 I I) <| Za 3 I (Zs I o32 I I I) <| Za 4 I (Z9 I I) ?_
    have ⟨hg26, h⟩ := Zw h
    refine Za 5 I (Z1s (k := .i64) (l := v4.Acks) (enc := Zp) (z := Z1q) (n := v11) (full := false) I s32 I I hg26 I) <| Za 6 I (Z28 I a63 I I I) <| Za 7 I (Zm I f34_3 I I) <| Za 8 I (Zs I o32 I I I) <| Za 9 I (Z9 I I) ?_
    have ⟨hg27, h⟩ := Zw h
    refine Za 10 I (Z1s (k := .i64) (l := v4.Acks) (enc := Zp) (z := Z1q) (n := v11) (full := false) I s32 I I hg27 I) <| Za 11 I (Z28 I a63 I I I) <| Za 12 I (Z1m (vs := [(Zp (v4.Acks.getD v11.toNat Z1q)), (Zp (v4.Acks.getD v11.toNat Z1q))]) (enc := Zp) (l := [(v4.Acks.getD v11.toNat Z1q), (v4.Acks.getD v11.toNat Z1q)]) I el32 I I ⟨I, I, J0⟩ I Z2l I I I I) ?_
    have ⟨hg28, h⟩ := Zw h
    refine Za 13 I (Z2d (m := 83) (enc := Zp) (l := v12) (l' := [(v4.Acks.getD v11.toNat Z1q), (v4.Acks.getD v11.toNat Z1q)]) (src := (.vs 61)) (rd := [(61, (.vec 3 (List.map Zp [(v4.Acks.getD v11.toNat Z1q), (v4.Acks.getD v11.toNat Z1q)])))]) I I el32 I u32 I I I I (oneRead I) Z2l hg28) <| Za 14 I (Zm I f34_3 I I) <| Za 15 I (Z1f sz32 I I I I I I I I) <| Z1z (by kernel_rfl) I <| Z27 <| Z8 <| Z5 <| Z1 I (Z9 I I) I <| Z1 I (Z1p (k := .i64) (b := 1) (c := (IntKind.i64.wrap (v11 - 1))) I I I I) I <| Z1 I (Zd I I) I <| Z7 ?_
    exact Zz (IH13 _ ((IntKind.i64.wrap (v11 - 1)), (v12 ++ [(v4.Acks.getD v11.toNat Z1q), (v4.Acks.getD v11.toNat Z1q)])) (Nat.lt_succ_self _) h) ⟨I, I, I, J0⟩ ⟨I, I, I, I, J0⟩
   have h := hif.2 hc
   refine Z1u <| Z26 ?_
   exact Zz (J13 v12 h) ⟨I, I, J0⟩ ⟨I, I, I, I, J0⟩
 intro N k7 v h IH7 J7
 obtain ⟨v5, v6⟩ := v
 try dsimp only at h IH7 J7 ⊢
 cases k7 with
 | zero => cases h
 | succ k7 =>
  rw [F8_l7] at h
  refine Zb <| Zb <| Z5 <| Z1 I (Z9 I I) I <| Z1 I (Z1c (b := 0) (c := (decide (v5 ≥ 0))) I I I I) I <| Z7 <| Z8 ?_
  have hif := Z1h h
  refine Zq I (fun hc => ?_) (fun hc => ?_)
  ·have h := hif.1 hc
   refine Z14 <| Z8 <| Zb <| Z1t <| Z1y mixed <| Za 0 I (Zm I f34_1 I I) <| Za 1 I (st_loadPC (cs := [(.int .i64 v4.Policy.By), (.int .i64 v4.Policy.Repeat), (.sl 2 (v4.Policy.Steps.map Zj) false), (.vs 84), (.sl 5 (v4.Silences.map Zk) false), (.sl 3 [] true)]) (v := (.vs 84)) I o30 I I I) <| Za 2 I (Zm I f34_1 I I) <| Za 3 I (Zs I o30 I I I) <| Za 4 I (Z9 I I) ?_
   have ⟨hg30, h⟩ := Zw h
   refine Za 5 I (Z1s (k := .i64) (l := v4.Firings) (enc := Zh) (z := Z12) (n := v5) (full := false) I s30 I I hg30 I) <| Za 6 I (Z28 I a42 I I I) <| Za 7 I (Zm I f34_1 I I) <| Za 8 I (Zs I o30 I I I) <| Za 9 I (Z9 I I) ?_
   have ⟨hg31, h⟩ := Zw h
   refine Za 10 I (Z1s (k := .i64) (l := v4.Firings) (enc := Zh) (z := Z12) (n := v5) (full := false) I s30 I I hg31 I) <| Za 11 I (Z28 I a42 I I I) <| Za 12 I (Z1m (vs := [(Zh (v4.Firings.getD v5.toNat Z12)), (Zh (v4.Firings.getD v5.toNat Z12))]) (enc := Zh) (l := [(v4.Firings.getD v5.toNat Z12), (v4.Firings.getD v5.toNat Z12)]) I el30 I I ⟨I, I, J0⟩ I Z2o I I I I) ?_
   have ⟨hg32, h⟩ := Zw h
   refine Za 13 I (Z2d (m := 84) (enc := Zh) (l := v6) (l' := [(v4.Firings.getD v5.toNat Z12), (v4.Firings.getD v5.toNat Z12)]) (src := (.vs 38)) (rd := [(38, (.vec 4 (List.map Zh [(v4.Firings.getD v5.toNat Z12), (v4.Firings.getD v5.toNat Z12)])))]) I I el30 I u30 I I I I (oneRead I) Z2o hg32) <| Za 14 I (Zm I f34_1 I I) <| Za 15 I (Z1f sz30 I I I I I I I I) <| Z1z (by kernel_rfl) I <| Z27 <| Z8 <| Z5 <| Z1 I (Z9 I I) I <| Z1 I (Z1p (k := .i64) (b := 1) (c := (IntKind.i64.wrap (v5 - 1))) I I I I) I <| Z1 I (Zd I I) I <| Z7 ?_
   exact Zz (IH7 _ ((IntKind.i64.wrap (v5 - 1)), (v6 ++ [(v4.Firings.getD v5.toNat Z12), (v4.Firings.getD v5.toNat Z12)])) (Nat.lt_succ_self _) h) ⟨I, I, I, J0⟩ ⟨I, I, I, J0⟩
  have h := hif.2 hc
  refine Z1u <| Z26 ?_
  exact Zz (J7 v6 h) ⟨I, I, J0⟩ ⟨I, I, I, J0⟩
end Go.AM.Noti
