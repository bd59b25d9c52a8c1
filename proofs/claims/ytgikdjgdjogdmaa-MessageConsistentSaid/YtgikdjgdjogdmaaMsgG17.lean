/- What these functions compute, each with its walk: F24, F6. -/
import Derived.Test.YtgikdjgdjogdmaaMsgT
import Derived.Test.YtgikdjgdjogdmaaMsgG1
import Derived.Test.YtgikdjgdjogdmaaMsgG6
namespace Go.AM.Msg
open Go Go.AM Go.Proofs
set_option maxRecDepth 100000
set_option maxHeartbeats 2000000
def F24_c7 (K : Nat) (v6 : (List Zc)) : Option ((List Zc)) :=
 some v6
def F24_l5 (K : Nat) (v2 : (List Z13)) (c8 : (List Zc) → Option ((List Zc))) : Nat → Int → (List Zc) → Option ((List Zc))
 | 0, _, _ => none
 | k5 + 1, v3, v4 =>
  if (decide (v3 < (v2.length : Int))) = true then
   if (0 : Int) ≤ v3 ∧ v3 < v2.length then
    if v4.length + (v2.getD v3.toNat z_Tapi_Trace).Spans.length ≤ 1073741824 then
     (F24_l5 K v2 c8 k5) (IntKind.i64.wrap (v3 + 1)) (v4 ++ (v2.getD v3.toNat z_Tapi_Trace).Spans)
    else none
   else none
  else
   c8 v4
def F24 (K : Nat) (a0 : Zi) : Option ((List Zc)) :=
 (F59 K a0).bind fun v2 =>
  F24_l5 K v2 (F24_c7 K) K 0 []
theorem F24_ok (K : Nat) (a0 : Zi) (r : (List Zc)) (h : F24 K a0 = some r) : ACall P 24 ⟨[(Zd a0)], [], (.sl 14 (r.map Z5) false), [], []⟩ := by
 refine acall_of Try.func24 Try.results24 rfl Try.ntmps24 rfl rfl rfl ?_
 intro E Q hP hN hro hret
 obtain ⟨P', nt', w0, F0, p0, S0, β0, ro0⟩ := E
 simp only at hP hN
 subst hP hN
 dsimp only [argT]
 unfold F24 at h
 refine Zh <| Zb <| Z1 I (st_box (v := (Zd a0)) (cs := (Zd a0).cells) I I I I I) I <| Z1 I (Zm (v := (.sl 14 [] false)) I I) I <| Ze <| Zg <| Zh <| Zb ?_
 refine Z1 I (Zm (v := (.sl 14 [] true)) I I) I <| Ze <| Zg <| Zh <| Zb <| Z1 I (Z1c (cs := (Zd a0).cells) (vs := (Zd a0).cells) I a46 I I I I) I ?_
 have ⟨v2, hv2, h⟩ := Z19 h
 refine Z1 I (Z16 (ar := [(Zd a0)]) (caps := []) Try.call59 (F59_ok K a0 v2 hv2) I I ⟨rfl, trivial⟩ I) I <| Z1 I (Zm (v := (.sl 3 (v2.map Z12) false)) I I) I <| Ze <| Zg <| Zh <| Zh <| Zb <| Z1 I (Zm (v := (.int .i64 0)) I I) I ?_
 refine Ze <| Zg <| AWp.ghost (st' := ⟨[(3, (.vs 3)), (4, (.sl 3 (v2.map Z12) false)), (5, (.int .i64 0))], [(3, (.vec 14 (List.map Z5 ([] : List Zc))))]⟩) (fun a w h => (Z1d ⟨[(3, (.vs 3)), (4, (.sl 3 (v2.map Z12) false)), (5, (.int .i64 0))], [(3, (.vec 14 (List.map Z5 ([] : List Zc))))]⟩ (ghost_own (k := 3) (m := 3) (sz := 14) I I a w (Z1d ⟨[(3, (.sl 14 [] true)), (4, (.sl 3 (v2.map Z12) false)), (5, (.int .i64 0))], []⟩ h ⟨rfl, rfl, rfl, trivial⟩ trivial)) ⟨rfl, rfl, rfl, trivial⟩ ⟨rfl, trivial⟩)) <| AWp.weaken (st' := ⟨[(3, (.vs 3)), (4, (.sl 3 (v2.map Z12) false)), (5, (.int .i64 0))], [(3, (.vec 14 (List.map Z5 [])))]⟩) ⟨rfl, rfl, rfl, trivial⟩ ⟨rfl, trivial⟩ ?_
 refine AWp.loopBlock (V := Int × (List Zc)) (X := (List Zc)) (lp := fun k v => F24_l5 K v2 (F24_c7 K) k v.1 v.2 = some r) (sh := fun v => ⟨[(3, (.vs 3)), (4, (.sl 3 (v2.map Z12) false)), (5, (.int .i64 v.1))], [(3, (.vec 14 (List.map Z5 v.2)))]⟩) (x := fun v => F24_c7 K v = some r) (shx := fun v => ⟨[(3, (.vs 3))], [(3, (.vec 14 (List.map Z5 v)))]⟩) (k := K) (v := (0, [])) h ?_ ?_
 ·intro v h
  revert h
  revert v
  intro v6 h
  try dsimp only at h ⊢
  unfold F24_c7 at h
  refine Zg <| Zh <| Zb <| Z1 I (Zl (v := (.vs 3)) I I) I <| Z1 I (Zm (v := (.vs 3)) I I) I <| Ze <| Zg <| Z1a ?_
  refine At.ghost (st' := ⟨[(2, (.sl 14 (v6.map Z5) false))], []⟩) (fun a w h => (Z1d ⟨[(2, (.sl 14 (v6.map Z5) false))], []⟩ (ghost_freeze (m := 3) (sz := 14) (es := (List.map Z5 v6)) a w (Z1d ⟨[(2, (.vs 3))], [(3, (.vec 14 (List.map Z5 v6)))]⟩ h ⟨rfl, trivial⟩ ⟨rfl, trivial⟩)) ⟨rfl, trivial⟩ trivial)) ?_
  have h := Option.some.inj h
  subst h
  refine (hret _ ?_).1
  exact ⟨[(.sl 14 (v6.map Z5) false)], ⟨rfl, trivial⟩, rfl, trivial⟩
 ·intro N k5 v h IH5 J5
  obtain ⟨v3, v4⟩ := v
  try dsimp only at h IH5 J5 ⊢
  cases k5 with
  | zero => cases h
  | succ k5 =>
   rw [F24_l5] at h
   refine Zh <| Zh <| Zb <| Z1 I (Zl (v := (.int .i64 v3)) I I) I <| Z1 I (Zl (v := (.sl 3 (v2.map Z12) false)) I I) I <| Z1 I (stx_len (l := v2) (enc := Z12) I s103 I) I <| Z1 I (st_cmp (k := .i64) (a := v3) (b := (v2.length : Int)) (c := (decide (v3 < (v2.length : Int)))) I I I I) I <| Ze ?_
   refine Zg ?_
   have hif := of_if h
   refine Z15 I (fun hc => ?_) (fun hc => ?_)
   ·have h := hif.1 hc
    refine Z18 <| Zg <| Zh <| AWp.block <| Zb <| Z1 I (Zl (v := (.vs 3)) I I) I <| Z1 I (Zl (v := (.sl 3 (v2.map Z12) false)) I I) I <| Z1 I (Zl (v := (.int .i64 v3)) I I) I ?_
    have ⟨hg10, h⟩ := Zx h
    refine Z1 I (st_index (k := .i64) (l := v2) (enc := Z12) (z := z_Tapi_Trace) (n := v3) (cs := (Z12 (v2.getD v3.toNat z_Tapi_Trace)).cells) (full := false) I s103 I I hg10 I) I <| Z1 I (st_fieldI (cs := (Z12 (v2.getD v3.toNat z_Tapi_Trace)).cells) (ds := [(.sl 14 ((v2.getD v3.toNat z_Tapi_Trace).Spans.map Z5) false)]) I f106_2 I I I) I <| Z1 I (st_loadI (cs := [(.sl 14 ((v2.getD v3.toNat z_Tapi_Trace).Spans.map Z5) false)]) (v := (.sl 14 ((v2.getD v3.toNat z_Tapi_Trace).Spans.map Z5) false)) I o33 I I) I ?_
    have ⟨hg11, h⟩ := Zx h
    refine Z1 I (st_append (m := 3) (enc := Z5) (l := v4) (l' := (v2.getD v3.toNat z_Tapi_Trace).Spans) (src := (.sl 14 ((v2.getD v3.toNat z_Tapi_Trace).Spans.map Z5) false)) (rd := []) I I el33 I u33 I I I ⟨rfl, rfl, rfl⟩ noReads els_Tapi_Span hg11) I <| Z1 I (Zm (v := (.vs 3)) I I) I <| Ze <| At.end <| Zg <| Zb <| Z1 I (Zl (v := (.int .i64 v3)) I I) I <| Z1 I (Z1f (k := .i64) (a := v3) (b := 1) (c := (IntKind.i64.wrap (v3 + 1))) I I I I) I ?_
    refine Z1 I (Zm (v := (.int .i64 (IntKind.i64.wrap (v3 + 1)))) I I) I <| Ze ?_
    exact Zz (st' := ⟨[(3, (.vs 3)), (4, (.sl 3 (v2.map Z12) false)), (5, (.int .i64 (IntKind.i64.wrap (v3 + 1))))], [(3, (.vec 14 (List.map Z5 (v4 ++ (v2.getD v3.toNat z_Tapi_Trace).Spans))))]⟩) ⟨rfl, rfl, rfl, trivial⟩ ⟨rfl, trivial⟩ (IH5 _ ((IntKind.i64.wrap (v3 + 1)), (v4 ++ (v2.getD v3.toNat z_Tapi_Trace).Spans)) (Nat.lt_succ_self _) h)
   ·have h := hif.2 hc
    refine AWp.exit <| At.thru ?_
    exact Zz (st' := ⟨[(3, (.vs 3))], [(3, (.vec 14 (List.map Z5 v4)))]⟩) ⟨rfl, trivial⟩ ⟨rfl, trivial⟩ (J5 v4 h)
def F6_c17 (K : Nat) : Option (Bool) :=
 some true
def F6_l16 (K : Nat) (v14 : (List Za)) (a0 : Zi) (c18 : Option (Bool)) : Nat → Int → Option (Bool)
 | 0, _ => none
 | k16 + 1, v15 =>
  if (decide (v15 < (v14.length : Int))) = true then
   if (0 : Int) ≤ v15 ∧ v15 < v14.length then
    (F26 K (⟨a0.Trees, a0.Offsets, a0.Syncs, 0⟩ : Zi) (v14.getD v15.toNat Z7).To).bind fun v22 =>
     if (0 : Int) ≤ v15 ∧ v15 < v14.length then
      (F26 K (⟨a0.Trees, a0.Offsets, a0.Syncs, 0⟩ : Zi) (v14.getD v15.toNat Z7).From).bind fun v25 =>
       if (0 : Int) ≤ v15 ∧ v15 < v14.length then
        (F27 K (v14.getD v15.toNat Z7)).bind fun v28 =>
         if (decide ((IntKind.i64.wrap (v22 - v25)) > v28)) = true then
          some false
         else
          (F6_l16 K v14 a0 c18 k16) (IntKind.i64.wrap (v15 + 1))
       else none
     else none
   else none
  else
   c18
def F6 (K : Nat) (a0 : Zi) : Option (Bool) :=
 (F16 K).bind fun v2 =>
  if (!v2) = true then
   (F16 K).bind fun v4 =>
    some v4
  else
   (F23 K a0).bind fun v6 =>
    if (!v6) = true then
     (F16 K).bind fun v8 =>
      some v8
    else
     (F24 K (⟨a0.Trees, a0.Offsets, a0.Syncs, 0⟩ : Zi)).bind fun v10 =>
      (F25 K (⟨a0.Trees, a0.Offsets, a0.Syncs, 0⟩ : Zi)).bind fun v12 =>
       (F21 K v10 v12).bind fun v14 =>
        F6_l16 K v14 a0 (F6_c17 K) K 0
theorem F6_ok (K : Nat) (a0 : Zi) (r : Bool) (h : F6 K a0 = some r) : ACall P 6 ⟨[(Zd a0)], [], (.bool r), [], []⟩ := by
 refine acall_of Try.func6 Try.results6 rfl Try.ntmps6 rfl rfl rfl ?_
 intro E Q hP hN hro hret
 obtain ⟨P', nt', w0, F0, p0, S0, β0, ro0⟩ := E
 simp only at hP hN
 subst hP hN
 dsimp only [argT]
 unfold F6 at h
 refine Zh <| Zb <| Z1 I (st_box (v := (Zd a0)) (cs := (Zd a0).cells) I I I I I) I <| Z1 I (Zm (v := (.bool false)) I I) I <| Ze <| Zg <| Zh <| Zh ?_
 refine Zb ?_
 have ⟨v2, hv2, h⟩ := Z19 h
 refine Z1 I (Z16 (ar := []) (caps := []) Try.call16 (F16_ok K v2 hv2) I I trivial I) I <| Z1 I (st_not (b := v2) I I) I <| Z1 I (Zl (v := (.bool (!v2))) I I) I ?_
 have hif := of_if h
 refine AOps.split (fun hc => ?_) (fun hc => ?_)
 ·have h := hif.1 hc
  refine Zq I I I I I I I <| Zq I I I I I I I <| Zq I I I I I I I <| Z1 I (st_pickT (v := (.bool true)) I I I) I <| Ze <| Zg ?_
  refine Z15 (b := true) I (fun hc => ?_) (fun hc => ?_)
  rotate_left
  ·cases hc
  refine Zh <| Zb ?_
  have ⟨v4, hv4, h⟩ := Z19 h
  refine Z1 I (Z16 (ar := []) (caps := []) Try.call16 (F16_ok K v4 hv4) I I trivial I) I <| Z1 I (Zm (v := (.bool v4)) I I) I <| Ze <| Zg <| Z1a <| Z1e ?_
  have h := Option.some.inj h
  subst h
  refine (hret _ ?_).1
  exact ⟨[(.bool v4)], ⟨rfl, trivial⟩, rfl, trivial⟩
 ·have h := hif.2 hc
  refine Z10 I I I I (Z1c (cs := (Zd a0).cells) (vs := (Zd a0).cells) I a46 I I I I) I ?_
  have ⟨v6, hv6, h⟩ := Z19 h
  refine Z10 I I I I (Z16 (ar := [(Zd a0)]) (caps := []) Try.call23 (F23_ok K a0 v6 hv6) I I ⟨rfl, trivial⟩ I) I <| Z10 I I I I (st_not (b := v6) I I) I <| Z1 I (st_pickF (v := (.bool (!v6))) I I I) I <| Ze <| Zg ?_
  have hif := of_if h
  refine Z15 I (fun hc => ?_) (fun hc => ?_)
  ·have h := hif.1 hc
   refine Zh <| Zb ?_
   have ⟨v8, hv8, h⟩ := Z19 h
   refine Z1 I (Z16 (ar := []) (caps := []) Try.call16 (F16_ok K v8 hv8) I I trivial I) I <| Z1 I (Zm (v := (.bool v8)) I I) I <| Ze <| Zg <| Z1a <| Z1e ?_
   have h := Option.some.inj h
   subst h
   refine (hret _ ?_).1
   exact ⟨[(.bool v8)], ⟨rfl, trivial⟩, rfl, trivial⟩
  ·have h := hif.2 hc
   refine Z18 <| Zg <| Zh <| Zb <| Z1 I (Zr (m := 1) (o := 0) I f46_3 I I) I <| Z1 I (st_storeP (cs := (Zd a0).cells) (vs := [(.int .u8 0)]) (ds := [(.sl 3 (a0.Trees.map Zk) false), (.int .i8 a0.Offsets.e0), (.int .i8 a0.Offsets.e1), (.int .i8 a0.Offsets.e2), (.int .i8 a0.Offsets.e3), (.sl 5 (a0.Syncs.map Zy) false), (.int .u8 0)]) (v := (.int .u8 0)) sz5 I I I I I I I I) I <| Ze <| Zg ?_
   refine Zh <| AWp.regionD mixed <| Z8 0 I (Z1c (cs := [(.sl 3 (a0.Trees.map Zk) false), (.int .i8 a0.Offsets.e0), (.int .i8 a0.Offsets.e1), (.int .i8 a0.Offsets.e2), (.int .i8 a0.Offsets.e3), (.sl 5 (a0.Syncs.map Zy) false), (.int .u8 0)]) (vs := [(.sl 3 (a0.Trees.map Zk) false), (.int .i8 a0.Offsets.e0), (.int .i8 a0.Offsets.e1), (.int .i8 a0.Offsets.e2), (.int .i8 a0.Offsets.e3), (.sl 5 (a0.Syncs.map Zy) false), (.int .u8 0)]) I a46 I I I I) ?_
   have ⟨v10, hv10, h⟩ := Z19 h
   refine Z8 1 I (Z16 (ar := [(.ag [(.sl 3 (a0.Trees.map Zk) false), (.int .i8 a0.Offsets.e0), (.int .i8 a0.Offsets.e1), (.int .i8 a0.Offsets.e2), (.int .i8 a0.Offsets.e3), (.sl 5 (a0.Syncs.map Zy) false), (.int .u8 0)])]) (caps := []) Try.call24 (F24_ok K (⟨a0.Trees, a0.Offsets, a0.Syncs, 0⟩ : Zi) v10 hv10) I I ⟨rfl, trivial⟩ I) <| Z8 2 I (Z1c (cs := [(.sl 3 (a0.Trees.map Zk) false), (.int .i8 a0.Offsets.e0), (.int .i8 a0.Offsets.e1), (.int .i8 a0.Offsets.e2), (.int .i8 a0.Offsets.e3), (.sl 5 (a0.Syncs.map Zy) false), (.int .u8 0)]) (vs := [(.sl 3 (a0.Trees.map Zk) false), (.int .i8 a0.Offsets.e0), (.int .i8 a0.Offsets.e1), (.int .i8 a0.Offsets.e2), (.int .i8 a0.Offsets.e3), (.sl 5 (a0.Syncs.map Zy) false), (.int .u8 0)]) I a46 I I I I) ?_
   have ⟨v12, hv12, h⟩ := Z19 h
   refine Z8 3 I (Z16 (ar := [(.ag [(.sl 3 (a0.Trees.map Zk) false), (.int .i8 a0.Offsets.e0), (.int .i8 a0.Offsets.e1), (.int .i8 a0.Offsets.e2), (.int .i8 a0.Offsets.e3), (.sl 5 (a0.Syncs.map Zy) false), (.int .u8 0)])]) (caps := []) Try.call25 (F25_ok K (⟨a0.Trees, a0.Offsets, a0.Syncs, 0⟩ : Zi) v12 hv12) I I ⟨rfl, trivial⟩ I) ?_
   have ⟨v14, hv14, h⟩ := Z19 h
   refine Z8 4 I (Z16 (ar := [(.sl 14 (v10.map Z5) false), (.sl 5 (v12.map Zv) false)]) (caps := []) Try.call21 (F21_ok K v10 v12 v14 hv14) I I ⟨rfl, rfl, trivial⟩ I) <| Z8 5 I (Zm (v := (.sl 10 (v14.map Z9) false)) I I) <| AOpsD.nil (by kernel_rfl) I <| Zg <| Zh <| Zh <| Zb <| Z1 I (Zm (v := (.int .i64 0)) I I) I ?_
   refine Ze <| Zg <| AWp.weaken (st' := ⟨[(1, (.ptr 1 0)), (3, (.sl 10 (v14.map Z9) false)), (4, (.int .i64 0))], [(1, (.box [(.sl 3 (a0.Trees.map Zk) false), (.int .i8 a0.Offsets.e0), (.int .i8 a0.Offsets.e1), (.int .i8 a0.Offsets.e2), (.int .i8 a0.Offsets.e3), (.sl 5 (a0.Syncs.map Zy) false), (.int .u8 0)]))]⟩) ⟨rfl, rfl, rfl, trivial⟩ ⟨rfl, trivial⟩ ?_
   refine AWp.loopBlock (V := Int) (X := Unit) (lp := fun k v => F6_l16 K v14 a0 (F6_c17 K) k v = some r) (sh := fun v => ⟨[(1, (.ptr 1 0)), (3, (.sl 10 (v14.map Z9) false)), (4, (.int .i64 v))], [(1, (.box [(.sl 3 (a0.Trees.map Zk) false), (.int .i8 a0.Offsets.e0), (.int .i8 a0.Offsets.e1), (.int .i8 a0.Offsets.e2), (.int .i8 a0.Offsets.e3), (.sl 5 (a0.Syncs.map Zy) false), (.int .u8 0)]))]⟩) (x := fun v => F6_c17 K = some r) (shx := fun v => ⟨[], []⟩) (k := K) (v := 0) h ?_ ?_
   ·intro v h
    try dsimp only at h ⊢
    unfold F6_c17 at h
    refine Zg <| Zh <| Zb <| Z1 I (Zm (v := (.bool true)) I I) I <| Ze <| Zg <| Z1a ?_
    have h := Option.some.inj h
    subst h
    refine (hret _ ?_).1
    exact ⟨[(.bool true)], ⟨rfl, trivial⟩, rfl, trivial⟩
   ·intro N k16 v h IH16 J16
    revert h
    revert v
    intro v15 h
    try dsimp only at h IH16 J16 ⊢
    cases k16 with
    | zero => cases h
    | succ k16 =>
     rw [F6_l16] at h
     refine Zh <| Zh <| Zb <| Z1 I (Zl (v := (.int .i64 v15)) I I) I <| Z1 I (Zl (v := (.sl 10 (v14.map Z9) false)) I I) I <| Z1 I (stx_len (l := v14) (enc := Z9) I s29 I) I <| Z1 I (st_cmp (k := .i64) (a := v15) (b := (v14.length : Int)) (c := (decide (v15 < (v14.length : Int)))) I I I I) I <| Ze ?_
     refine Zg ?_
     have hif := of_if h
     refine Z15 I (fun hc => ?_) (fun hc => ?_)
     ·have h := hif.1 hc
      refine Z18 <| Zg <| Zh <| AWp.block <| Zh <| AWp.regionD mixed <| Z8 0 I (Z1c (cs := [(.sl 3 (a0.Trees.map Zk) false), (.int .i8 a0.Offsets.e0), (.int .i8 a0.Offsets.e1), (.int .i8 a0.Offsets.e2), (.int .i8 a0.Offsets.e3), (.sl 5 (a0.Syncs.map Zy) false), (.int .u8 0)]) (vs := [(.sl 3 (a0.Trees.map Zk) false), (.int .i8 a0.Offsets.e0), (.int .i8 a0.Offsets.e1), (.int .i8 a0.Offsets.e2), (.int .i8 a0.Offsets.e3), (.sl 5 (a0.Syncs.map Zy) false), (.int .u8 0)]) I a46 I I I I) <| Z8 1 I (Zl (v := (.sl 10 (v14.map Z9) false)) I I) ?_
      refine Z8 2 I (Zl (v := (.int .i64 v15)) I I) ?_
      have ⟨hg20, h⟩ := Zx h
      refine Z8 3 I (st_index (k := .i64) (l := v14) (enc := Z9) (z := Z7) (n := v15) (cs := (Z9 (v14.getD v15.toNat Z7)).cells) (full := false) I s29 I I hg20 I) <| Z8 4 I (st_fieldI (cs := (Z9 (v14.getD v15.toNat Z7)).cells) (ds := [(.int .i64 (v14.getD v15.toNat Z7).To), (.int .i64 (v14.getD v15.toNat Z7).Sent), (.int .i64 (v14.getD v15.toNat Z7).Received), (.int .i64 (v14.getD v15.toNat Z7).Least)]) I f25_4 I I I) <| Z8 5 I (st_loadI (cs := [(.int .i64 (v14.getD v15.toNat Z7).To), (.int .i64 (v14.getD v15.toNat Z7).Sent), (.int .i64 (v14.getD v15.toNat Z7).Received), (.int .i64 (v14.getD v15.toNat Z7).Least)]) (v := (.int .i64 (v14.getD v15.toNat Z7).To)) I o3 I I) ?_
      have ⟨v22, hv22, h⟩ := Z19 h
      refine Z8 6 I (Z16 (ar := [(.ag [(.sl 3 (a0.Trees.map Zk) false), (.int .i8 a0.Offsets.e0), (.int .i8 a0.Offsets.e1), (.int .i8 a0.Offsets.e2), (.int .i8 a0.Offsets.e3), (.sl 5 (a0.Syncs.map Zy) false), (.int .u8 0)]), (.int .i64 (v14.getD v15.toNat Z7).To)]) (caps := []) Try.call26 (F26_ok K (⟨a0.Trees, a0.Offsets, a0.Syncs, 0⟩ : Zi) (v14.getD v15.toNat Z7).To v22 hv22) I I ⟨rfl, rfl, trivial⟩ I) <| Z8 7 I (Z1c (cs := [(.sl 3 (a0.Trees.map Zk) false), (.int .i8 a0.Offsets.e0), (.int .i8 a0.Offsets.e1), (.int .i8 a0.Offsets.e2), (.int .i8 a0.Offsets.e3), (.sl 5 (a0.Syncs.map Zy) false), (.int .u8 0)]) (vs := [(.sl 3 (a0.Trees.map Zk) false), (.int .i8 a0.Offsets.e0), (.int .i8 a0.Offsets.e1), (.int .i8 a0.Offsets.e2), (.int .i8 a0.Offsets.e3), (.sl 5 (a0.Syncs.map Zy) false), (.int .u8 0)]) I a46 I I I I) <| Z8 8 I (Zl (v := (.sl 10 (v14.map Z9) false)) I I) <| Z8 9 I (Zl (v := (.int .i64 v15)) I I) ?_
      have ⟨hg23, h⟩ := Zx h
      refine Z8 10 I (st_index (k := .i64) (l := v14) (enc := Z9) (z := Z7) (n := v15) (cs := (Z9 (v14.getD v15.toNat Z7)).cells) (full := false) I s29 I I hg23 I) <| Z8 11 I (st_fieldI (cs := (Z9 (v14.getD v15.toNat Z7)).cells) (ds := [(.int .i64 (v14.getD v15.toNat Z7).From), (.int .i64 (v14.getD v15.toNat Z7).To), (.int .i64 (v14.getD v15.toNat Z7).Sent), (.int .i64 (v14.getD v15.toNat Z7).Received), (.int .i64 (v14.getD v15.toNat Z7).Least)]) I f25_3 I I I) <| Z8 12 I (st_loadI (cs := [(.int .i64 (v14.getD v15.toNat Z7).From), (.int .i64 (v14.getD v15.toNat Z7).To), (.int .i64 (v14.getD v15.toNat Z7).Sent), (.int .i64 (v14.getD v15.toNat Z7).Received), (.int .i64 (v14.getD v15.toNat Z7).Least)]) (v := (.int .i64 (v14.getD v15.toNat Z7).From)) I o3 I I) ?_
      have ⟨v25, hv25, h⟩ := Z19 h
      refine Z8 13 I (Z16 (ar := [(.ag [(.sl 3 (a0.Trees.map Zk) false), (.int .i8 a0.Offsets.e0), (.int .i8 a0.Offsets.e1), (.int .i8 a0.Offsets.e2), (.int .i8 a0.Offsets.e3), (.sl 5 (a0.Syncs.map Zy) false), (.int .u8 0)]), (.int .i64 (v14.getD v15.toNat Z7).From)]) (caps := []) Try.call26 (F26_ok K (⟨a0.Trees, a0.Offsets, a0.Syncs, 0⟩ : Zi) (v14.getD v15.toNat Z7).From v25 hv25) I I ⟨rfl, rfl, trivial⟩ I) <| Z8 14 I (Z1f (k := .i64) (a := v22) (b := v25) (c := (IntKind.i64.wrap (v22 - v25))) I I I I) <| Z8 15 I (Zl (v := (.sl 10 (v14.map Z9) false)) I I) <| Z8 16 I (Zl (v := (.int .i64 v15)) I I) ?_
      have ⟨hg26, h⟩ := Zx h
      refine Z8 17 I (st_index (k := .i64) (l := v14) (enc := Z9) (z := Z7) (n := v15) (cs := (Z9 (v14.getD v15.toNat Z7)).cells) (full := false) I s29 I I hg26 I) <| Z8 18 I (st_loadIA (cs := (Z9 (v14.getD v15.toNat Z7)).cells) (vs := (Z9 (v14.getD v15.toNat Z7)).cells) I a25 I I I) ?_
      have ⟨v28, hv28, h⟩ := Z19 h
      refine Z8 19 I (Z16 (ar := [(Z9 (v14.getD v15.toNat Z7))]) (caps := []) Try.call27 (F27_ok K (v14.getD v15.toNat Z7) v28 hv28) I I ⟨rfl, trivial⟩ I) <| Z8 20 I (st_cmp (k := .i64) (a := (IntKind.i64.wrap (v22 - v25))) (b := v28) (c := (decide ((IntKind.i64.wrap (v22 - v25)) > v28))) I I I I) <| AOpsD.nil (by kernel_rfl) I <| Zg ?_
      have hif := of_if h
      refine Z15 I (fun hc => ?_) (fun hc => ?_)
      ·have h := hif.1 hc
       refine Zh <| Zb <| Z1 I (Zm (v := (.bool false)) I I) I <| Ze <| Zg <| Z1a <| At.overR <| Z1e ?_
       refine Z1e (At.overR ?_)
       refine Z1e ?_
       have h := Option.some.inj h
       subst h
       refine (hret _ ?_).1
       exact ⟨[(.bool false)], ⟨rfl, trivial⟩, rfl, trivial⟩
      ·have h := hif.2 hc
       refine Z18 <| At.end <| Zg <| Zb <| Z1 I (Zl (v := (.int .i64 v15)) I I) I <| Z1 I (Z1f (k := .i64) (a := v15) (b := 1) (c := (IntKind.i64.wrap (v15 + 1))) I I I I) I <| Z1 I (Zm (v := (.int .i64 (IntKind.i64.wrap (v15 + 1)))) I I) I <| Ze ?_
       exact Zz (st' := ⟨[(1, (.ptr 1 0)), (3, (.sl 10 (v14.map Z9) false)), (4, (.int .i64 (IntKind.i64.wrap (v15 + 1))))], [(1, (.box [(.sl 3 (a0.Trees.map Zk) false), (.int .i8 a0.Offsets.e0), (.int .i8 a0.Offsets.e1), (.int .i8 a0.Offsets.e2), (.int .i8 a0.Offsets.e3), (.sl 5 (a0.Syncs.map Zy) false), (.int .u8 0)]))]⟩) ⟨rfl, rfl, rfl, trivial⟩ ⟨rfl, trivial⟩ (IH16 _ (IntKind.i64.wrap (v15 + 1)) (Nat.lt_succ_self _) h)
     ·have h := hif.2 hc
      refine AWp.exit <| At.thru ?_
      exact Zz (st' := ⟨[], []⟩) trivial trivial (J16 () h)
end Go.AM.Msg
