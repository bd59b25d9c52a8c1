/- What these functions compute, each with its walk: F24_i1, F36. -/
import Derived.Test.YtgikdjgdjogdmaaMsgT
import Derived.Test.YtgikdjgdjogdmaaMsgG6
namespace Go.AM.Msg
open Go Go.AM Go.Proofs
set_option maxRecDepth 100000
set_option maxHeartbeats 2000000
def F24_i1_c7 (K : Nat) (v6 : (List Zd)) : Option ((List Zd)) :=
 some v6
def F24_i1_l5 (K : Nat) (v2 : (List Z1d)) (c8 : (List Zd) → Option ((List Zd))) : Nat → Int → (List Zd) → Option ((List Zd))
 | 0, _, _ => none
 | k5 + 1, v3, v4 =>
  if (decide (v3 < (v2.length : Int))) = true then
   if (0 : Int) ≤ v3 ∧ v3 < v2.length then
    if v4.length + (v2.getD v3.toNat z_Tapi_Trace).Spans.length ≤ 1073741824 then
     (F24_i1_l5 K v2 c8 k5) (IntKind.i64.wrap (v3 + 1)) (v4 ++ (v2.getD v3.toNat z_Tapi_Trace).Spans)
    else none
   else none
  else
   c8 v4
def F24_i1 (K : Nat) (a0 : Zp) : Option ((List Zd)) :=
 (F59 K a0).bind fun v2 =>
  F24_i1_l5 K v2 (F24_i1_c7 K) K 0 []
theorem F24_i1_ok (K : Nat) (a0 : Zp) (r : (List Zd)) (h : F24_i1 K a0 = some r) : ACall P 24 ⟨[(Z9 a0)], [], .vs 2, [(2, .vec 14 (List.map Z3 r))], [2]⟩ := by
 refine Z1t Try.func24 Try.results24 rfl Try.ntmps24 rfl rfl rfl ?_
 intro E Q hP hN hro hret
 obtain ⟨P', nt', w0, F0, p0, S0, β0, ro0⟩ := E
 simp only at hP hN
 subst hP hN
 dsimp only [argT]
 unfold F24_i1 at h
 refine Zh <| Zc <| Z2 I (st_box (v := (Z9 a0)) (cs := (Z9 a0).cells) I I I I I) I <| Z2 I (Zj (v := (.sl 14 [] false)) I I) I <| Zf <| Zg <| Zh <| Zc ?_
 refine Z2 I (Zj (v := (.sl 14 [] true)) I I) I <| Zf <| Zg <| Zh <| Zc <| Z2 I (Z1b (cs := (Z9 a0).cells) (vs := (Z9 a0).cells) I a46 I I I I) I ?_
 have ⟨v2, hv2, h⟩ := Z19 h
 refine Z2 I (Z17 (ar := [(Z9 a0)]) (caps := []) Try.call59 (F59_ok K a0 v2 hv2) I I ⟨rfl, trivial⟩ I) I <| Z2 I (Zj (v := (.sl 3 (v2.map Z1c) false)) I I) I <| Zf <| Zg <| Zh <| Zh <| Zc <| Z2 I (Zj (v := (.int .i64 0)) I I) I ?_
 refine Zf <| Zg <| AWp.ghost (st' := ⟨[(3, (.vs 3)), (4, (.sl 3 (v2.map Z1c) false)), (5, (.int .i64 0))], [(3, (.vec 14 (List.map Z3 ([] : List Zd))))]⟩) (fun a w h => (Z1a ⟨[(3, (.vs 3)), (4, (.sl 3 (v2.map Z1c) false)), (5, (.int .i64 0))], [(3, (.vec 14 (List.map Z3 ([] : List Zd))))]⟩ (ghost_own (k := 3) (m := 3) (sz := 14) I I a w (Z1a ⟨[(3, (.sl 14 [] true)), (4, (.sl 3 (v2.map Z1c) false)), (5, (.int .i64 0))], []⟩ h ⟨rfl, rfl, rfl, trivial⟩ trivial)) ⟨rfl, rfl, rfl, trivial⟩ ⟨rfl, trivial⟩)) <| Z1x (st' := ⟨[(3, (.vs 3)), (4, (.sl 3 (v2.map Z1c) false)), (5, (.int .i64 0))], [(3, (.vec 14 (List.map Z3 [])))]⟩) ⟨rfl, rfl, rfl, trivial⟩ ⟨rfl, trivial⟩ ?_
 refine Z1j (V := Int × (List Zd)) (X := (List Zd)) (lp := fun k v => F24_i1_l5 K v2 (F24_i1_c7 K) k v.1 v.2 = some r) (sh := fun v => ⟨[(3, (.vs 3)), (4, (.sl 3 (v2.map Z1c) false)), (5, (.int .i64 v.1))], [(3, (.vec 14 (List.map Z3 v.2)))]⟩) (x := fun v => F24_i1_c7 K v = some r) (shx := fun v => ⟨[(3, (.vs 3))], [(3, (.vec 14 (List.map Z3 v)))]⟩) (k := K) (v := (0, [])) h ?_ ?_
 ·intro v h
  revert h
  revert v
  intro v6 h
  try dsimp only at h ⊢
  unfold F24_i1_c7 at h
  refine Zg <| Zh <| Zc <| Z2 I (Zi (v := (.vs 3)) I I) I <| Z2 I (Zj (v := (.vs 3)) I I) I <| Zf <| Zg <| Z1e ?_
  refine At.ghost (st' := ⟨[(2, (.vs 2))], [(2, (.vec 14 (List.map Z3 v6)))]⟩) (fun a w h => (Z1a ⟨[(2, (.vs 2))], [(2, (.vec 14 (List.map Z3 v6)))]⟩ (ghost_sw (a := 3) (b := 2) I I a w (Z1a ⟨[(2, (.vs 3))], [(3, (.vec 14 (List.map Z3 v6)))]⟩ h ⟨rfl, trivial⟩ ⟨rfl, trivial⟩)) ⟨rfl, trivial⟩ ⟨rfl, trivial⟩)) ?_
  have h := Option.some.inj h
  subst h
  refine (hret _ ?_).1
  exact ⟨[(.vs 2)], ⟨rfl, trivial⟩, rfl, ⟨rfl, trivial⟩⟩
 ·intro N k5 v h IH5 J5
  obtain ⟨v3, v4⟩ := v
  try dsimp only at h IH5 J5 ⊢
  cases k5 with
  | zero => cases h
  | succ k5 =>
   rw [F24_i1_l5] at h
   refine Zh <| Zh <| Zc <| Z2 I (Zi (v := (.int .i64 v3)) I I) I <| Z2 I (Zi (v := (.sl 3 (v2.map Z1c) false)) I I) I <| Z2 I (stx_len (l := v2) (enc := Z1c) I s103 I) I <| Z2 I (Z1o (k := .i64) (a := v3) (b := (v2.length : Int)) (c := (decide (v3 < (v2.length : Int)))) I I I I) I <| Zf ?_
   refine Zg ?_
   have hif := Z1u h
   refine Z16 I (fun hc => ?_) (fun hc => ?_)
   ·have h := hif.1 hc
    refine Z18 <| Zg <| Zh <| AWp.block <| Zc <| Z2 I (Zi (v := (.vs 3)) I I) I <| Z2 I (Zi (v := (.sl 3 (v2.map Z1c) false)) I I) I <| Z2 I (Zi (v := (.int .i64 v3)) I I) I ?_
    have ⟨hg10, h⟩ := Z10 h
    refine Z2 I (Z1r (k := .i64) (l := v2) (enc := Z1c) (z := z_Tapi_Trace) (n := v3) (cs := (Z1c (v2.getD v3.toNat z_Tapi_Trace)).cells) (full := false) I s103 I I hg10 I) I <| Z2 I (st_fieldI (cs := (Z1c (v2.getD v3.toNat z_Tapi_Trace)).cells) (ds := [(.sl 14 ((v2.getD v3.toNat z_Tapi_Trace).Spans.map Z3) false)]) I f106_2 I I I) I <| Z2 I (st_loadI (cs := [(.sl 14 ((v2.getD v3.toNat z_Tapi_Trace).Spans.map Z3) false)]) (v := (.sl 14 ((v2.getD v3.toNat z_Tapi_Trace).Spans.map Z3) false)) I o33 I I) I ?_
    have ⟨hg11, h⟩ := Z10 h
    refine Z2 I (st_append (m := 3) (enc := Z3) (l := v4) (l' := (v2.getD v3.toNat z_Tapi_Trace).Spans) (src := (.sl 14 ((v2.getD v3.toNat z_Tapi_Trace).Spans.map Z3) false)) (rd := []) I I el33 I u33 I I I ⟨rfl, rfl, rfl⟩ noReads els_Tapi_Span hg11) I <| Z2 I (Zj (v := (.vs 3)) I I) I <| Zf <| At.end <| Zg <| Zc <| Z2 I (Zi (v := (.int .i64 v3)) I I) I <| Z2 I (Z1h (k := .i64) (a := v3) (b := 1) (c := (IntKind.i64.wrap (v3 + 1))) I I I I) I ?_
    refine Z2 I (Zj (v := (.int .i64 (IntKind.i64.wrap (v3 + 1)))) I I) I <| Zf ?_
    exact Zw (st' := ⟨[(3, (.vs 3)), (4, (.sl 3 (v2.map Z1c) false)), (5, (.int .i64 (IntKind.i64.wrap (v3 + 1))))], [(3, (.vec 14 (List.map Z3 (v4 ++ (v2.getD v3.toNat z_Tapi_Trace).Spans))))]⟩) ⟨rfl, rfl, rfl, trivial⟩ ⟨rfl, trivial⟩ (IH5 _ ((IntKind.i64.wrap (v3 + 1)), (v4 ++ (v2.getD v3.toNat z_Tapi_Trace).Spans)) (Nat.lt_succ_self _) h)
   ·have h := hif.2 hc
    refine AWp.exit <| At.thru ?_
    exact Zw (st' := ⟨[(3, (.vs 3))], [(3, (.vec 14 (List.map Z3 v4)))]⟩) ⟨rfl, trivial⟩ ⟨rfl, trivial⟩ (J5 v4 h)
def F36_c7 (K : Nat) (v6 : (List Zd)) : Option ((List Zd)) :=
 some v6
def F36_c14 (K : Nat) (b9 : Int → (List Zd) → Option ((List Zd))) (v3 : Int) (v13 : (List Zd)) : Option ((List Zd)) :=
 b9 (IntKind.i64.wrap (v3 + 1)) v13
def F36_j20 (K : Nat) (b16 : Int → (List Zd) → Option ((List Zd))) (v10 : Int) (v19 : (List Zd)) : Option ((List Zd)) :=
 b16 (IntKind.i64.wrap (v10 + 1)) v19
def F36_j18 (K : Nat) (v3 : Int) (v11 : (List Zd)) (b16 : Int → (List Zd) → Option ((List Zd))) (v10 : Int) (v17 : Bool) : Option ((List Zd)) :=
 if v17 = true then
  if (0 : Int) ≤ v3 ∧ v3 < (v11.length : Nat) then
   if v3.toNat < v11.length then
    F36_j20 K b16 v10 (v11.set v3.toNat (⟨(v11.getD v3.toNat Z1).Trace, (v11.getD v3.toNat Z1).Id, (v11.getD v3.toNat Z1).Parent, 1, (v11.getD v3.toNat Z1).Clock, (v11.getD v3.toNat Z1).Kind, (v11.getD v3.toNat Z1).Service, (v11.getD v3.toNat Z1).Version, (v11.getD v3.toNat Z1).Operation, (v11.getD v3.toNat Z1).Start, (v11.getD v3.toNat Z1).End, (v11.getD v3.toNat Z1).Error, (v11.getD v3.toNat Z1).Attrs, (v11.getD v3.toNat Z1).Links⟩ : Zd))
   else none
  else none
 else
  F36_j20 K b16 v10 v11
def F36_l12 (K : Nat) (a0 : Zp) (v3 : Int) (c15 : (List Zd) → Option ((List Zd))) : Nat → Int → (List Zd) → Option ((List Zd))
 | 0, _, _ => none
 | k12 + 1, v10, v11 =>
  if (decide (v10 < (a0.Trees.length : Int))) = true then
   if (0 : Int) ≤ v10 ∧ v10 < a0.Trees.length then
    if (decide (((a0.Trees.getD v10.toNat Z5).Calls.length : Int) > 0)) = true then
     (F62 K a0 v10).bind fun v25 =>
      if (0 : Int) ≤ v3 ∧ v3 < (v11.length : Nat) then
       if v3.toNat < v11.length then
        if (v25 == (v11.getD v3.toNat Z1).Trace) = true then
         if (0 : Int) ≤ v10 ∧ v10 < a0.Trees.length then
          if (0 : Int) ≤ v3 ∧ v3 < (v11.length : Nat) then
           if v3.toNat < v11.length then
            if (0 : Int) ≤ (IntKind.i64.wrap ((v11.getD v3.toNat Z1).Id - 1)) ∧ (IntKind.i64.wrap ((v11.getD v3.toNat Z1).Id - 1)) < (a0.Trees.getD v10.toNat Z5).Calls.length then
             F36_j18 K v3 v11 (F36_l12 K a0 v3 c15 k12) v10 ((((a0.Trees.getD v10.toNat Z5).Calls.getD (IntKind.i64.wrap ((v11.getD v3.toNat Z1).Id - 1)).toNat Z4).Tag.tmod 2) == 1)
            else none
           else none
          else none
         else none
        else
         F36_j18 K v3 v11 (F36_l12 K a0 v3 c15 k12) v10 false
       else none
      else none
    else
     F36_j18 K v3 v11 (F36_l12 K a0 v3 c15 k12) v10 false
   else none
  else
   c15 v11
def F36_l5 (K : Nat) (a0 : Zp) (c8 : (List Zd) → Option ((List Zd))) : Nat → Int → (List Zd) → Option ((List Zd))
 | 0, _, _ => none
 | k5 + 1, v3, v4 =>
  if (decide (v3 < (v4.length : Int))) = true then
   F36_l12 K a0 v3 (F36_c14 K (F36_l5 K a0 c8 k5) v3) K 0 v4
  else
   c8 v4
def F36 (K : Nat) (a0 : Zp) : Option ((List Zd)) :=
 (F24_i1 K a0).bind fun v2 =>
  F36_l5 K a0 (F36_c7 K) K 0 v2
theorem F36_ok (K : Nat) (a0 : Zp) (r : (List Zd)) (h : F36 K a0 = some r) : ACall P 36 ⟨[(Z9 a0)], [], (.sl 14 (r.map Z3) false), [], []⟩ := by
 refine Z1t Try.func36 Try.results36 rfl Try.ntmps36 rfl rfl rfl ?_
 intro E Q hP hN hro hret
 obtain ⟨P', nt', w0, F0, p0, S0, β0, ro0⟩ := E
 simp only at hP hN
 subst hP hN
 dsimp only [argT]
 unfold F36 at h
 refine Zh <| Zc <| Z2 I (st_box (v := (Z9 a0)) (cs := (Z9 a0).cells) I I I I I) I <| Z2 I (Zj (v := (.sl 14 [] false)) I I) I <| Zf <| Zg <| Zh <| Zc ?_
 refine Z2 I (Z1b (cs := (Z9 a0).cells) (vs := (Z9 a0).cells) I a46 I I I I) I ?_
 have ⟨v2, hv2, h⟩ := Z19 h
 refine Z2 I (st_callO (sz := 14) (es := (List.map Z3 v2)) (ar := [(Z9 a0)]) (caps := []) Try.call24 ((F24_i1_ok K a0 v2 hv2).sw 2 7) I I ⟨rfl, trivial⟩ I) I <| Z2 I (Zj (v := (.vs 7)) I I) I <| Zf <| Zg <| Zh <| Zh <| Zc <| Z2 I (Zj (v := (.int .i64 0)) I I) I ?_
 refine Zf <| Zg <| AWp.ghost (st' := ⟨[(1, (.ptr 1 0)), (3, (.vs 3)), (4, (.int .i64 0))], [(1, (.box (Z9 a0).cells)), (3, (.vec 14 (List.map Z3 v2)))]⟩) (fun a w h => (Z1a ⟨[(1, (.ptr 1 0)), (3, (.vs 3)), (4, (.int .i64 0))], [(1, (.box (Z9 a0).cells)), (3, (.vec 14 (List.map Z3 v2)))]⟩ (ghost_sw (a := 7) (b := 3) I I a w (Z1a ⟨[(1, (.ptr 1 0)), (3, (.vs 7)), (4, (.int .i64 0))], [(1, (.box (Z9 a0).cells)), (7, (.vec 14 (List.map Z3 v2)))]⟩ h ⟨rfl, rfl, rfl, trivial⟩ ⟨rfl, rfl, trivial⟩)) ⟨rfl, rfl, rfl, trivial⟩ ⟨rfl, rfl, trivial⟩)) <| Z1x (st' := ⟨[(1, (.ptr 1 0)), (3, (.vs 3)), (4, (.int .i64 0))], [(1, (.box (Z9 a0).cells)), (3, (.vec 14 (List.map Z3 v2)))]⟩) ⟨rfl, rfl, rfl, trivial⟩ ⟨rfl, rfl, trivial⟩ ?_
 refine Z1j (V := Int × (List Zd)) (X := (List Zd)) (lp := fun k v => F36_l5 K a0 (F36_c7 K) k v.1 v.2 = some r) (sh := fun v => ⟨[(1, (.ptr 1 0)), (3, (.vs 3)), (4, (.int .i64 v.1))], [(1, (.box (Z9 a0).cells)), (3, (.vec 14 (List.map Z3 v.2)))]⟩) (x := fun v => F36_c7 K v = some r) (shx := fun v => ⟨[(3, (.vs 3))], [(3, (.vec 14 (List.map Z3 v)))]⟩) (k := K) (v := (0, v2)) h ?_ ?_
 ·intro v h
  revert h
  revert v
  intro v6 h
  try dsimp only at h ⊢
  unfold F36_c7 at h
  refine Zg <| Zh <| Zc <| Z2 I (Zi (v := (.vs 3)) I I) I <| Z2 I (Zj (v := (.vs 3)) I I) I <| Zf <| Zg <| Z1e ?_
  refine At.ghost (st' := ⟨[(2, (.sl 14 (v6.map Z3) false))], []⟩) (fun a w h => (Z1a ⟨[(2, (.sl 14 (v6.map Z3) false))], []⟩ (ghost_freeze (m := 3) (sz := 14) (es := (List.map Z3 v6)) a w (Z1a ⟨[(2, (.vs 3))], [(3, (.vec 14 (List.map Z3 v6)))]⟩ h ⟨rfl, trivial⟩ ⟨rfl, trivial⟩)) ⟨rfl, trivial⟩ trivial)) ?_
  have h := Option.some.inj h
  subst h
  refine (hret _ ?_).1
  exact ⟨[(.sl 14 (v6.map Z3) false)], ⟨rfl, trivial⟩, rfl, trivial⟩
 ·intro N k5 v h IH5 J5
  obtain ⟨v3, v4⟩ := v
  try dsimp only at h IH5 J5 ⊢
  cases k5 with
  | zero => cases h
  | succ k5 =>
   rw [F36_l5] at h
   refine Zh <| Zh <| Zc <| Z2 I (Zi (v := (.int .i64 v3)) I I) I <| Z2 I (Zi (v := (.vs 3)) I I) I <| Z2 I (stx_lenV (l := v4) (enc := Z3) I u33 I I) I <| Z2 I (Z1o (k := .i64) (a := v3) (b := (v4.length : Int)) (c := (decide (v3 < (v4.length : Int)))) I I I I) I <| Zf ?_
   refine Zg ?_
   have hif := Z1u h
   refine Z16 I (fun hc => ?_) (fun hc => ?_)
   ·have h := hif.1 hc
    refine Z18 <| Zg <| Zh <| AWp.block <| Zh <| Zc <| Z2 I (Zj (v := (.int .i64 0)) I I) I <| Zf ?_
    refine Zg <| Z1x (st' := ⟨[(1, (.ptr 1 0)), (3, (.vs 3)), (4, (.int .i64 v3)), (5, (.int .i64 0))], [(1, (.box (Z9 a0).cells)), (3, (.vec 14 (List.map Z3 v4)))]⟩) ⟨rfl, rfl, rfl, rfl, trivial⟩ ⟨rfl, rfl, trivial⟩ ?_
    refine Z1j (V := Int × (List Zd)) (X := (List Zd)) (lp := fun k v => F36_l12 K a0 v3 (F36_c14 K (F36_l5 K a0 (F36_c7 K) k5) v3) k v.1 v.2 = some r) (sh := fun v => ⟨[(1, (.ptr 1 0)), (3, (.vs 3)), (4, (.int .i64 v3)), (5, (.int .i64 v.1))], [(1, (.box (Z9 a0).cells)), (3, (.vec 14 (List.map Z3 v.2)))]⟩) (x := fun v => F36_c14 K (F36_l5 K a0 (F36_c7 K) k5) v3 v = some r) (shx := fun v => ⟨[(1, (.ptr 1 0)), (3, (.vs 3)), (4, (.int .i64 v3))], [(1, (.box (Z9 a0).cells)), (3, (.vec 14 (List.map Z3 v)))]⟩) (k := K) (v := (0, v4)) h ?_ ?_
    ·intro v h
     revert h
     revert v
     intro v13 h
     try dsimp only at h ⊢
     unfold F36_c14 at h
     refine At.end <| Zg <| Zc <| Z2 I (Zi (v := (.int .i64 v3)) I I) I <| Z2 I (Z1h (k := .i64) (a := v3) (b := 1) (c := (IntKind.i64.wrap (v3 + 1))) I I I I) I <| Z2 I (Zj (v := (.int .i64 (IntKind.i64.wrap (v3 + 1)))) I I) I <| Zf ?_
     exact Zw (st' := ⟨[(1, (.ptr 1 0)), (3, (.vs 3)), (4, (.int .i64 (IntKind.i64.wrap (v3 + 1))))], [(1, (.box (Z9 a0).cells)), (3, (.vec 14 (List.map Z3 v13)))]⟩) ⟨rfl, rfl, rfl, trivial⟩ ⟨rfl, rfl, trivial⟩ (IH5 _ ((IntKind.i64.wrap (v3 + 1)), v13) (Nat.lt_succ_self _) h)
    ·intro N k12 v h IH12 J12
     obtain ⟨v10, v11⟩ := v
     try dsimp only at h IH12 J12 ⊢
     cases k12 with
     | zero => cases h
     | succ k12 =>
      rw [F36_l12] at h
      refine Zh <| Zh <| Zc <| Z2 I (Zi (v := (.int .i64 v10)) I I) I <| Z2 I (Zq (m := 1) (o := 0) I f46_0 I I) I <| Z2 I (Z11 (cs := (Z9 a0).cells) (v := (.sl 3 (a0.Trees.map Zs) false)) I o41 I I I) I <| Z2 I (stx_len (l := a0.Trees) (enc := Zs) I s41 I) I <| Z2 I (Z1o (k := .i64) (a := v10) (b := (a0.Trees.length : Int)) (c := (decide (v10 < (a0.Trees.length : Int)))) I I I I) I ?_
      refine Zf <| Zg ?_
      have hif := Z1u h
      refine Z16 I (fun hc => ?_) (fun hc => ?_)
      ·have h := hif.1 hc
       refine Z18 <| Zg <| Zh <| AWp.block <| Zh ?_
       refine AWp.join (V := Bool) (lp := fun v => F36_j18 K v3 v11 (F36_l12 K a0 v3 (F36_c14 K (F36_l5 K a0 (F36_c7 K) k5) v3) k12) v10 v = some r) (sh := fun v => ⟨[(1, (.ptr 1 0)), (3, (.vs 3)), (4, (.int .i64 v3)), (5, (.int .i64 v10)), (58, (.bool v))], [(1, (.box (Z9 a0).cells)), (3, (.vec 14 (List.map Z3 v11)))]⟩) ?_ ?_
       ·intro v h
        revert h
        revert v
        intro v17 h
        try dsimp only at h ⊢
        unfold F36_j18 at h
        refine Zg ?_
        refine AWp.join (V := (List Zd)) (lp := fun v => F36_j20 K (F36_l12 K a0 v3 (F36_c14 K (F36_l5 K a0 (F36_c7 K) k5) v3) k12) v10 v = some r) (sh := fun v => ⟨[(1, (.ptr 1 0)), (3, (.vs 3)), (4, (.int .i64 v3)), (5, (.int .i64 v10))], [(1, (.box (Z9 a0).cells)), (3, (.vec 14 (List.map Z3 v)))]⟩) ?_ ?_
        ·intro v h
         revert h
         revert v
         intro v19 h
         try dsimp only at h ⊢
         unfold F36_j20 at h
         refine At.end <| Zg <| Zc <| Z2 I (Zi (v := (.int .i64 v10)) I I) I <| Z2 I (Z1h (k := .i64) (a := v10) (b := 1) (c := (IntKind.i64.wrap (v10 + 1))) I I I I) I <| Z2 I (Zj (v := (.int .i64 (IntKind.i64.wrap (v10 + 1)))) I I) I <| Zf ?_
         exact Zw (st' := ⟨[(1, (.ptr 1 0)), (3, (.vs 3)), (4, (.int .i64 v3)), (5, (.int .i64 (IntKind.i64.wrap (v10 + 1))))], [(1, (.box (Z9 a0).cells)), (3, (.vec 14 (List.map Z3 v19)))]⟩) ⟨rfl, rfl, rfl, rfl, trivial⟩ ⟨rfl, rfl, trivial⟩ (IH12 _ ((IntKind.i64.wrap (v10 + 1)), v19) (Nat.lt_succ_self _) h)
        ·intro J20
         have hif := Z1u h
         refine Z16 I (fun hc => ?_) (fun hc => ?_)
         ·have h := hif.1 hc
          refine Zc <| Z2 I (Zi (v := (.vs 3)) I I) I <| Z2 I (Zi (v := (.int .i64 v3)) I I) I ?_
          have ⟨hg21, h⟩ := Z10 h
          refine Z2 I (st_indexV (k := .i64) (v := (.vs 3)) (n := 3) (off := 0) (len := v11.length) (es := (List.map Z3 v11)) (j := v3) (m := v3.toNat) I s33 I I (vecR_map _ _ _) I hg21 (Nat.zero_add _)) I <| Z2 I (st_fieldV I f38_3 I I) I ?_
          have ⟨hg22, h⟩ := Z10 h
          refine Z2 I (st_storeV (l := v11) (enc := Z3) (z := Z1) (a := (⟨(v11.getD v3.toNat Z1).Trace, (v11.getD v3.toNat Z1).Id, (v11.getD v3.toNat Z1).Parent, 1, (v11.getD v3.toNat Z1).Clock, (v11.getD v3.toNat Z1).Kind, (v11.getD v3.toNat Z1).Service, (v11.getD v3.toNat Z1).Version, (v11.getD v3.toNat Z1).Operation, (v11.getD v3.toNat Z1).Start, (v11.getD v3.toNat Z1).End, (v11.getD v3.toNat Z1).Error, (v11.getD v3.toNat Z1).Attrs, (v11.getD v3.toNat Z1).Links⟩ : Zd)) (v := (.int .i64 1)) sz3 I I hg22 I els_Tapi_Span I I I I) I <| Zf ?_
          exact Zw (st' := ⟨[(1, (.ptr 1 0)), (3, (.vs 3)), (4, (.int .i64 v3)), (5, (.int .i64 v10))], [(1, (.box (Z9 a0).cells)), (3, (.vec 14 (List.map Z3 (v11.set v3.toNat (⟨(v11.getD v3.toNat Z1).Trace, (v11.getD v3.toNat Z1).Id, (v11.getD v3.toNat Z1).Parent, 1, (v11.getD v3.toNat Z1).Clock, (v11.getD v3.toNat Z1).Kind, (v11.getD v3.toNat Z1).Service, (v11.getD v3.toNat Z1).Version, (v11.getD v3.toNat Z1).Operation, (v11.getD v3.toNat Z1).Start, (v11.getD v3.toNat Z1).End, (v11.getD v3.toNat Z1).Error, (v11.getD v3.toNat Z1).Attrs, (v11.getD v3.toNat Z1).Links⟩ : Zd)))))]⟩) ⟨rfl, rfl, rfl, rfl, trivial⟩ ⟨rfl, rfl, trivial⟩ (J20 (v11.set v3.toNat (⟨(v11.getD v3.toNat Z1).Trace, (v11.getD v3.toNat Z1).Id, (v11.getD v3.toNat Z1).Parent, 1, (v11.getD v3.toNat Z1).Clock, (v11.getD v3.toNat Z1).Kind, (v11.getD v3.toNat Z1).Service, (v11.getD v3.toNat Z1).Version, (v11.getD v3.toNat Z1).Operation, (v11.getD v3.toNat Z1).Start, (v11.getD v3.toNat Z1).End, (v11.getD v3.toNat Z1).Error, (v11.getD v3.toNat Z1).Attrs, (v11.getD v3.toNat Z1).Links⟩ : Zd)) h)
         ·have h := hif.2 hc
          refine Z18 ?_
          exact Zw (st' := ⟨[(1, (.ptr 1 0)), (3, (.vs 3)), (4, (.int .i64 v3)), (5, (.int .i64 v10))], [(1, (.box (Z9 a0).cells)), (3, (.vec 14 (List.map Z3 v11)))]⟩) ⟨rfl, rfl, rfl, rfl, trivial⟩ ⟨rfl, rfl, trivial⟩ (J20 v11 h)
       ·intro J18
        refine Z1s mixed <| Z7 0 I (Zq (m := 1) (o := 0) I f46_0 I I) <| Z7 1 I (Z11 (cs := (Z9 a0).cells) (v := (.sl 3 (a0.Trees.map Zs) false)) I o41 I I I) <| Z7 2 I (Zi (v := (.int .i64 v10)) I I) ?_
        have ⟨hg23, h⟩ := Z10 h
        refine Z7 3 I (Z1r (k := .i64) (l := a0.Trees) (enc := Zs) (z := Z5) (n := v10) (cs := (Zs (a0.Trees.getD v10.toNat Z5)).cells) (full := false) I s41 I I hg23 I) <| Z7 4 I (st_fieldI (cs := (Zs (a0.Trees.getD v10.toNat Z5)).cells) (ds := [(.sl 11 ((a0.Trees.getD v10.toNat Z5).Calls.map Zm) false)]) I f102_2 I I I) <| Z7 5 I (st_loadI (cs := [(.sl 11 ((a0.Trees.getD v10.toNat Z5).Calls.map Zm) false)]) (v := (.sl 11 ((a0.Trees.getD v10.toNat Z5).Calls.map Zm) false)) I o100 I I) <| Z7 6 I (stx_len (l := (a0.Trees.getD v10.toNat Z5).Calls) (enc := Zm) I s100 I) <| Z7 7 I (Z1o (k := .i64) (a := ((a0.Trees.getD v10.toNat Z5).Calls.length : Int)) (b := 0) (c := (decide (((a0.Trees.getD v10.toNat Z5).Calls.length : Int) > 0))) I I I I) <| Z7 8 I (Zi (v := (.bool (decide (((a0.Trees.getD v10.toNat Z5).Calls.length : Int) > 0)))) I I) ?_
        have hif := Z1u h
        refine AOpsD.split (fun hc => ?_) (fun hc => ?_)
        ·have h := hif.1 hc
         refine Z12 9 I I I I (Z1b (cs := (Z9 a0).cells) (vs := (Z9 a0).cells) I a46 I I I I) <| Z12 10 I I I I (Zi (v := (.int .i64 v10)) I I) ?_
         have ⟨v25, hv25, h⟩ := Z19 h
         refine Z12 11 I I I I (Z17 (ar := [(Z9 a0), (.int .i64 v10)]) (caps := []) Try.call62 (F62_ok K a0 v10 v25 hv25) I I ⟨rfl, rfl, trivial⟩ I) <| Z12 12 I I I I (Zi (v := (.vs 3)) I I) <| Z12 13 I I I I (Zi (v := (.int .i64 v3)) I I) ?_
         have ⟨hg26, h⟩ := Z10 h
         refine Z12 14 I I I I (st_indexV (k := .i64) (v := (.vs 3)) (n := 3) (off := 0) (len := v11.length) (es := (List.map Z3 v11)) (j := v3) (m := v3.toNat) I s33 I I (vecR_map _ _ _) I hg26 (Nat.zero_add _)) <| Z12 15 I I I I (st_fieldV I f38_0 I I) ?_
         have ⟨hg27, h⟩ := Z10 h
         refine Z12 16 I I I I (st_loadV (l := v11) (enc := Z3) (z := Z1) (v := (.int .i64 (v11.getD v3.toNat Z1).Trace)) I o3 I I hg27 I) <| Z12 17 I I I I (Z1o (k := .i64) (a := v25) (b := (v11.getD v3.toNat Z1).Trace) (c := (v25 == (v11.getD v3.toNat Z1).Trace)) I I I I) <| Z7 18 I (st_pickT (v := (.bool (v25 == (v11.getD v3.toNat Z1).Trace))) I I I) <| Z7 19 I (Zi (v := (.bool (v25 == (v11.getD v3.toNat Z1).Trace))) I I) ?_
         have hif := Z1u h
         refine AOpsD.split (fun hc => ?_) (fun hc => ?_)
         ·have h := hif.1 hc
          refine Z12 20 I I I I (Zq (m := 1) (o := 0) I f46_0 I I) <| Z12 21 I I I I (Z11 (cs := (Z9 a0).cells) (v := (.sl 3 (a0.Trees.map Zs) false)) I o41 I I I) <| Z12 22 I I I I (Zi (v := (.int .i64 v10)) I I) ?_
          have ⟨hg28, h⟩ := Z10 h
          refine Z12 23 I I I I (Z1r (k := .i64) (l := a0.Trees) (enc := Zs) (z := Z5) (n := v10) (cs := (Zs (a0.Trees.getD v10.toNat Z5)).cells) (full := false) I s41 I I hg28 I) <| Z12 24 I I I I (st_fieldI (cs := (Zs (a0.Trees.getD v10.toNat Z5)).cells) (ds := [(.sl 11 ((a0.Trees.getD v10.toNat Z5).Calls.map Zm) false)]) I f102_2 I I I) <| Z12 25 I I I I (st_loadI (cs := [(.sl 11 ((a0.Trees.getD v10.toNat Z5).Calls.map Zm) false)]) (v := (.sl 11 ((a0.Trees.getD v10.toNat Z5).Calls.map Zm) false)) I o100 I I) <| Z12 26 I I I I (Zi (v := (.vs 3)) I I) <| Z12 27 I I I I (Zi (v := (.int .i64 v3)) I I) ?_
          have ⟨hg29, h⟩ := Z10 h
          refine Z12 28 I I I I (st_indexV (k := .i64) (v := (.vs 3)) (n := 3) (off := 0) (len := v11.length) (es := (List.map Z3 v11)) (j := v3) (m := v3.toNat) I s33 I I (vecR_map _ _ _) I hg29 (Nat.zero_add _)) <| Z12 29 I I I I (st_fieldV I f38_1 I I) ?_
          have ⟨hg30, h⟩ := Z10 h
          refine Z12 30 I I I I (st_loadV (l := v11) (enc := Z3) (z := Z1) (v := (.int .i64 (v11.getD v3.toNat Z1).Id)) I o3 I I hg30 I) <| Z12 31 I I I I (Z1h (k := .i64) (a := (v11.getD v3.toNat Z1).Id) (b := 1) (c := (IntKind.i64.wrap ((v11.getD v3.toNat Z1).Id - 1))) I I I I) ?_
          have ⟨hg31, h⟩ := Z10 h
          refine Z12 32 I I I I (Z1r (k := .i64) (l := (a0.Trees.getD v10.toNat Z5).Calls) (enc := Zm) (z := Z4) (n := (IntKind.i64.wrap ((v11.getD v3.toNat Z1).Id - 1))) (cs := (Zm ((a0.Trees.getD v10.toNat Z5).Calls.getD (IntKind.i64.wrap ((v11.getD v3.toNat Z1).Id - 1)).toNat Z4)).cells) (full := false) I s100 I I hg31 I) <| Z12 33 I I I I (st_fieldI (cs := (Zm ((a0.Trees.getD v10.toNat Z5).Calls.getD (IntKind.i64.wrap ((v11.getD v3.toNat Z1).Id - 1)).toNat Z4)).cells) (ds := [(.int .u8 ((a0.Trees.getD v10.toNat Z5).Calls.getD (IntKind.i64.wrap ((v11.getD v3.toNat Z1).Id - 1)).toNat Z4).Tag), (.bool ((a0.Trees.getD v10.toNat Z5).Calls.getD (IntKind.i64.wrap ((v11.getD v3.toNat Z1).Id - 1)).toNat Z4).Fail)]) I f113_9 I I I) <| Z12 34 I I I I (st_loadI (cs := [(.int .u8 ((a0.Trees.getD v10.toNat Z5).Calls.getD (IntKind.i64.wrap ((v11.getD v3.toNat Z1).Id - 1)).toNat Z4).Tag), (.bool ((a0.Trees.getD v10.toNat Z5).Calls.getD (IntKind.i64.wrap ((v11.getD v3.toNat Z1).Id - 1)).toNat Z4).Fail)]) (v := (.int .u8 ((a0.Trees.getD v10.toNat Z5).Calls.getD (IntKind.i64.wrap ((v11.getD v3.toNat Z1).Id - 1)).toNat Z4).Tag)) I o5 I I) <| Z12 35 I I I I (st_div (k := .u8) (a := ((a0.Trees.getD v10.toNat Z5).Calls.getD (IntKind.i64.wrap ((v11.getD v3.toNat Z1).Id - 1)).toNat Z4).Tag) (b := 2) (c := (((a0.Trees.getD v10.toNat Z5).Calls.getD (IntKind.i64.wrap ((v11.getD v3.toNat Z1).Id - 1)).toNat Z4).Tag.tmod 2)) I I I I (by decide)) <| Z12 36 I I I I (Z1o (k := .u8) (a := (((a0.Trees.getD v10.toNat Z5).Calls.getD (IntKind.i64.wrap ((v11.getD v3.toNat Z1).Id - 1)).toNat Z4).Tag.tmod 2)) (b := 1) (c := ((((a0.Trees.getD v10.toNat Z5).Calls.getD (IntKind.i64.wrap ((v11.getD v3.toNat Z1).Id - 1)).toNat Z4).Tag.tmod 2) == 1)) I I I I) <| Z7 37 I (st_pickT (v := (.bool ((((a0.Trees.getD v10.toNat Z5).Calls.getD (IntKind.i64.wrap ((v11.getD v3.toNat Z1).Id - 1)).toNat Z4).Tag.tmod 2) == 1))) I I I) <| Z1v (by kernel_rfl) I ?_
          exact Zw (st' := ⟨[(1, (.ptr 1 0)), (3, (.vs 3)), (4, (.int .i64 v3)), (5, (.int .i64 v10)), (58, (.bool ((((a0.Trees.getD v10.toNat Z5).Calls.getD (IntKind.i64.wrap ((v11.getD v3.toNat Z1).Id - 1)).toNat Z4).Tag.tmod 2) == 1)))], [(1, (.box (Z9 a0).cells)), (3, (.vec 14 (List.map Z3 v11)))]⟩) ⟨rfl, rfl, rfl, rfl, rfl, trivial⟩ ⟨rfl, rfl, trivial⟩ (J18 ((((a0.Trees.getD v10.toNat Z5).Calls.getD (IntKind.i64.wrap ((v11.getD v3.toNat Z1).Id - 1)).toNat Z4).Tag.tmod 2) == 1) h)
         ·have h := hif.2 hc
          refine Zx 20 I I I I I I I <| Zx 21 I I I I I I I <| Zx 22 I I I I I I I <| Zx 23 I I I I I I I <| Zx 24 I I I I I I I <| Zx 25 I I I I I I I <| Zx 26 I I I I I I I <| Zx 27 I I I I I I I ?_
          refine Zx 28 I I I I I I I <| Zx 29 I I I I I I I <| Zx 30 I I I I I I I <| Zx 31 I I I I I I I <| Zx 32 I I I I I I I <| Zx 33 I I I I I I I <| Zx 34 I I I I I I I <| Zx 35 I I I I I I I ?_
          refine Zx 36 I I I I I I I <| Z7 37 I (Z1p (v := (.bool false)) I I I) <| Z1v (by kernel_rfl) I ?_
          exact Zw (st' := ⟨[(1, (.ptr 1 0)), (3, (.vs 3)), (4, (.int .i64 v3)), (5, (.int .i64 v10)), (58, (.bool false))], [(1, (.box (Z9 a0).cells)), (3, (.vec 14 (List.map Z3 v11)))]⟩) ⟨rfl, rfl, rfl, rfl, rfl, trivial⟩ ⟨rfl, rfl, trivial⟩ (J18 false h)
        ·have h := hif.2 hc
         refine Zx 9 I I I I I I I <| Zx 10 I I I I I I I <| Zx 11 I I I I I I I <| Zx 12 I I I I I I I <| Zx 13 I I I I I I I <| Zx 14 I I I I I I I <| Zx 15 I I I I I I I <| Zx 16 I I I I I I I ?_
         refine Zx 17 I I I I I I I <| Z7 18 I (Z1p (v := (.bool false)) I I I) <| Z7 19 I (Zi (v := (.bool false)) I I) <| Zx 20 I I I I I I I <| Zx 21 I I I I I I I <| Zx 22 I I I I I I I <| Zx 23 I I I I I I I <| Zx 24 I I I I I I I ?_
         refine Zx 25 I I I I I I I <| Zx 26 I I I I I I I <| Zx 27 I I I I I I I <| Zx 28 I I I I I I I <| Zx 29 I I I I I I I <| Zx 30 I I I I I I I <| Zx 31 I I I I I I I <| Zx 32 I I I I I I I ?_
         refine Zx 33 I I I I I I I <| Zx 34 I I I I I I I <| Zx 35 I I I I I I I <| Zx 36 I I I I I I I <| Z7 37 I (Z1p (v := (.bool false)) I I I) <| Z1v (by kernel_rfl) I ?_
         exact Zw (st' := ⟨[(1, (.ptr 1 0)), (3, (.vs 3)), (4, (.int .i64 v3)), (5, (.int .i64 v10)), (58, (.bool false))], [(1, (.box (Z9 a0).cells)), (3, (.vec 14 (List.map Z3 v11)))]⟩) ⟨rfl, rfl, rfl, rfl, rfl, trivial⟩ ⟨rfl, rfl, trivial⟩ (J18 false h)
      ·have h := hif.2 hc
       refine AWp.exit <| At.thru ?_
       exact Zw (st' := ⟨[(1, (.ptr 1 0)), (3, (.vs 3)), (4, (.int .i64 v3))], [(1, (.box (Z9 a0).cells)), (3, (.vec 14 (List.map Z3 v11)))]⟩) ⟨rfl, rfl, rfl, trivial⟩ ⟨rfl, rfl, trivial⟩ (J12 v11 h)
   ·have h := hif.2 hc
    refine AWp.exit <| At.thru ?_
    exact Zw (st' := ⟨[(3, (.vs 3))], [(3, (.vec 14 (List.map Z3 v4)))]⟩) ⟨rfl, trivial⟩ ⟨rfl, trivial⟩ (J5 v4 h)
end Go.AM.Msg
