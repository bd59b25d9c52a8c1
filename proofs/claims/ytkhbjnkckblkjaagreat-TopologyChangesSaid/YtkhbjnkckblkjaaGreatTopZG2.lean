/- What these functions compute, each with its walk: F83, F39, F16, F89, F45, F14, F85, F84, F17_i1, F61, F64, F104, F62, F66. -/
import Derived.Test.YtkhbjnkckblkjaaGreatTopZT
import Derived.Test.YtkhbjnkckblkjaaGreatTopZG0
import Derived.Test.YtkhbjnkckblkjaaGreatTopZG1
namespace Go.AM.TopZ
open Go Go.AM Go.Proofs
set_option maxRecDepth 100000
set_option maxHeartbeats 2000000
def F83_c8 (_K : Nat) (v7 : (List Zg)) : Option ((List Zg)) :=
 some v7
def F83_j15 (_K : Nat) (v5 : (List Zg)) (b10 : Int → (List Zg) → Option ((List Zg))) (v4 : Int) (v14 : Zg) : Option ((List Zg)) :=
 if v5.length + [v14].length ≤ 1073741824 then
 b10 (IntKind.i64.wrap (v4 + 1)) (v5 ++ [v14])
 else none
def F83_j22 (K : Nat) (v5 : (List Zg)) (b10 : Int → (List Zg) → Option ((List Zg))) (v4 : Int) (v13 : Zg) (v21 : Int) : Option ((List Zg)) :=
 F83_j15 K v5 b10 v4 (⟨v13.Trace, v13.Id, v13.Parent, v13.Revision, v13.Clock, v13.Kind, v13.Service, v13.Version, v13.Operation, (IntKind.i64.wrap (v13.Start + v21)), (IntKind.i64.wrap (v13.End + v21)), v13.Error, v13.Attrs, v13.Links⟩ : Zg)
def F83_j20 (K : Nat) (v5 : (List Zg)) (b10 : Int → (List Zg) → Option ((List Zg))) (v4 : Int) (v13 : Zg) (v18 : Int) (v19 : Bool) : Option ((List Zg)) :=
 if v19 = true then
 F83_j22 K v5 b10 v4 v13 (IntKind.i64.wrap (v18 + 500))
 else
 F83_j22 K v5 b10 v4 v13 v18
def F83_l6 (K : Nat) (a1 : Int) (a0 : Zy) (v3 : (List Int) × (List Int)) (a2 : Bool) (c9 : (List Zg) → Option ((List Zg))) : Nat → Int → (List Zg) → Option ((List Zg))
 | 0, _, _ => none
 | k6 + 1, v4, v5 =>
 if (0 : Int) ≤ a1 ∧ a1 < a0.Trees.length then
 if (decide (v4 < ((a0.Trees.getD a1.toNat Zi).Calls.length : Int))) = true then
 (F123 K a0 a1 v4 v3.1 v3.2).bind fun v13 =>
 if (!a2) = true then
 (F124 K a0 v13.Clock).bind fun v18 =>
 if (decide (a0.Wrong > 0)) = true then
 if (((IntKind.i64.wrap a0.Wrong).tmod 8) == v4) = true then
 F83_j20 K v5 (F83_l6 K a1 a0 v3 a2 c9 k6) v4 v13 v18 (((IntKind.i64.wrap ((IntKind.i64.wrap a0.Wrong).tdiv 8)).tmod 3) == a1)
 else
 F83_j20 K v5 (F83_l6 K a1 a0 v3 a2 c9 k6) v4 v13 v18 false
 else
 F83_j20 K v5 (F83_l6 K a1 a0 v3 a2 c9 k6) v4 v13 v18 false
 else
 F83_j15 K v5 (F83_l6 K a1 a0 v3 a2 c9 k6) v4 v13
 else
 c9 v5
 else none
def F83 (K : Nat) (a0 : Zy) (a1 : Int) (a2 : Bool) : Option ((List Zg)) :=
 if (0 : Int) ≤ a1 ∧ a1 < a0.Trees.length then
 (F122 K (a0.Trees.getD a1.toNat Zi)).bind fun v3 =>
 F83_l6 K a1 a0 v3 a2 (F83_c8 K) K 0 []
 else none
theorem F83_ok (K : Nat) (a0 : Zy) (a1 : Int) (a2 : Bool) (r : (List Zg)) (h : F83 K a0 a1 a2 = some r) : ACall P 83 ⟨[(Z1a a0), (.int .i64 a1), (.bool a2)], [], (.sl 14 (r.map Zf) false), [], []⟩ := by
 refine Z1r Tryz.func83 Tryz.results83 rfl Tryz.ntmps83 rfl rfl rfl ?_
 intro E Q hP hN hro hret
 obtain ⟨P', nt', w0, F0, p0, S0, β0, ro0⟩ := E
 simp only at hP hN
 subst hP hN
 dsimp only [argT]
 unfold F83 at h
 refine Zb <| Z4 <| Z1 I (st_box I I I I I) I <| Z1 I (Zj (v := (.sl 14 [] false)) I I) I <| Z8 <| Z9 <| Zb <| Z4 <| Z1 I (Zj (v := (.sl 14 [] true)) I I) I <| Z8 <| Z9 <| Zb <| Z4 <| Z1 I (Zn I f27_0 I I) I <| Z1 I (Zs I o22 I I I) I <| Z1 I (Zh I I) I ?_
 have ⟨hg1, h⟩ := Zx h
 refine Z1 I (Z1s (k := .i64) (l := a0.Trees) (enc := Z1o) (z := Zi) (n := a1) (full := false) I s22 I I hg1 I) I <| Z1 I (st_loadIA I a105 I I I) I ?_
 have ⟨v3, hv3, h⟩ := Z1b h
 refine Z1 I (Z1h (ar := [(Z1o (a0.Trees.getD a1.toNat Zi))]) Tryz.call122 (F122_ok K (a0.Trees.getD a1.toNat Zi) v3 hv3) I I ⟨I, J0⟩ I) I <| Z1 I (Zh I I) I <| Z1 I (st_extract I I I) I <| Z1 I (st_extract I I I) I <| Z1 I (Zj I I) I <| Z1 I (Zj I I) I <| Z8 <| Z9 <| Zb <| Zb <| Z4 <| Z1 I (Zj (v := (.int .i64 0)) I I) I <| Z8 <| Z9 <| AWp.ghost (st' := ⟨[(1, (.int .i64 a1)), (2, (.bool a2)), (3, (.ptr 3 0)), (7, (.vs 7)), (8, (.sl 1 (v3.1.map Z1f) false)), (9, (.sl 1 (v3.2.map Z1f) false)), (10, (.int .i64 0))], [(3, (.box (Z1a a0).cells)), (7, (.vec 14 (List.map Zf ([] : List Zg))))]⟩) (fun a w h => (Z17 _ (ghost_own (k := 7) (m := 7) (sz := 14) I I a w (Z17 ⟨[(7, (.sl 14 [] true)), (1, (.int .i64 a1)), (2, (.bool a2)), (3, (.ptr 3 0)), (8, (.sl 1 (v3.1.map Z1f) false)), (9, (.sl 1 (v3.2.map Z1f) false)), (10, (.int .i64 0))], [(3, (.box (Z1a a0).cells))]⟩ h ⟨I, I, I, I, I, I, I, J0⟩ ⟨I, J0⟩)) ⟨I, I, I, I, I, I, I, J0⟩ ⟨I, I, J0⟩)) <| Z1v (st' := ⟨[(1, (.int .i64 a1)), (2, (.bool a2)), (3, (.ptr 3 0)), (7, (.vs 7)), (8, (.sl 1 (v3.1.map Z1f) false)), (9, (.sl 1 (v3.2.map Z1f) false)), (10, (.int .i64 0))], [(3, (.box (Z1a a0).cells)), (7, (.vec 14 (List.map Zf [])))]⟩) ⟨I, I, I, I, I, I, I, J0⟩ ⟨I, I, J0⟩ ?_
 refine Z1g (V := Int × (List Zg)) (X := (List Zg)) (lp := fun k v => F83_l6 K a1 a0 v3 a2 (F83_c8 K) k v.1 v.2 = some r) (sh := fun v => ⟨[(1, (.int .i64 a1)), (2, (.bool a2)), (3, (.ptr 3 0)), (7, (.vs 7)), (8, (.sl 1 (v3.1.map Z1f) false)), (9, (.sl 1 (v3.2.map Z1f) false)), (10, (.int .i64 v.1))], [(3, (.box (Z1a a0).cells)), (7, (.vec 14 (List.map Zf v.2)))]⟩) (x := fun v => F83_c8 K v = some r) (shx := fun v => ⟨[(7, (.vs 7))], [(7, (.vec 14 (List.map Zf v)))]⟩) (k := K) (v := (0, [])) h ?_ ?_
 ·intro v h
  revert h
  revert v
  intro v7 h
  try dsimp only at h ⊢
  unfold F83_c8 at h
  refine Z9 <| Zb <| Z4 <| Z1 I (Zh I I) I <| Z1 I (Zj I I) I <| Z8 <| Z9 <| Z1e <| At.ghost (st' := ⟨[(6, (.sl 14 (v7.map Zf) false))], []⟩) (fun a w h => (Z17 _ (ghost_freeze (m := 7) (sz := 14) (es := (List.map Zf v7)) a w (Z17 ⟨[(6, (.vs 7))], [(7, (.vec 14 (List.map Zf v7)))]⟩ h ⟨I, J0⟩ ⟨I, J0⟩)) ⟨I, J0⟩ J0)) ?_
  have h := Option.some.inj h
  subst h
  refine (hret _ ?_).1
  exact ⟨[(.sl 14 (v7.map Zf) false)], ⟨I, J0⟩, I, J0⟩
 intro N k6 v h IH6 J6
 obtain ⟨v4, v5⟩ := v
 try dsimp only at h IH6 J6 ⊢
 cases k6 with
 | zero => cases h
 | succ k6 =>
  rw [F83_l6] at h
  refine Zb <| Zb <| Z4 <| Z1 I (Zh I I) I <| Z1 I (Zn I f27_0 I I) I <| Z1 I (Zs I o22 I I I) I <| Z1 I (Zh I I) I ?_
  have ⟨hg11, h⟩ := Zx h
  refine Z1 I (Z1s (k := .i64) (l := a0.Trees) (enc := Z1o) (z := Zi) (n := a1) (full := false) I s22 I I hg11 I) I <| Z1 I (st_fieldI I f105_2 I I I) I <| Z1 I (st_loadI I o103 I I) I <| Z1 I (stx_len (l := (a0.Trees.getD a1.toNat Zi).Calls) (enc := Z1n) I s103 I) I <| Z1 I (Z1y (c := (decide (v4 < ((a0.Trees.getD a1.toNat Zi).Calls.length : Int)))) I I I I) I <| Z8 <| Z9 ?_
  have hif := Z2a h
  refine Z15 I (fun hc => ?_) (fun hc => ?_)
  ·have h := hif.1 hc
   refine Z18 <| Z9 <| Zb <| Z25 <| Zb <| Z4 <| Z1 I (Z1l I a27 I I I I) I ?_
   iterate 4 refine Z1 I (Zh I I) I ?_
   have ⟨v13, hv13, h⟩ := Z1b h
   refine Z1 I (Z1h (ar := [(Z1a a0), (.int .i64 a1), (.int .i64 v4), (.sl 1 (v3.1.map Z1f) false), (.sl 1 (v3.2.map Z1f) false)]) Tryz.call123 (F123_ok K a0 a1 v4 v3.1 v3.2 v13 hv13) I I ⟨I, I, I, I, I, J0⟩ I) I <| Z1 I (Z1z I z56 I I I) I <| Z1 I (Z19 sz56 I I I I I I I I) I <| Z8 <| Z9 <| Zb <| Zb <| Z4 <| Z1 I (Zh I I) I <| Z1 I (st_not I I) I <| Z8 <| Z9 ?_
   refine AWp.join (V := Zg) (lp := fun v => F83_j15 K v5 (F83_l6 K a1 a0 v3 a2 (F83_c8 K) k6) v4 v = some r) (sh := fun v => ⟨[(1, (.int .i64 a1)), (2, (.bool a2)), (3, (.ptr 3 0)), (7, (.vs 7)), (8, (.sl 1 (v3.1.map Z1f) false)), (9, (.sl 1 (v3.2.map Z1f) false)), (10, (.int .i64 v4)), (11, (.ptr 11 0))], [(3, (.box (Z1a a0).cells)), (7, (.vec 14 (List.map Zf v5))), (11, (.box (Zf v).cells))]⟩) ?_ ?_
   ·intro v h
    revert h
    revert v
    intro v14 h
    try dsimp only at h ⊢
    unfold F83_j15 at h
    refine Z9 <| Z4 <| Z1 I (Zh I I) I <| Z1 I (Z1l I a56 I I I I) I <| Z1 I (Z1i (vs := [(Zf v14)]) (enc := Zf) (l := [v14]) I el37 I I ⟨I, J0⟩ I els_Tapi_Span I I I I) I ?_
    have ⟨hg16, h⟩ := Zx h
    refine Z1 I (st_append (m := 7) (enc := Zf) (l := v5) (l' := [v14]) (src := (.vs 79)) (rd := [(79, (.vec 14 (List.map Zf [v14])))]) I I el37 I u37 I I I I (oneRead I) els_Tapi_Span hg16) I <| Z1 I (Zj I I) I <| Z8 <| At.end <| Z9 <| Z4 <| Z1 I (Zh I I) I <| Z1 I (Z1c (k := .i64) (b := 1) (c := (IntKind.i64.wrap (v4 + 1))) I I I I) I <| Z1 I (Zj I I) I <| Z8 ?_
    exact Z1d (IH6 _ ((IntKind.i64.wrap (v4 + 1)), (v5 ++ [v14])) (Nat.lt_succ_self _) h) ⟨I, I, I, I, I, I, I, J0⟩ ⟨I, I, J0⟩
   intro J15
   have hif := Z2a h
   refine Z15 I (fun hc => ?_) (fun hc => ?_)
   ·have h := hif.1 hc
    refine Zb <| Z4 <| Z1 I (Z1l I a27 I I I I) I <| Z1 I (Zn I f56_4 I I) I <| Z1 I (Zs I o3 I I I) I ?_
    have ⟨v18, hv18, h⟩ := Z1b h
    refine Z1 I (Z1h (ar := [(Z1a a0), (.int .i64 v13.Clock)]) Tryz.call124 (F124_ok K a0 v13.Clock v18 hv18) I I ⟨I, I, J0⟩ I) I <| Z1 I (Zj I I) I <| Z8 <| Z9 <| Zb <| Zb ?_
    refine AWp.join (V := Bool) (lp := fun v => F83_j20 K v5 (F83_l6 K a1 a0 v3 a2 (F83_c8 K) k6) v4 v13 v18 v = some r) (sh := fun v => ⟨[(1, (.int .i64 a1)), (2, (.bool a2)), (3, (.ptr 3 0)), (7, (.vs 7)), (8, (.sl 1 (v3.1.map Z1f) false)), (9, (.sl 1 (v3.2.map Z1f) false)), (10, (.int .i64 v4)), (11, (.ptr 11 0)), (12, (.int .i64 v18)), (64, (.bool v))], [(3, (.box (Z1a a0).cells)), (7, (.vec 14 (List.map Zf v5))), (11, (.box (Zf v13).cells))]⟩) ?_ ?_
    ·intro v h
     revert h
     revert v
     intro v19 h
     try dsimp only at h ⊢
     unfold F83_j20 at h
     refine Z9 ?_
     refine AWp.join (V := Int) (lp := fun v => F83_j22 K v5 (F83_l6 K a1 a0 v3 a2 (F83_c8 K) k6) v4 v13 v = some r) (sh := fun v => ⟨[(1, (.int .i64 a1)), (2, (.bool a2)), (3, (.ptr 3 0)), (7, (.vs 7)), (8, (.sl 1 (v3.1.map Z1f) false)), (9, (.sl 1 (v3.2.map Z1f) false)), (10, (.int .i64 v4)), (11, (.ptr 11 0)), (12, (.int .i64 v))], [(3, (.box (Z1a a0).cells)), (7, (.vec 14 (List.map Zf v5))), (11, (.box (Zf v13).cells))]⟩) ?_ ?_
     ·intro v h
      revert h
      revert v
      intro v21 h
      try dsimp only at h ⊢
      unfold F83_j22 at h
      refine Z9 <| Z4 <| Z1 I (Zn I f56_9 I I) I <| Z1 I (Zs I o3 I I I) I <| Z1 I (Zh I I) I <| Z1 I (Z1c (k := .i64) (c := (IntKind.i64.wrap (v13.Start + v21))) I I I I) I <| Z1 I (Zn I f56_10 I I) I <| Z1 I (Zs I o3 I I I) I <| Z1 I (Zh I I) I <| Z1 I (Z1c (k := .i64) (c := (IntKind.i64.wrap (v13.End + v21))) I I I I) I <| Z1 I (Zn I f56_9 I I) I <| Z1 I (Z19 sz3 I I I I I I I I) I <| Z1 I (Zn I f56_10 I I) I <| Z1 I (Z19 sz3 I I I I I I I I) I <| Z8 ?_
      exact Z1d (J15 (⟨v13.Trace, v13.Id, v13.Parent, v13.Revision, v13.Clock, v13.Kind, v13.Service, v13.Version, v13.Operation, (IntKind.i64.wrap (v13.Start + v21)), (IntKind.i64.wrap (v13.End + v21)), v13.Error, v13.Attrs, v13.Links⟩ : Zg) h) ⟨I, I, I, I, I, I, I, I, J0⟩ ⟨I, I, I, J0⟩
     intro J22
     have hif := Z2a h
     refine Z15 I (fun hc => ?_) (fun hc => ?_)
     ·have h := hif.1 hc
      refine Z4 <| Z1 I (Zh I I) I <| Z1 I (Z1c (k := .i64) (b := 500) (c := (IntKind.i64.wrap (v18 + 500))) I I I I) I <| Z1 I (Zj I I) I <| Z8 ?_
      exact Z1d (J22 (IntKind.i64.wrap (v18 + 500)) h) ⟨I, I, I, I, I, I, I, I, I, J0⟩ ⟨I, I, I, J0⟩
     have h := hif.2 hc
     refine Z18 ?_
     exact Z1d (J22 v18 h) ⟨I, I, I, I, I, I, I, I, I, J0⟩ ⟨I, I, I, J0⟩
    intro J20
    refine Z4 <| Z1 I (Zn I f27_3 I I) I <| Z1 I (Zs I o5 I I I) I <| Z1 I (Z1y (b := 0) (c := (decide (a0.Wrong > 0))) I I I I) I <| Z1 I (Zh I I) I ?_
    have hif := Z2a h
    refine AOps.split (fun hc => ?_) (fun hc => ?_)
    ·have h := hif.1 hc
     refine Z11 I I I I (Zn I f27_3 I I) I <| Z11 I I I I (Zs I o5 I I I) I <| Z11 I I I I (st_conv I us5 u3 I) I <| Z11 I I I I (st_div (b := 8) (c := ((IntKind.i64.wrap a0.Wrong).tmod 8)) I I I I (by decide)) I <| Z11 I I I I (Zh I I) I <| Z11 I I I I (Z1y (c := (((IntKind.i64.wrap a0.Wrong).tmod 8) == v4)) I I I I) I <| Z1 I (st_pickT I I I) I <| Z1 I (Zh I I) I ?_
     have hif := Z2a h
     refine AOps.split (fun hc => ?_) (fun hc => ?_)
     ·have h := hif.1 hc
      refine Z11 I I I I (Zn I f27_3 I I) I <| Z11 I I I I (Zs I o5 I I I) I <| Z11 I I I I (st_conv I us5 u3 I) I <| Z11 I I I I (st_div (b := 8) (c := (IntKind.i64.wrap ((IntKind.i64.wrap a0.Wrong).tdiv 8))) I I I I (by decide)) I <| Z11 I I I I (st_div (b := 3) (c := ((IntKind.i64.wrap ((IntKind.i64.wrap a0.Wrong).tdiv 8)).tmod 3)) I I I I (by decide)) I <| Z11 I I I I (Zh I I) I <| Z11 I I I I (Z1y (c := (((IntKind.i64.wrap ((IntKind.i64.wrap a0.Wrong).tdiv 8)).tmod 3) == a1)) I I I I) I <| Z1 I (st_pickT I I I) I <| Z8 ?_
      exact Z1d (J20 (((IntKind.i64.wrap ((IntKind.i64.wrap a0.Wrong).tdiv 8)).tmod 3) == a1) h) ⟨I, I, I, I, I, I, I, I, I, I, J0⟩ ⟨I, I, I, J0⟩
     have h := hif.2 hc
     iterate 7 refine Z1u I I I I I I I ?_
     refine Z1 I (st_pickF (v := (.bool false)) I I I) I <| Z8 ?_
     exact Z1d (J20 false h) ⟨I, I, I, I, I, I, I, I, I, I, J0⟩ ⟨I, I, I, J0⟩
    have h := hif.2 hc
    iterate 6 refine Z1u I I I I I I I ?_
    refine Z1 I (st_pickF (v := (.bool false)) I I I) I <| Z1 I (Zh (v := (.bool false)) I I) I ?_
    iterate 7 refine Z1u I I I I I I I ?_
    refine Z1 I (st_pickF (v := (.bool false)) I I I) I <| Z8 ?_
    exact Z1d (J20 false h) ⟨I, I, I, I, I, I, I, I, I, I, J0⟩ ⟨I, I, I, J0⟩
   have h := hif.2 hc
   refine Z18 ?_
   exact Z1d (J15 v13 h) ⟨I, I, I, I, I, I, I, I, J0⟩ ⟨I, I, I, J0⟩
  have h := hif.2 hc
  refine Z29 <| At.thru ?_
  exact Z1d (J6 v5 h) ⟨I, J0⟩ ⟨I, J0⟩
def F39_c5 (_K : Nat) (v4 : (List Zo)) : Option ((List Zo)) :=
 some v4
def F39_j9 (_K : Nat) (b7 : Int → (List Zo) → Option ((List Zo))) (v1 : Int) (v8 : (List Zo)) : Option ((List Zo)) :=
 b7 (IntKind.i64.wrap (v1 + 1)) v8
def F39_c18 (K : Nat) (v2 : (List Zo)) (v12 : Int) (v14 : (List Zg)) (b7 : Int → (List Zo) → Option ((List Zo))) (v1 : Int) (v17 : Int) : Option ((List Zo)) :=
 if (0 : Int) ≤ 0 ∧ 0 ≤ v17 ∧ v17 ≤ (v2.length : Nat) then
 if (0 + (0 : Int).toNat) + (v17.toNat - (0 : Int).toNat) ≤ v2.length then
 if (0 + (0 : Int).toNat) + (v17.toNat - (0 : Int).toNat) ≤ v2.length then
 if ([] : List Zo).length + ((v2.drop (0 + (0 : Int).toNat)).take (v17.toNat - (0 : Int).toNat)).length ≤ 1073741824 then
 if ((v2.drop (0 + (0 : Int).toNat)).take (v17.toNat - (0 : Int).toNat)).length + [(⟨v12, 1, v14⟩ : Zo)].length ≤ 1073741824 then
 if (0 : Int) ≤ v17 ∧ v17 ≤ (v2.length : Int) ∧ (v2.length : Int) ≤ (v2.length : Nat) then
 if (0 + v17.toNat) + ((v2.length : Int).toNat - v17.toNat) ≤ v2.length then
 if (0 + v17.toNat) + ((v2.length : Int).toNat - v17.toNat) ≤ v2.length then
 if (((v2.drop (0 + (0 : Int).toNat)).take (v17.toNat - (0 : Int).toNat)) ++ [(⟨v12, 1, v14⟩ : Zo)]).length + ((v2.drop (0 + v17.toNat)).take ((v2.length : Int).toNat - v17.toNat)).length ≤ 1073741824 then
 F39_j9 K b7 v1 ((((v2.drop (0 + (0 : Int).toNat)).take (v17.toNat - (0 : Int).toNat)) ++ [(⟨v12, 1, v14⟩ : Zo)]) ++ ((v2.drop (0 + v17.toNat)).take ((v2.length : Int).toNat - v17.toNat)))
 else none
 else none
 else none
 else none
 else none
 else none
 else none
 else none
 else none
def F39_l16 (K : Nat) (v2 : (List Zo)) (v12 : Int) (c19 : Int → Option ((List Zo))) : Nat → Int → Option ((List Zo))
 | 0, _ => none
 | k16 + 1, v15 =>
 if (decide (v15 > 0)) = true then
 if (0 : Int) ≤ (IntKind.i64.wrap (v15 - 1)) ∧ (IntKind.i64.wrap (v15 - 1)) < (v2.length : Nat) then
 if (IntKind.i64.wrap (v15 - 1)).toNat < v2.length then
 if (decide ((v2.getD (IntKind.i64.wrap (v15 - 1)).toNat Zq).Id > v12)) = true then
 (F39_l16 K v2 v12 c19 k16) (IntKind.i64.wrap (v15 - 1))
 else
 c19 v15
 else none
 else none
 else
 c19 v15
def F39_l3 (K : Nat) (a0 : Zy) (c6 : (List Zo) → Option ((List Zo))) : Nat → Int → (List Zo) → Option ((List Zo))
 | 0, _, _ => none
 | k3 + 1, v1, v2 =>
 if (decide (v1 < (a0.Trees.length : Int))) = true then
 if (0 : Int) ≤ v1 ∧ v1 < a0.Trees.length then
 if (((a0.Trees.getD v1.toNat Zi).Calls.length : Int) == 0) = true then
 F39_j9 K (F39_l3 K a0 c6 k3) v1 v2
 else
 (F82 K a0 v1).bind fun v12 =>
 (F83 K a0 v1 false).bind fun v14 =>
 F39_l16 K v2 v12 (F39_c18 K v2 v12 v14 (F39_l3 K a0 c6 k3) v1) K (v2.length : Int)
 else none
 else
 c6 v2
def F39 (K : Nat) (a0 : Zy) : Option ((List Zo)) :=
 F39_l3 K a0 (F39_c5 K) K 0 []
theorem F39_ok (K : Nat) (a0 : Zy) (r : (List Zo)) (h : F39 K a0 = some r) : ACall P 39 ⟨[(Z1a a0)], [], .vs 2, [(2, .vec 3 (List.map Zp r))], [2]⟩ := by
 refine Z1r Tryz.func39 Tryz.results39 rfl Tryz.ntmps39 rfl rfl rfl ?_
 intro E Q hP hN hro hret
 obtain ⟨P', nt', w0, F0, p0, S0, β0, ro0⟩ := E
 simp only at hP hN
 subst hP hN
 dsimp only [argT]
 unfold F39 at h
 refine Zb <| Z4 <| Z1 I (st_box I I I I I) I <| Z1 I (Zj (v := (.sl 3 [] false)) I I) I <| Z8 <| Z9 <| Zb <| Z4 <| Z1 I (Zj (v := (.sl 3 [] true)) I I) I <| Z8 <| Z9 <| Zb <| Zb <| Z4 <| Z1 I (Zj (v := (.int .i64 0)) I I) I <| Z8 <| Z9 <| AWp.ghost (st' := ⟨[(1, (.ptr 1 0)), (3, (.vs 3)), (4, (.int .i64 0))], [(1, (.box (Z1a a0).cells)), (3, (.vec 3 (List.map Zp ([] : List Zo))))]⟩) (fun a w h => (Z17 _ (ghost_own (k := 3) (m := 3) (sz := 3) I I a w (Z17 ⟨[(3, (.sl 3 [] true)), (1, (.ptr 1 0)), (4, (.int .i64 0))], [(1, (.box (Z1a a0).cells))]⟩ h ⟨I, I, I, J0⟩ ⟨I, J0⟩)) ⟨I, I, I, J0⟩ ⟨I, I, J0⟩)) <| Z1v (st' := ⟨[(1, (.ptr 1 0)), (3, (.vs 3)), (4, (.int .i64 0))], [(1, (.box (Z1a a0).cells)), (3, (.vec 3 (List.map Zp [])))]⟩) ⟨I, I, I, J0⟩ ⟨I, I, J0⟩ ?_
 refine Z1g (V := Int × (List Zo)) (X := (List Zo)) (lp := fun k v => F39_l3 K a0 (F39_c5 K) k v.1 v.2 = some r) (sh := fun v => ⟨[(1, (.ptr 1 0)), (3, (.vs 3)), (4, (.int .i64 v.1))], [(1, (.box (Z1a a0).cells)), (3, (.vec 3 (List.map Zp v.2)))]⟩) (x := fun v => F39_c5 K v = some r) (shx := fun v => ⟨[(3, (.vs 3))], [(3, (.vec 3 (List.map Zp v)))]⟩) (k := K) (v := (0, [])) h ?_ ?_
 ·intro v h
  revert h
  revert v
  intro v4 h
  try dsimp only at h ⊢
  unfold F39_c5 at h
  refine Z9 <| Zb <| Z4 <| Z1 I (Zh I I) I <| Z1 I (Zj I I) I <| Z8 <| Z9 <| Z1e <| At.ghost (st' := ⟨[(2, (.vs 2))], [(2, (.vec 3 (List.map Zp v4)))]⟩) (fun a w h => (Z17 _ (ghost_sw (a := 3) (b := 2) I I a w (Z17 ⟨[(2, (.vs 3))], [(3, (.vec 3 (List.map Zp v4)))]⟩ h ⟨I, J0⟩ ⟨I, J0⟩)) ⟨I, J0⟩ ⟨I, J0⟩)) ?_
  have h := Option.some.inj h
  subst h
  refine (hret _ ?_).1
  exact ⟨[(.vs 2)], ⟨I, J0⟩, I, ⟨I, J0⟩⟩
 intro N k3 v h IH3 J3
 obtain ⟨v1, v2⟩ := v
 try dsimp only at h IH3 J3 ⊢
 cases k3 with
 | zero => cases h
 | succ k3 =>
  rw [F39_l3] at h
  refine Zb <| Zb <| Z4 <| Z1 I (Zh I I) I <| Z1 I (Zn I f27_0 I I) I <| Z1 I (Zs I o22 I I I) I <| Z1 I (stx_len (l := a0.Trees) (enc := Z1o) I s22 I) I <| Z1 I (Z1y (c := (decide (v1 < (a0.Trees.length : Int)))) I I I I) I <| Z8 <| Z9 ?_
  have hif := Z2a h
  refine Z15 I (fun hc => ?_) (fun hc => ?_)
  ·have h := hif.1 hc
   refine Z18 <| Z9 <| Zb ?_
   refine AWp.blockJoin (V := (List Zo)) (lp := fun v => F39_j9 K (F39_l3 K a0 (F39_c5 K) k3) v1 v = some r) (sh := fun v => ⟨[(1, (.ptr 1 0)), (3, (.vs 3)), (4, (.int .i64 v1))], [(1, (.box (Z1a a0).cells)), (3, (.vec 3 (List.map Zp v)))]⟩) ?_ ?_
   ·intro v h
    revert h
    revert v
    intro v8 h
    try dsimp only at h ⊢
    unfold F39_j9 at h
    refine Z9 <| Z4 <| Z1 I (Zh I I) I <| Z1 I (Z1c (k := .i64) (b := 1) (c := (IntKind.i64.wrap (v1 + 1))) I I I I) I <| Z1 I (Zj I I) I <| Z8 ?_
    exact Z1d (IH3 _ ((IntKind.i64.wrap (v1 + 1)), v8) (Nat.lt_succ_self _) h) ⟨I, I, I, J0⟩ ⟨I, I, J0⟩
   intro J9
   refine Zb <| Zb <| Z4 <| Z1 I (Zn I f27_0 I I) I <| Z1 I (Zs I o22 I I I) I <| Z1 I (Zh I I) I ?_
   have ⟨hg10, h⟩ := Zx h
   refine Z1 I (Z1s (k := .i64) (l := a0.Trees) (enc := Z1o) (z := Zi) (n := v1) (full := false) I s22 I I hg10 I) I <| Z1 I (st_fieldI I f105_2 I I I) I <| Z1 I (st_loadI I o103 I I) I <| Z1 I (stx_len (l := (a0.Trees.getD v1.toNat Zi).Calls) (enc := Z1n) I s103 I) I <| Z1 I (Z1y (b := 0) (c := (((a0.Trees.getD v1.toNat Zi).Calls.length : Int) == 0)) I I I I) I <| Z8 <| Z9 ?_
   have hif := Z2a h
   refine Z15 I (fun hc => ?_) (fun hc => ?_)
   ·have h := hif.1 hc
    refine Z29 <| At.thru <| At.out ?_
    exact Z1d (J9 v2 h) ⟨I, I, I, J0⟩ ⟨I, I, J0⟩
   have h := hif.2 hc
   refine Z18 <| Z9 <| Zb <| Z1t mixed <| Z3 0 I (Z1l I a27 I I I I) <| Z3 1 I (Zh I I) ?_
   have ⟨v12, hv12, h⟩ := Z1b h
   refine Z3 2 I (Z1h (ar := [(Z1a a0), (.int .i64 v1)]) Tryz.call82 (F82_ok K a0 v1 v12 hv12) I I ⟨I, I, J0⟩ I) <| Z3 3 I (Z1l I a27 I I I I) <| Z3 4 I (Zh I I) ?_
   have ⟨v14, hv14, h⟩ := Z1b h
   refine Z3 5 I (Z1h (ar := [(Z1a a0), (.int .i64 v1), (.bool false)]) Tryz.call83 (F83_ok K a0 v1 false v14 hv14) I I ⟨I, I, I, J0⟩ I) <| Z3 6 I (stx_build (vs := [(0, (.int .i64 v12)), (1, (.int .i64 1)), (2, (.sl 14 (v14.map Zf) false))]) I st39 ⟨I, I, I, I, I, I, J0⟩ I) <| Z3 7 I (Z1z I z39 I I I) <| Z3 8 I (Z19 sz39 I I I I I I I I) <| Z21 (by kernel_rfl) I <| Z9 <| Zb <| Z4 <| Z1 I (Zh I I) I <| Z1 I (stx_lenV I u31 I I) I <| Z1 I (Zj I I) I <| Z8 <| Z9 <| Zb <| Z1v (st' := ⟨[(1, (.ptr 1 0)), (3, (.vs 3)), (4, (.int .i64 v1)), (5, (.ptr 5 0)), (6, (.int .i64 (v2.length : Int)))], [(1, (.box (Z1a a0).cells)), (3, (.vec 3 (List.map Zp v2))), (5, (.box [(.int .i64 v12), (.int .i64 1), (.sl 14 (v14.map Zf) false)]))]⟩) ⟨I, I, I, I, I, J0⟩ ⟨I, I, I, J0⟩ ?_
   refine Z1g (V := Int) (X := Int) (lp := fun k v => F39_l16 K v2 v12 (F39_c18 K v2 v12 v14 (F39_l3 K a0 (F39_c5 K) k3) v1) k v = some r) (sh := fun v => ⟨[(1, (.ptr 1 0)), (3, (.vs 3)), (4, (.int .i64 v1)), (5, (.ptr 5 0)), (6, (.int .i64 v))], [(1, (.box (Z1a a0).cells)), (3, (.vec 3 (List.map Zp v2))), (5, (.box [(.int .i64 v12), (.int .i64 1), (.sl 14 (v14.map Zf) false)]))]⟩) (x := fun v => F39_c18 K v2 v12 v14 (F39_l3 K a0 (F39_c5 K) k3) v1 v = some r) (shx := fun v => ⟨[(1, (.ptr 1 0)), (3, (.vs 3)), (4, (.int .i64 v1)), (5, (.ptr 5 0)), (6, (.int .i64 v))], [(1, (.box (Z1a a0).cells)), (3, (.vec 3 (List.map Zp v2))), (5, (.box [(.int .i64 v12), (.int .i64 1), (.sl 14 (v14.map Zf) false)]))]⟩) (k := K) (v := (v2.length : Int)) h ?_ ?_
   ·intro v h
    revert h
    revert v
    intro v17 h
    try dsimp only at h ⊢
    unfold F39_c18 at h
    refine Z9 <| Z1t mixed <| Z3 0 I (Z1i (vs := []) (enc := Zp) (l := ([] : List Zo)) I el31 I I J0 I els_Tapi_Trace I I I I) <| Z3 1 I (Zh I I) <| Z3 2 I (Zh I I) ?_
    have ⟨hg20, h⟩ := Zx h
    have ⟨hg21, h⟩ := Zx h
    refine Z3 3 I (stx_sliceVH (v := (.vs 3)) (n := 3) (off := 0) (len := v2.length) (l := v2) (enc := Zp) (kh := .i64) (hi := v17) I s31 I I (vecR_map _ _ _) I hg20 I) ?_
    have ⟨hg22, h⟩ := Zx h
    have ⟨hg23, h⟩ := Zx h
    refine Z3 4 I (st_append (m := 46) (enc := Zp) (l := ([] : List Zo)) (l' := ((v2.drop (0 + (0 : Int).toNat)).take (v17.toNat - (0 : Int).toNat))) (src := (.vsub 3 (0 + (0 : Int).toNat) (v17.toNat - (0 : Int).toNat) false)) (rd := [(3, (.vec 3 (List.map Zp v2)))]) I I el31 I u31 I I I (srcR_vsub hg22) (oneRead I) els_Tapi_Trace hg23) <| Z3 5 I (Z1l I a39 I I I I) <| Z3 6 I (Z1i (vs := [(.ag [(.int .i64 v12), (.int .i64 1), (.sl 14 (v14.map Zf) false)])]) (enc := Zp) (l := [(⟨v12, 1, v14⟩ : Zo)]) I el31 I I ⟨I, J0⟩ I els_Tapi_Trace I I I I) ?_
    have ⟨hg24, h⟩ := Zx h
    refine Z3 7 I (st_append (m := 46) (enc := Zp) (l := ((v2.drop (0 + (0 : Int).toNat)).take (v17.toNat - (0 : Int).toNat))) (l' := [(⟨v12, 1, v14⟩ : Zo)]) (src := (.vs 52)) (rd := [(52, (.vec 3 (List.map Zp [(⟨v12, 1, v14⟩ : Zo)])))]) I I el31 I u31 I I I I (oneRead I) els_Tapi_Trace hg24) <| Z3 8 I (Zh I I) <| Z3 9 I (Zh I I) ?_
    have ⟨hg25, h⟩ := Zx h
    have ⟨hg26, h⟩ := Zx h
    refine Z3 10 I (stx_sliceVL (v := (.vs 3)) (n := 3) (off := 0) (len := v2.length) (l := v2) (enc := Zp) (kl := .i64) (lo := v17) I s31 I I (vecR_map _ _ _) I hg25 I) ?_
    have ⟨hg27, h⟩ := Zx h
    have ⟨hg28, h⟩ := Zx h
    refine Z3 11 I (st_append (m := 46) (enc := Zp) (l := (((v2.drop (0 + (0 : Int).toNat)).take (v17.toNat - (0 : Int).toNat)) ++ [(⟨v12, 1, v14⟩ : Zo)])) (l' := ((v2.drop (0 + v17.toNat)).take ((v2.length : Int).toNat - v17.toNat))) (src := (.vsub 3 (0 + v17.toNat) ((v2.length : Int).toNat - v17.toNat) false)) (rd := [(3, (.vec 3 (List.map Zp v2)))]) I I el31 I u31 I I I (srcR_vsub hg27) (oneRead I) els_Tapi_Trace hg28) <| Z3 12 I (Zj I I) <| Z21 (by kernel_rfl) I <| At.end <| At.ghost (st' := ⟨[(1, (.ptr 1 0)), (3, (.vs 3)), (4, (.int .i64 v1))], [(1, (.box (Z1a a0).cells)), (3, (.vec 3 (List.map Zp ((((v2.drop (0 + (0 : Int).toNat)).take (v17.toNat - (0 : Int).toNat)) ++ [(⟨v12, 1, v14⟩ : Zo)]) ++ ((v2.drop (0 + v17.toNat)).take ((v2.length : Int).toNat - v17.toNat))))))]⟩) (fun a w h => (Z17 _ (ghost_sw (a := 46) (b := 3) I I a w (Z17 ⟨[(1, (.ptr 1 0)), (3, (.vs 46)), (4, (.int .i64 v1))], [(1, (.box (Z1a a0).cells)), (46, (.vec 3 (List.map Zp ((((v2.drop (0 + (0 : Int).toNat)).take (v17.toNat - (0 : Int).toNat)) ++ [(⟨v12, 1, v14⟩ : Zo)]) ++ ((v2.drop (0 + v17.toNat)).take ((v2.length : Int).toNat - v17.toNat))))))]⟩ h ⟨I, I, I, J0⟩ ⟨I, I, J0⟩)) ⟨I, I, I, J0⟩ ⟨I, I, J0⟩)) ?_
    exact Z1d (J9 ((((v2.drop (0 + (0 : Int).toNat)).take (v17.toNat - (0 : Int).toNat)) ++ [(⟨v12, 1, v14⟩ : Zo)]) ++ ((v2.drop (0 + v17.toNat)).take ((v2.length : Int).toNat - v17.toNat))) h) ⟨I, I, I, J0⟩ ⟨I, I, J0⟩
   intro N k16 v h IH16 J16
   revert h
   revert v
   intro v15 h
   try dsimp only at h IH16 J16 ⊢
   cases k16 with
   | zero => cases h
   | succ k16 =>
    rw [F39_l16] at h
    refine Zb <| Zb <| Z1t mixed <| Z3 0 I (Zh I I) <| Z3 1 I (Z1y (b := 0) (c := (decide (v15 > 0))) I I I I) <| Z3 2 I (Zh I I) ?_
    have hif := Z2a h
    refine AOpsD.split (fun hc => ?_) (fun hc => ?_)
    ·have h := hif.1 hc
     refine Z16 3 I I I I (Zh I I) <| Z16 4 I I I I (Zh I I) <| Z16 5 I I I I (Z1c (k := .i64) (b := 1) (c := (IntKind.i64.wrap (v15 - 1))) I I I I) ?_
     have ⟨hg30, h⟩ := Zx h
     refine Z16 6 I I I I (st_indexV (k := .i64) (v := (.vs 3)) (n := 3) (off := 0) (len := v2.length) (es := (List.map Zp v2)) (j := (IntKind.i64.wrap (v15 - 1))) (m := (IntKind.i64.wrap (v15 - 1)).toNat) I s31 I I (vecR_map _ _ _) I hg30 (Nat.zero_add _)) <| Z16 7 I I I I (st_fieldV I f39_0 I I) ?_
     have ⟨hg31, h⟩ := Zx h
     refine Z16 8 I I I I (st_loadV (l := v2) (enc := Zp) (z := Zq) (v := (.int .i64 (v2.getD (IntKind.i64.wrap (v15 - 1)).toNat Zq).Id)) I o3 I I hg31 I) <| Z16 9 I I I I (Zn I f39_0 I I) <| Z16 10 I I I I (Zs I o3 I I I) <| Z16 11 I I I I (Z1y (c := (decide ((v2.getD (IntKind.i64.wrap (v15 - 1)).toNat Zq).Id > v12))) I I I I) <| Z3 12 I (st_pickT I I I) <| Z21 (by kernel_rfl) I <| Z9 ?_
     have hif := Z2a h
     refine Z15 I (fun hc => ?_) (fun hc => ?_)
     ·have h := hif.1 hc
      refine Z18 <| Z9 <| Z25 <| Z4 <| Z1 I (Zh I I) I <| Z1 I (Z1c (k := .i64) (b := 1) (c := (IntKind.i64.wrap (v15 - 1))) I I I I) I <| Z1 I (Zj I I) I <| Z8 <| At.end ?_
      exact Z1d (IH16 _ (IntKind.i64.wrap (v15 - 1)) (Nat.lt_succ_self _) h) ⟨I, I, I, I, I, J0⟩ ⟨I, I, I, J0⟩
     have h := hif.2 hc
     refine Z29 <| At.thru ?_
     exact Z1d (J16 v15 h) ⟨I, I, I, I, I, J0⟩ ⟨I, I, I, J0⟩
    have h := hif.2 hc
    refine Z14 3 I I I I I I I <| Z14 4 I I I I I I I <| Z14 5 I I I I I I I <| Z14 6 I I I I I I I <| Z14 7 I I I I I I I <| Z14 8 I I I I I I I <| Z14 9 I I I I I I I <| Z14 10 I I I I I I I <| Z14 11 I I I I I I I <| Z3 12 I (st_pickF (v := (.bool false)) I I I) <| Z21 (by kernel_rfl) I <| Z9 ?_
    refine Z15 (b := false) I (fun hc => ?_) (fun hc => ?_)
    ·cases hc
    refine Z29 <| At.thru ?_
    exact Z1d (J16 v15 h) ⟨I, I, I, I, I, J0⟩ ⟨I, I, I, J0⟩
  have h := hif.2 hc
  refine Z29 <| At.thru ?_
  exact Z1d (J3 v2 h) ⟨I, J0⟩ ⟨I, J0⟩
def F16 (_K : Nat) (a0 : Int) : Option (Int) :=
 if (0 : Int) ≤ 20 then
 some (a0.fdiv (2 ^ (min (20 : Int).toNat IntKind.i64.bits)))
 else none
theorem F16_ok (K : Nat) (a0 : Int) (r : Int) (h : F16 K a0 = some r) : ACall P 16 ⟨[(.int .i64 a0)], [], (.int .i64 r), [], []⟩ := by
 refine Z1r Tryz.func16 Tryz.results16 rfl Tryz.ntmps16 rfl rfl rfl ?_
 intro E Q hP hN hro hret
 obtain ⟨P', nt', w0, F0, p0, S0, β0, ro0⟩ := E
 simp only at hP hN
 subst hP hN
 dsimp only [argT]
 unfold F16 at h
 refine Zb <| Z4 <| Z1 I (Zj (v := (.int .i64 0)) I I) I <| Z8 <| Z9 <| Zb <| Z4 <| Z1 I (Zh I I) I ?_
 have ⟨hg1, h⟩ := Zx h
 refine Z1 I (st_shift (k := .i64) (j := .u64) (a := a0) (b := 20) (c := (a0.fdiv (2 ^ (min (20 : Int).toNat IntKind.i64.bits)))) I I I I hg1) I <| Z1 I (Zj I I) I <| Z8 <| Z9 <| Z1e ?_
 have h := Option.some.inj h
 subst h
 refine (hret _ ?_).1
 exact ⟨[(.int .i64 (a0.fdiv (2 ^ (min (20 : Int).toNat IntKind.i64.bits))))], ⟨I, J0⟩, I, J0⟩
def F89 (_K : Nat) (a0 : (List Zg)) : Option ((List Zg)) :=
 if ([] : List Zg).length + a0.length ≤ 1073741824 then
 some a0
 else none
theorem F89_ok (K : Nat) (a0 : (List Zg)) (r : (List Zg)) (h : F89 K a0 = some r) : ACall P 89 ⟨[(.sl 14 (a0.map Zf) false)], [], .vs 2, [(2, .vec 14 (List.map Zf r))], [2]⟩ := by
 refine Z1r Tryz.func89 Tryz.results89 rfl Tryz.ntmps89 rfl rfl rfl ?_
 intro E Q hP hN hro hret
 obtain ⟨P', nt', w0, F0, p0, S0, β0, ro0⟩ := E
 simp only at hP hN
 subst hP hN
 dsimp only [argT]
 unfold F89 at h
 refine Zb <| Z4 <| Z1 I (Zj (v := (.sl 14 [] true)) I I) I <| Z8 <| Z9 <| Zb <| Zb <| Z4 <| Z1 I (Zh I I) I ?_
 refine AOps.consNil (enc := Zf) (es := a0) (full := false) I u37 I (fun x1 hbx1 => ?_)
 refine Z8 <| Z9 ?_
 refine Z15 I (fun hc => ?_) (fun hc => ?_)
 ·have hz := hbx1 hc
  have h : (some []) = some r := by simp only [hz] at h ⊢; simpa using h
  refine Zb <| Z4 <| Z1 I (Zj (v := (.sl 14 [] true)) I I) I <| Z8 <| Z9 <| Z1e <| Z1m <| At.ghost (st' := ⟨[(2, (.vs 2))], [(2, (.vec 14 (List.map Zf ([] : List Zg))))]⟩) (fun a w h => (Z17 _ (ghost_own (k := 2) (m := 2) (sz := 14) I I a w (Z17 ⟨[(2, (.sl 14 [] true))], []⟩ h ⟨I, J0⟩ J0)) ⟨I, J0⟩ ⟨I, J0⟩)) ?_
  have h := Option.some.inj h
  subst h
  refine (hret _ ?_).1
  exact ⟨[(.vs 2)], ⟨I, J0⟩, I, ⟨I, J0⟩⟩
 refine Z18 <| Z9 <| Zb <| Z4 <| Z1 I (Z1i (vs := []) (enc := Zf) (l := ([] : List Zg)) I el37 I I J0 I els_Tapi_Span I I I I) I <| Z1 I (Zh I I) I ?_
 have ⟨hg2, h⟩ := Zx h
 refine Z1 I (st_append (m := 5) (enc := Zf) (l := ([] : List Zg)) (l' := a0) (src := (.sl 14 (a0.map Zf) false)) (rd := []) I I el37 I u37 I I I ⟨I, I, I⟩ noReads els_Tapi_Span hg2) I <| Z1 I (Zj I I) I <| Z8 <| Z9 <| Z1e <| At.ghost (st' := ⟨[(2, (.vs 2))], [(2, (.vec 14 (List.map Zf a0)))]⟩) (fun a w h => (Z17 _ (ghost_sw (a := 5) (b := 2) I I a w (Z17 ⟨[(2, (.vs 5))], [(5, (.vec 14 (List.map Zf a0)))]⟩ h ⟨I, J0⟩ ⟨I, J0⟩)) ⟨I, J0⟩ ⟨I, J0⟩)) ?_
 have h := Option.some.inj h
 subst h
 refine (hret _ ?_).1
 exact ⟨[(.vs 2)], ⟨I, J0⟩, I, ⟨I, J0⟩⟩
def F45_c7 (_K : Nat) (v6 : (List Zg)) : Option ((List Zg)) :=
 some v6
def F45_l5 (K : Nat) (v2 : (List Zg)) (c8 : (List Zg) → Option ((List Zg))) : Nat → Int → (List Zg) → Option ((List Zg))
 | 0, _, _ => none
 | k5 + 1, v3, v4 =>
 if (decide (v3 < (v2.length : Int))) = true then
 if (0 : Int) ≤ v3 ∧ v3 < (v4.length : Nat) then
 if v3.toNat < v4.length then
 (F90 K (v4.getD v3.toNat Z2).Attrs).bind fun v13 =>
 (F91 K (v4.getD v3.toNat Z2).Links).bind fun v15 =>
 if (0 : Int) ≤ v3 ∧ v3 < (v4.length : Nat) then
 if v3.toNat < v4.length then
 if (0 : Int) ≤ v3 ∧ v3 < ((v4.set v3.toNat (⟨(v4.getD v3.toNat Z2).Trace, (v4.getD v3.toNat Z2).Id, (v4.getD v3.toNat Z2).Parent, (v4.getD v3.toNat Z2).Revision, (v4.getD v3.toNat Z2).Clock, (v4.getD v3.toNat Z2).Kind, (v4.getD v3.toNat Z2).Service, (v4.getD v3.toNat Z2).Version, (v4.getD v3.toNat Z2).Operation, (v4.getD v3.toNat Z2).Start, (v4.getD v3.toNat Z2).End, (v4.getD v3.toNat Z2).Error, v13, (v4.getD v3.toNat Z2).Links⟩ : Zg)).length : Nat) then
 if v3.toNat < (v4.set v3.toNat (⟨(v4.getD v3.toNat Z2).Trace, (v4.getD v3.toNat Z2).Id, (v4.getD v3.toNat Z2).Parent, (v4.getD v3.toNat Z2).Revision, (v4.getD v3.toNat Z2).Clock, (v4.getD v3.toNat Z2).Kind, (v4.getD v3.toNat Z2).Service, (v4.getD v3.toNat Z2).Version, (v4.getD v3.toNat Z2).Operation, (v4.getD v3.toNat Z2).Start, (v4.getD v3.toNat Z2).End, (v4.getD v3.toNat Z2).Error, v13, (v4.getD v3.toNat Z2).Links⟩ : Zg)).length then
 (F45_l5 K v2 c8 k5) (IntKind.i64.wrap (v3 + 1)) ((v4.set v3.toNat (⟨(v4.getD v3.toNat Z2).Trace, (v4.getD v3.toNat Z2).Id, (v4.getD v3.toNat Z2).Parent, (v4.getD v3.toNat Z2).Revision, (v4.getD v3.toNat Z2).Clock, (v4.getD v3.toNat Z2).Kind, (v4.getD v3.toNat Z2).Service, (v4.getD v3.toNat Z2).Version, (v4.getD v3.toNat Z2).Operation, (v4.getD v3.toNat Z2).Start, (v4.getD v3.toNat Z2).End, (v4.getD v3.toNat Z2).Error, v13, (v4.getD v3.toNat Z2).Links⟩ : Zg)).set v3.toNat (⟨((v4.set v3.toNat (⟨(v4.getD v3.toNat Z2).Trace, (v4.getD v3.toNat Z2).Id, (v4.getD v3.toNat Z2).Parent, (v4.getD v3.toNat Z2).Revision, (v4.getD v3.toNat Z2).Clock, (v4.getD v3.toNat Z2).Kind, (v4.getD v3.toNat Z2).Service, (v4.getD v3.toNat Z2).Version, (v4.getD v3.toNat Z2).Operation, (v4.getD v3.toNat Z2).Start, (v4.getD v3.toNat Z2).End, (v4.getD v3.toNat Z2).Error, v13, (v4.getD v3.toNat Z2).Links⟩ : Zg)).getD v3.toNat Z2).Trace, ((v4.set v3.toNat (⟨(v4.getD v3.toNat Z2).Trace, (v4.getD v3.toNat Z2).Id, (v4.getD v3.toNat Z2).Parent, (v4.getD v3.toNat Z2).Revision, (v4.getD v3.toNat Z2).Clock, (v4.getD v3.toNat Z2).Kind, (v4.getD v3.toNat Z2).Service, (v4.getD v3.toNat Z2).Version, (v4.getD v3.toNat Z2).Operation, (v4.getD v3.toNat Z2).Start, (v4.getD v3.toNat Z2).End, (v4.getD v3.toNat Z2).Error, v13, (v4.getD v3.toNat Z2).Links⟩ : Zg)).getD v3.toNat Z2).Id, ((v4.set v3.toNat (⟨(v4.getD v3.toNat Z2).Trace, (v4.getD v3.toNat Z2).Id, (v4.getD v3.toNat Z2).Parent, (v4.getD v3.toNat Z2).Revision, (v4.getD v3.toNat Z2).Clock, (v4.getD v3.toNat Z2).Kind, (v4.getD v3.toNat Z2).Service, (v4.getD v3.toNat Z2).Version, (v4.getD v3.toNat Z2).Operation, (v4.getD v3.toNat Z2).Start, (v4.getD v3.toNat Z2).End, (v4.getD v3.toNat Z2).Error, v13, (v4.getD v3.toNat Z2).Links⟩ : Zg)).getD v3.toNat Z2).Parent, ((v4.set v3.toNat (⟨(v4.getD v3.toNat Z2).Trace, (v4.getD v3.toNat Z2).Id, (v4.getD v3.toNat Z2).Parent, (v4.getD v3.toNat Z2).Revision, (v4.getD v3.toNat Z2).Clock, (v4.getD v3.toNat Z2).Kind, (v4.getD v3.toNat Z2).Service, (v4.getD v3.toNat Z2).Version, (v4.getD v3.toNat Z2).Operation, (v4.getD v3.toNat Z2).Start, (v4.getD v3.toNat Z2).End, (v4.getD v3.toNat Z2).Error, v13, (v4.getD v3.toNat Z2).Links⟩ : Zg)).getD v3.toNat Z2).Revision, ((v4.set v3.toNat (⟨(v4.getD v3.toNat Z2).Trace, (v4.getD v3.toNat Z2).Id, (v4.getD v3.toNat Z2).Parent, (v4.getD v3.toNat Z2).Revision, (v4.getD v3.toNat Z2).Clock, (v4.getD v3.toNat Z2).Kind, (v4.getD v3.toNat Z2).Service, (v4.getD v3.toNat Z2).Version, (v4.getD v3.toNat Z2).Operation, (v4.getD v3.toNat Z2).Start, (v4.getD v3.toNat Z2).End, (v4.getD v3.toNat Z2).Error, v13, (v4.getD v3.toNat Z2).Links⟩ : Zg)).getD v3.toNat Z2).Clock, ((v4.set v3.toNat (⟨(v4.getD v3.toNat Z2).Trace, (v4.getD v3.toNat Z2).Id, (v4.getD v3.toNat Z2).Parent, (v4.getD v3.toNat Z2).Revision, (v4.getD v3.toNat Z2).Clock, (v4.getD v3.toNat Z2).Kind, (v4.getD v3.toNat Z2).Service, (v4.getD v3.toNat Z2).Version, (v4.getD v3.toNat Z2).Operation, (v4.getD v3.toNat Z2).Start, (v4.getD v3.toNat Z2).End, (v4.getD v3.toNat Z2).Error, v13, (v4.getD v3.toNat Z2).Links⟩ : Zg)).getD v3.toNat Z2).Kind, ((v4.set v3.toNat (⟨(v4.getD v3.toNat Z2).Trace, (v4.getD v3.toNat Z2).Id, (v4.getD v3.toNat Z2).Parent, (v4.getD v3.toNat Z2).Revision, (v4.getD v3.toNat Z2).Clock, (v4.getD v3.toNat Z2).Kind, (v4.getD v3.toNat Z2).Service, (v4.getD v3.toNat Z2).Version, (v4.getD v3.toNat Z2).Operation, (v4.getD v3.toNat Z2).Start, (v4.getD v3.toNat Z2).End, (v4.getD v3.toNat Z2).Error, v13, (v4.getD v3.toNat Z2).Links⟩ : Zg)).getD v3.toNat Z2).Service, ((v4.set v3.toNat (⟨(v4.getD v3.toNat Z2).Trace, (v4.getD v3.toNat Z2).Id, (v4.getD v3.toNat Z2).Parent, (v4.getD v3.toNat Z2).Revision, (v4.getD v3.toNat Z2).Clock, (v4.getD v3.toNat Z2).Kind, (v4.getD v3.toNat Z2).Service, (v4.getD v3.toNat Z2).Version, (v4.getD v3.toNat Z2).Operation, (v4.getD v3.toNat Z2).Start, (v4.getD v3.toNat Z2).End, (v4.getD v3.toNat Z2).Error, v13, (v4.getD v3.toNat Z2).Links⟩ : Zg)).getD v3.toNat Z2).Version, ((v4.set v3.toNat (⟨(v4.getD v3.toNat Z2).Trace, (v4.getD v3.toNat Z2).Id, (v4.getD v3.toNat Z2).Parent, (v4.getD v3.toNat Z2).Revision, (v4.getD v3.toNat Z2).Clock, (v4.getD v3.toNat Z2).Kind, (v4.getD v3.toNat Z2).Service, (v4.getD v3.toNat Z2).Version, (v4.getD v3.toNat Z2).Operation, (v4.getD v3.toNat Z2).Start, (v4.getD v3.toNat Z2).End, (v4.getD v3.toNat Z2).Error, v13, (v4.getD v3.toNat Z2).Links⟩ : Zg)).getD v3.toNat Z2).Operation, ((v4.set v3.toNat (⟨(v4.getD v3.toNat Z2).Trace, (v4.getD v3.toNat Z2).Id, (v4.getD v3.toNat Z2).Parent, (v4.getD v3.toNat Z2).Revision, (v4.getD v3.toNat Z2).Clock, (v4.getD v3.toNat Z2).Kind, (v4.getD v3.toNat Z2).Service, (v4.getD v3.toNat Z2).Version, (v4.getD v3.toNat Z2).Operation, (v4.getD v3.toNat Z2).Start, (v4.getD v3.toNat Z2).End, (v4.getD v3.toNat Z2).Error, v13, (v4.getD v3.toNat Z2).Links⟩ : Zg)).getD v3.toNat Z2).Start, ((v4.set v3.toNat (⟨(v4.getD v3.toNat Z2).Trace, (v4.getD v3.toNat Z2).Id, (v4.getD v3.toNat Z2).Parent, (v4.getD v3.toNat Z2).Revision, (v4.getD v3.toNat Z2).Clock, (v4.getD v3.toNat Z2).Kind, (v4.getD v3.toNat Z2).Service, (v4.getD v3.toNat Z2).Version, (v4.getD v3.toNat Z2).Operation, (v4.getD v3.toNat Z2).Start, (v4.getD v3.toNat Z2).End, (v4.getD v3.toNat Z2).Error, v13, (v4.getD v3.toNat Z2).Links⟩ : Zg)).getD v3.toNat Z2).End, ((v4.set v3.toNat (⟨(v4.getD v3.toNat Z2).Trace, (v4.getD v3.toNat Z2).Id, (v4.getD v3.toNat Z2).Parent, (v4.getD v3.toNat Z2).Revision, (v4.getD v3.toNat Z2).Clock, (v4.getD v3.toNat Z2).Kind, (v4.getD v3.toNat Z2).Service, (v4.getD v3.toNat Z2).Version, (v4.getD v3.toNat Z2).Operation, (v4.getD v3.toNat Z2).Start, (v4.getD v3.toNat Z2).End, (v4.getD v3.toNat Z2).Error, v13, (v4.getD v3.toNat Z2).Links⟩ : Zg)).getD v3.toNat Z2).Error, ((v4.set v3.toNat (⟨(v4.getD v3.toNat Z2).Trace, (v4.getD v3.toNat Z2).Id, (v4.getD v3.toNat Z2).Parent, (v4.getD v3.toNat Z2).Revision, (v4.getD v3.toNat Z2).Clock, (v4.getD v3.toNat Z2).Kind, (v4.getD v3.toNat Z2).Service, (v4.getD v3.toNat Z2).Version, (v4.getD v3.toNat Z2).Operation, (v4.getD v3.toNat Z2).Start, (v4.getD v3.toNat Z2).End, (v4.getD v3.toNat Z2).Error, v13, (v4.getD v3.toNat Z2).Links⟩ : Zg)).getD v3.toNat Z2).Attrs, v15⟩ : Zg))
 else none
 else none
 else none
 else none
 else none
 else none
 else
 c8 v4
def F45 (K : Nat) (a0 : (List Zg)) : Option ((List Zg)) :=
 (F89 K a0).bind fun v2 =>
 F45_l5 K v2 (F45_c7 K) K 0 v2
theorem F45_ok (K : Nat) (a0 : (List Zg)) (r : (List Zg)) (h : F45 K a0 = some r) : ACall P 45 ⟨[(.sl 14 (a0.map Zf) false)], [], (.sl 14 (r.map Zf) false), [], []⟩ := by
 refine Z1r Tryz.func45 Tryz.results45 rfl Tryz.ntmps45 rfl rfl rfl ?_
 intro E Q hP hN hro hret
 obtain ⟨P', nt', w0, F0, p0, S0, β0, ro0⟩ := E
 simp only at hP hN
 subst hP hN
 dsimp only [argT]
 unfold F45 at h
 refine Zb <| Z4 <| Z1 I (Zj (v := (.sl 14 [] false)) I I) I <| Z8 <| Z9 <| Zb <| Z4 <| Z1 I (Zh I I) I ?_
 have ⟨v2, hv2, h⟩ := Z1b h
 refine Z1 I (st_callO (sz := 14) (es := (List.map Zf v2)) (ar := [(.sl 14 (a0.map Zf) false)]) (caps := []) Tryz.call89 ((F89_ok K a0 v2 hv2).sw 2 7) I I ⟨I, J0⟩ I) I <| Z1 I (Zj I I) I <| Z8 <| Z9 <| Zb <| Zb <| Z4 <| Z1 I (Zh I I) I <| Z1 I (stx_lenV I u37 I I) I <| Z1 I (Zh (v := (.int .i64 0)) I I) I <| Z8 <| Z9 <| AWp.ghost (st' := ⟨[(3, (.vs 3)), (8, (.vs 3)), (9, (.int .i64 (v2.length : Int))), (10, (.int .i64 0))], [(3, (.vec 14 (List.map Zf v2)))]⟩) (fun a w h => (Z17 _ (ghost_sw (a := 7) (b := 3) I I a w (Z17 ⟨[(3, (.vs 7)), (8, (.vs 7)), (9, (.int .i64 (v2.length : Int))), (10, (.int .i64 0))], [(7, (.vec 14 (List.map Zf v2)))]⟩ h ⟨I, I, I, I, J0⟩ ⟨I, J0⟩)) ⟨I, I, I, I, J0⟩ ⟨I, J0⟩)) <| Z1v (st' := ⟨[(3, (.vs 3)), (8, (.vs 3)), (9, (.int .i64 (v2.length : Int))), (10, (.int .i64 0))], [(3, (.vec 14 (List.map Zf v2)))]⟩) ⟨I, I, I, I, J0⟩ ⟨I, J0⟩ ?_
 refine Z1g (V := Int × (List Zg)) (X := (List Zg)) (lp := fun k v => F45_l5 K v2 (F45_c7 K) k v.1 v.2 = some r) (sh := fun v => ⟨[(3, (.vs 3)), (8, (.vs 3)), (9, (.int .i64 (v2.length : Int))), (10, (.int .i64 v.1))], [(3, (.vec 14 (List.map Zf v.2)))]⟩) (x := fun v => F45_c7 K v = some r) (shx := fun v => ⟨[(3, (.vs 3))], [(3, (.vec 14 (List.map Zf v)))]⟩) (k := K) (v := (0, v2)) h ?_ ?_
 ·intro v h
  revert h
  revert v
  intro v6 h
  try dsimp only at h ⊢
  unfold F45_c7 at h
  refine Z9 <| Zb <| Z4 <| Z1 I (Zh I I) I <| Z1 I (Zj I I) I <| Z8 <| Z9 <| Z1e <| At.ghost (st' := ⟨[(2, (.sl 14 (v6.map Zf) false))], []⟩) (fun a w h => (Z17 _ (ghost_freeze (m := 3) (sz := 14) (es := (List.map Zf v6)) a w (Z17 ⟨[(2, (.vs 3))], [(3, (.vec 14 (List.map Zf v6)))]⟩ h ⟨I, J0⟩ ⟨I, J0⟩)) ⟨I, J0⟩ J0)) ?_
  have h := Option.some.inj h
  subst h
  refine (hret _ ?_).1
  exact ⟨[(.sl 14 (v6.map Zf) false)], ⟨I, J0⟩, I, J0⟩
 intro N k5 v h IH5 J5
 obtain ⟨v3, v4⟩ := v
 try dsimp only at h IH5 J5 ⊢
 cases k5 with
 | zero => cases h
 | succ k5 =>
  rw [F45_l5] at h
  refine Zb <| Z4 <| Z1 I (Z1y (c := (decide (v3 < (v2.length : Int)))) I I I I) I <| Z8 <| Z9 <| Zb ?_
  have hif := Z2a h
  refine Z15 I (fun hc => ?_) (fun hc => ?_)
  ·have h := hif.1 hc
   refine Z18 <| Z9 <| Zb <| Z25 <| Zb <| Z4 <| Z1 I (Zh I I) I ?_
   have ⟨hg10, h⟩ := Zx h
   refine Z1 I (st_indexV (k := .i64) (v := (.vs 3)) (n := 3) (off := 0) (len := v4.length) (es := (List.map Zf v4)) (j := v3) (m := v3.toNat) I s37 I I (vecR_map _ _ _) I hg10 (Nat.zero_add _)) I ?_
   have ⟨hg11, h⟩ := Zx h
   refine Z1 I (st_loadVA (l := v4) (enc := Zf) (z := Z2) (vs := (Zf (v4.getD v3.toNat Z2)).cells) I a56 I I hg11 I I) I <| Z1 I (Z1z I z56 I I I) I <| Z1 I (Zj I I) I <| Z1 I (Z19 sz56 I I I I I I I I) I <| Z8 <| Z9 <| Z1t mixed <| Z3 0 I (Zh I I) <| Z3 1 I (Zh I I) <| Z3 2 I (Zh I I) <| Z3 3 I (Zh I I) <| Z3 4 I (Zn I f56_12 I I) <| Z3 5 I (Zs I o53 I I I) ?_
   have ⟨v13, hv13, h⟩ := Z1b h
   refine Z3 6 I (Z1h (ar := [(.sl 4 ((v4.getD v3.toNat Z2).Attrs.map Z1p) false)]) Tryz.call90 (F90_ok K (v4.getD v3.toNat Z2).Attrs v13 hv13) I I ⟨I, J0⟩ I) <| Z3 7 I (Zn I f56_13 I I) <| Z3 8 I (Zs I o54 I I I) ?_
   have ⟨v15, hv15, h⟩ := Z1b h
   refine Z3 9 I (Z1h (ar := [(.sl 2 ((v4.getD v3.toNat Z2).Links.map Z20) false)]) Tryz.call91 (F91_ok K (v4.getD v3.toNat Z2).Links v15 hv15) I I ⟨I, J0⟩ I) ?_
   have ⟨hg16, h⟩ := Zx h
   refine Z3 10 I (st_indexV (k := .i64) (v := (.vs 3)) (n := 3) (off := 0) (len := v4.length) (es := (List.map Zf v4)) (j := v3) (m := v3.toNat) I s37 I I (vecR_map _ _ _) I hg16 (Nat.zero_add _)) <| Z3 11 I (st_fieldV I f56_12 I I) ?_
   have ⟨hg17, h⟩ := Zx h
   refine Z3 12 I (st_storeV (l := v4) (enc := Zf) (z := Z2) (a := (⟨(v4.getD v3.toNat Z2).Trace, (v4.getD v3.toNat Z2).Id, (v4.getD v3.toNat Z2).Parent, (v4.getD v3.toNat Z2).Revision, (v4.getD v3.toNat Z2).Clock, (v4.getD v3.toNat Z2).Kind, (v4.getD v3.toNat Z2).Service, (v4.getD v3.toNat Z2).Version, (v4.getD v3.toNat Z2).Operation, (v4.getD v3.toNat Z2).Start, (v4.getD v3.toNat Z2).End, (v4.getD v3.toNat Z2).Error, v13, (v4.getD v3.toNat Z2).Links⟩ : Zg)) (v := (.sl 4 (v13.map Z1p) false)) sz53 I I hg17 I els_Tapi_Span I I I I) ?_
   have ⟨hg18, h⟩ := Zx h
   refine Z3 13 I (st_indexV (k := .i64) (v := (.vs 3)) (n := 3) (off := 0) (len := (v4.set v3.toNat (⟨(v4.getD v3.toNat Z2).Trace, (v4.getD v3.toNat Z2).Id, (v4.getD v3.toNat Z2).Parent, (v4.getD v3.toNat Z2).Revision, (v4.getD v3.toNat Z2).Clock, (v4.getD v3.toNat Z2).Kind, (v4.getD v3.toNat Z2).Service, (v4.getD v3.toNat Z2).Version, (v4.getD v3.toNat Z2).Operation, (v4.getD v3.toNat Z2).Start, (v4.getD v3.toNat Z2).End, (v4.getD v3.toNat Z2).Error, v13, (v4.getD v3.toNat Z2).Links⟩ : Zg)).length) (es := (List.map Zf (v4.set v3.toNat (⟨(v4.getD v3.toNat Z2).Trace, (v4.getD v3.toNat Z2).Id, (v4.getD v3.toNat Z2).Parent, (v4.getD v3.toNat Z2).Revision, (v4.getD v3.toNat Z2).Clock, (v4.getD v3.toNat Z2).Kind, (v4.getD v3.toNat Z2).Service, (v4.getD v3.toNat Z2).Version, (v4.getD v3.toNat Z2).Operation, (v4.getD v3.toNat Z2).Start, (v4.getD v3.toNat Z2).End, (v4.getD v3.toNat Z2).Error, v13, (v4.getD v3.toNat Z2).Links⟩ : Zg)))) (j := v3) (m := v3.toNat) I s37 I I (vecR_map _ _ _) I hg18 (Nat.zero_add _)) <| Z3 14 I (st_fieldV I f56_13 I I) ?_
   have ⟨hg19, h⟩ := Zx h
   refine Z3 15 I (st_storeV (l := (v4.set v3.toNat (⟨(v4.getD v3.toNat Z2).Trace, (v4.getD v3.toNat Z2).Id, (v4.getD v3.toNat Z2).Parent, (v4.getD v3.toNat Z2).Revision, (v4.getD v3.toNat Z2).Clock, (v4.getD v3.toNat Z2).Kind, (v4.getD v3.toNat Z2).Service, (v4.getD v3.toNat Z2).Version, (v4.getD v3.toNat Z2).Operation, (v4.getD v3.toNat Z2).Start, (v4.getD v3.toNat Z2).End, (v4.getD v3.toNat Z2).Error, v13, (v4.getD v3.toNat Z2).Links⟩ : Zg))) (enc := Zf) (z := Z2) (a := (⟨((v4.set v3.toNat (⟨(v4.getD v3.toNat Z2).Trace, (v4.getD v3.toNat Z2).Id, (v4.getD v3.toNat Z2).Parent, (v4.getD v3.toNat Z2).Revision, (v4.getD v3.toNat Z2).Clock, (v4.getD v3.toNat Z2).Kind, (v4.getD v3.toNat Z2).Service, (v4.getD v3.toNat Z2).Version, (v4.getD v3.toNat Z2).Operation, (v4.getD v3.toNat Z2).Start, (v4.getD v3.toNat Z2).End, (v4.getD v3.toNat Z2).Error, v13, (v4.getD v3.toNat Z2).Links⟩ : Zg)).getD v3.toNat Z2).Trace, ((v4.set v3.toNat (⟨(v4.getD v3.toNat Z2).Trace, (v4.getD v3.toNat Z2).Id, (v4.getD v3.toNat Z2).Parent, (v4.getD v3.toNat Z2).Revision, (v4.getD v3.toNat Z2).Clock, (v4.getD v3.toNat Z2).Kind, (v4.getD v3.toNat Z2).Service, (v4.getD v3.toNat Z2).Version, (v4.getD v3.toNat Z2).Operation, (v4.getD v3.toNat Z2).Start, (v4.getD v3.toNat Z2).End, (v4.getD v3.toNat Z2).Error, v13, (v4.getD v3.toNat Z2).Links⟩ : Zg)).getD v3.toNat Z2).Id, ((v4.set v3.toNat (⟨(v4.getD v3.toNat Z2).Trace, (v4.getD v3.toNat Z2).Id, (v4.getD v3.toNat Z2).Parent, (v4.getD v3.toNat Z2).Revision, (v4.getD v3.toNat Z2).Clock, (v4.getD v3.toNat Z2).Kind, (v4.getD v3.toNat Z2).Service, (v4.getD v3.toNat Z2).Version, (v4.getD v3.toNat Z2).Operation, (v4.getD v3.toNat Z2).Start, (v4.getD v3.toNat Z2).End, (v4.getD v3.toNat Z2).Error, v13, (v4.getD v3.toNat Z2).Links⟩ : Zg)).getD v3.toNat Z2).Parent, ((v4.set v3.toNat (⟨(v4.getD v3.toNat Z2).Trace, (v4.getD v3.toNat Z2).Id, (v4.getD v3.toNat Z2).Parent, (v4.getD v3.toNat Z2).Revision, (v4.getD v3.toNat Z2).Clock, (v4.getD v3.toNat Z2).Kind, (v4.getD v3.toNat Z2).Service, (v4.getD v3.toNat Z2).Version, (v4.getD v3.toNat Z2).Operation, (v4.getD v3.toNat Z2).Start, (v4.getD v3.toNat Z2).End, (v4.getD v3.toNat Z2).Error, v13, (v4.getD v3.toNat Z2).Links⟩ : Zg)).getD v3.toNat Z2).Revision, ((v4.set v3.toNat (⟨(v4.getD v3.toNat Z2).Trace, (v4.getD v3.toNat Z2).Id, (v4.getD v3.toNat Z2).Parent, (v4.getD v3.toNat Z2).Revision, (v4.getD v3.toNat Z2).Clock, (v4.getD v3.toNat Z2).Kind, (v4.getD v3.toNat Z2).Service, (v4.getD v3.toNat Z2).Version, (v4.getD v3.toNat Z2).Operation, (v4.getD v3.toNat Z2).Start, (v4.getD v3.toNat Z2).End, (v4.getD v3.toNat Z2).Error, v13, (v4.getD v3.toNat Z2).Links⟩ : Zg)).getD v3.toNat Z2).Clock, ((v4.set v3.toNat (⟨(v4.getD v3.toNat Z2).Trace, (v4.getD v3.toNat Z2).Id, (v4.getD v3.toNat Z2).Parent, (v4.getD v3.toNat Z2).Revision, (v4.getD v3.toNat Z2).Clock, (v4.getD v3.toNat Z2).Kind, (v4.getD v3.toNat Z2).Service, (v4.getD v3.toNat Z2).Version, (v4.getD v3.toNat Z2).Operation, (v4.getD v3.toNat Z2).Start, (v4.getD v3.toNat Z2).End, (v4.getD v3.toNat Z2).Error, v13, (v4.getD v3.toNat Z2).Links⟩ : Zg)).getD v3.toNat Z2).Kind, ((v4.set v3.toNat (⟨(v4.getD v3.toNat Z2).Trace, (v4.getD v3.toNat Z2).Id, (v4.getD v3.toNat Z2).Parent, (v4.getD v3.toNat Z2).Revision, (v4.getD v3.toNat Z2).Clock, (v4.getD v3.toNat Z2).Kind, (v4.getD v3.toNat Z2).Service, (v4.getD v3.toNat Z2).Version, (v4.getD v3.toNat Z2).Operation, (v4.getD v3.toNat Z2).Start, (v4.getD v3.toNat Z2).End, (v4.getD v3.toNat Z2).Error, v13, (v4.getD v3.toNat Z2).Links⟩ : Zg)).getD v3.toNat Z2).Service, ((v4.set v3.toNat (⟨(v4.getD v3.toNat Z2).Trace, (v4.getD v3.toNat Z2).Id, (v4.getD v3.toNat Z2).Parent, (v4.getD v3.toNat Z2).Revision, (v4.getD v3.toNat Z2).Clock, (v4.getD v3.toNat Z2).Kind, (v4.getD v3.toNat Z2).Service, (v4.getD v3.toNat Z2).Version, (v4.getD v3.toNat Z2).Operation, (v4.getD v3.toNat Z2).Start, (v4.getD v3.toNat Z2).End, (v4.getD v3.toNat Z2).Error, v13, (v4.getD v3.toNat Z2).Links⟩ : Zg)).getD v3.toNat Z2).Version, ((v4.set v3.toNat (⟨(v4.getD v3.toNat Z2).Trace, (v4.getD v3.toNat Z2).Id, (v4.getD v3.toNat Z2).Parent, (v4.getD v3.toNat Z2).Revision, (v4.getD v3.toNat Z2).Clock, (v4.getD v3.toNat Z2).Kind, (v4.getD v3.toNat Z2).Service, (v4.getD v3.toNat Z2).Version, (v4.getD v3.toNat Z2).Operation, (v4.getD v3.toNat Z2).Start, (v4.getD v3.toNat Z2).End, (v4.getD v3.toNat Z2).Error, v13, (v4.getD v3.toNat Z2).Links⟩ : Zg)).getD v3.toNat Z2).Operation, ((v4.set v3.toNat (⟨(v4.getD v3.toNat Z2).Trace, (v4.getD v3.toNat Z2).Id, (v4.getD v3.toNat Z2).Parent, (v4.getD v3.toNat Z2).Revision, (v4.getD v3.toNat Z2).Clock, (v4.getD v3.toNat Z2).Kind, (v4.getD v3.toNat Z2).Service, (v4.getD v3.toNat Z2).Version, (v4.getD v3.toNat Z2).Operation, (v4.getD v3.toNat Z2).Start, (v4.getD v3.toNat Z2).End, (v4.getD v3.toNat Z2).Error, v13, (v4.getD v3.toNat Z2).Links⟩ : Zg)).getD v3.toNat Z2).Start, ((v4.set v3.toNat (⟨(v4.getD v3.toNat Z2).Trace, (v4.getD v3.toNat Z2).Id, (v4.getD v3.toNat Z2).Parent, (v4.getD v3.toNat Z2).Revision, (v4.getD v3.toNat Z2).Clock, (v4.getD v3.toNat Z2).Kind, (v4.getD v3.toNat Z2).Service, (v4.getD v3.toNat Z2).Version, (v4.getD v3.toNat Z2).Operation, (v4.getD v3.toNat Z2).Start, (v4.getD v3.toNat Z2).End, (v4.getD v3.toNat Z2).Error, v13, (v4.getD v3.toNat Z2).Links⟩ : Zg)).getD v3.toNat Z2).End, ((v4.set v3.toNat (⟨(v4.getD v3.toNat Z2).Trace, (v4.getD v3.toNat Z2).Id, (v4.getD v3.toNat Z2).Parent, (v4.getD v3.toNat Z2).Revision, (v4.getD v3.toNat Z2).Clock, (v4.getD v3.toNat Z2).Kind, (v4.getD v3.toNat Z2).Service, (v4.getD v3.toNat Z2).Version, (v4.getD v3.toNat Z2).Operation, (v4.getD v3.toNat Z2).Start, (v4.getD v3.toNat Z2).End, (v4.getD v3.toNat Z2).Error, v13, (v4.getD v3.toNat Z2).Links⟩ : Zg)).getD v3.toNat Z2).Error, ((v4.set v3.toNat (⟨(v4.getD v3.toNat Z2).Trace, (v4.getD v3.toNat Z2).Id, (v4.getD v3.toNat Z2).Parent, (v4.getD v3.toNat Z2).Revision, (v4.getD v3.toNat Z2).Clock, (v4.getD v3.toNat Z2).Kind, (v4.getD v3.toNat Z2).Service, (v4.getD v3.toNat Z2).Version, (v4.getD v3.toNat Z2).Operation, (v4.getD v3.toNat Z2).Start, (v4.getD v3.toNat Z2).End, (v4.getD v3.toNat Z2).Error, v13, (v4.getD v3.toNat Z2).Links⟩ : Zg)).getD v3.toNat Z2).Attrs, v15⟩ : Zg)) (v := (.sl 2 (v15.map Z20) false)) sz54 I I hg19 I els_Tapi_Span I I I I) <| Z21 (by kernel_rfl) I <| At.end <| Z9 <| Z4 <| Z1 I (Z1c (k := .i64) (b := 1) (c := (IntKind.i64.wrap (v3 + 1))) I I I I) I <| Z1 I (Zh I I) I <| Z8 ?_
   exact Z1d (IH5 _ ((IntKind.i64.wrap (v3 + 1)), ((v4.set v3.toNat (⟨(v4.getD v3.toNat Z2).Trace, (v4.getD v3.toNat Z2).Id, (v4.getD v3.toNat Z2).Parent, (v4.getD v3.toNat Z2).Revision, (v4.getD v3.toNat Z2).Clock, (v4.getD v3.toNat Z2).Kind, (v4.getD v3.toNat Z2).Service, (v4.getD v3.toNat Z2).Version, (v4.getD v3.toNat Z2).Operation, (v4.getD v3.toNat Z2).Start, (v4.getD v3.toNat Z2).End, (v4.getD v3.toNat Z2).Error, v13, (v4.getD v3.toNat Z2).Links⟩ : Zg)).set v3.toNat (⟨((v4.set v3.toNat (⟨(v4.getD v3.toNat Z2).Trace, (v4.getD v3.toNat Z2).Id, (v4.getD v3.toNat Z2).Parent, (v4.getD v3.toNat Z2).Revision, (v4.getD v3.toNat Z2).Clock, (v4.getD v3.toNat Z2).Kind, (v4.getD v3.toNat Z2).Service, (v4.getD v3.toNat Z2).Version, (v4.getD v3.toNat Z2).Operation, (v4.getD v3.toNat Z2).Start, (v4.getD v3.toNat Z2).End, (v4.getD v3.toNat Z2).Error, v13, (v4.getD v3.toNat Z2).Links⟩ : Zg)).getD v3.toNat Z2).Trace, ((v4.set v3.toNat (⟨(v4.getD v3.toNat Z2).Trace, (v4.getD v3.toNat Z2).Id, (v4.getD v3.toNat Z2).Parent, (v4.getD v3.toNat Z2).Revision, (v4.getD v3.toNat Z2).Clock, (v4.getD v3.toNat Z2).Kind, (v4.getD v3.toNat Z2).Service, (v4.getD v3.toNat Z2).Version, (v4.getD v3.toNat Z2).Operation, (v4.getD v3.toNat Z2).Start, (v4.getD v3.toNat Z2).End, (v4.getD v3.toNat Z2).Error, v13, (v4.getD v3.toNat Z2).Links⟩ : Zg)).getD v3.toNat Z2).Id, ((v4.set v3.toNat (⟨(v4.getD v3.toNat Z2).Trace, (v4.getD v3.toNat Z2).Id, (v4.getD v3.toNat Z2).Parent, (v4.getD v3.toNat Z2).Revision, (v4.getD v3.toNat Z2).Clock, (v4.getD v3.toNat Z2).Kind, (v4.getD v3.toNat Z2).Service, (v4.getD v3.toNat Z2).Version, (v4.getD v3.toNat Z2).Operation, (v4.getD v3.toNat Z2).Start, (v4.getD v3.toNat Z2).End, (v4.getD v3.toNat Z2).Error, v13, (v4.getD v3.toNat Z2).Links⟩ : Zg)).getD v3.toNat Z2).Parent, ((v4.set v3.toNat (⟨(v4.getD v3.toNat Z2).Trace, (v4.getD v3.toNat Z2).Id, (v4.getD v3.toNat Z2).Parent, (v4.getD v3.toNat Z2).Revision, (v4.getD v3.toNat Z2).Clock, (v4.getD v3.toNat Z2).Kind, (v4.getD v3.toNat Z2).Service, (v4.getD v3.toNat Z2).Version, (v4.getD v3.toNat Z2).Operation, (v4.getD v3.toNat Z2).Start, (v4.getD v3.toNat Z2).End, (v4.getD v3.toNat Z2).Error, v13, (v4.getD v3.toNat Z2).Links⟩ : Zg)).getD v3.toNat Z2).Revision, ((v4.set v3.toNat (⟨(v4.getD v3.toNat Z2).Trace, (v4.getD v3.toNat Z2).Id, (v4.getD v3.toNat Z2).Parent, (v4.getD v3.toNat Z2).Revision, (v4.getD v3.toNat Z2).Clock, (v4.getD v3.toNat Z2).Kind, (v4.getD v3.toNat Z2).Service, (v4.getD v3.toNat Z2).Version, (v4.getD v3.toNat Z2).Operation, (v4.getD v3.toNat Z2).Start, (v4.getD v3.toNat Z2).End, (v4.getD v3.toNat Z2).Error, v13, (v4.getD v3.toNat Z2).Links⟩ : Zg)).getD v3.toNat Z2).Clock, ((v4.set v3.toNat (⟨(v4.getD v3.toNat Z2).Trace, (v4.getD v3.toNat Z2).Id, (v4.getD v3.toNat Z2).Parent, (v4.getD v3.toNat Z2).Revision, (v4.getD v3.toNat Z2).Clock, (v4.getD v3.toNat Z2).Kind, (v4.getD v3.toNat Z2).Service, (v4.getD v3.toNat Z2).Version, (v4.getD v3.toNat Z2).Operation, (v4.getD v3.toNat Z2).Start, (v4.getD v3.toNat Z2).End, (v4.getD v3.toNat Z2).Error, v13, (v4.getD v3.toNat Z2).Links⟩ : Zg)).getD v3.toNat Z2).Kind, ((v4.set v3.toNat (⟨(v4.getD v3.toNat Z2).Trace, (v4.getD v3.toNat Z2).Id, (v4.getD v3.toNat Z2).Parent, (v4.getD v3.toNat Z2).Revision, (v4.getD v3.toNat Z2).Clock, (v4.getD v3.toNat Z2).Kind, (v4.getD v3.toNat Z2).Service, (v4.getD v3.toNat Z2).Version, (v4.getD v3.toNat Z2).Operation, (v4.getD v3.toNat Z2).Start, (v4.getD v3.toNat Z2).End, (v4.getD v3.toNat Z2).Error, v13, (v4.getD v3.toNat Z2).Links⟩ : Zg)).getD v3.toNat Z2).Service, ((v4.set v3.toNat (⟨(v4.getD v3.toNat Z2).Trace, (v4.getD v3.toNat Z2).Id, (v4.getD v3.toNat Z2).Parent, (v4.getD v3.toNat Z2).Revision, (v4.getD v3.toNat Z2).Clock, (v4.getD v3.toNat Z2).Kind, (v4.getD v3.toNat Z2).Service, (v4.getD v3.toNat Z2).Version, (v4.getD v3.toNat Z2).Operation, (v4.getD v3.toNat Z2).Start, (v4.getD v3.toNat Z2).End, (v4.getD v3.toNat Z2).Error, v13, (v4.getD v3.toNat Z2).Links⟩ : Zg)).getD v3.toNat Z2).Version, ((v4.set v3.toNat (⟨(v4.getD v3.toNat Z2).Trace, (v4.getD v3.toNat Z2).Id, (v4.getD v3.toNat Z2).Parent, (v4.getD v3.toNat Z2).Revision, (v4.getD v3.toNat Z2).Clock, (v4.getD v3.toNat Z2).Kind, (v4.getD v3.toNat Z2).Service, (v4.getD v3.toNat Z2).Version, (v4.getD v3.toNat Z2).Operation, (v4.getD v3.toNat Z2).Start, (v4.getD v3.toNat Z2).End, (v4.getD v3.toNat Z2).Error, v13, (v4.getD v3.toNat Z2).Links⟩ : Zg)).getD v3.toNat Z2).Operation, ((v4.set v3.toNat (⟨(v4.getD v3.toNat Z2).Trace, (v4.getD v3.toNat Z2).Id, (v4.getD v3.toNat Z2).Parent, (v4.getD v3.toNat Z2).Revision, (v4.getD v3.toNat Z2).Clock, (v4.getD v3.toNat Z2).Kind, (v4.getD v3.toNat Z2).Service, (v4.getD v3.toNat Z2).Version, (v4.getD v3.toNat Z2).Operation, (v4.getD v3.toNat Z2).Start, (v4.getD v3.toNat Z2).End, (v4.getD v3.toNat Z2).Error, v13, (v4.getD v3.toNat Z2).Links⟩ : Zg)).getD v3.toNat Z2).Start, ((v4.set v3.toNat (⟨(v4.getD v3.toNat Z2).Trace, (v4.getD v3.toNat Z2).Id, (v4.getD v3.toNat Z2).Parent, (v4.getD v3.toNat Z2).Revision, (v4.getD v3.toNat Z2).Clock, (v4.getD v3.toNat Z2).Kind, (v4.getD v3.toNat Z2).Service, (v4.getD v3.toNat Z2).Version, (v4.getD v3.toNat Z2).Operation, (v4.getD v3.toNat Z2).Start, (v4.getD v3.toNat Z2).End, (v4.getD v3.toNat Z2).Error, v13, (v4.getD v3.toNat Z2).Links⟩ : Zg)).getD v3.toNat Z2).End, ((v4.set v3.toNat (⟨(v4.getD v3.toNat Z2).Trace, (v4.getD v3.toNat Z2).Id, (v4.getD v3.toNat Z2).Parent, (v4.getD v3.toNat Z2).Revision, (v4.getD v3.toNat Z2).Clock, (v4.getD v3.toNat Z2).Kind, (v4.getD v3.toNat Z2).Service, (v4.getD v3.toNat Z2).Version, (v4.getD v3.toNat Z2).Operation, (v4.getD v3.toNat Z2).Start, (v4.getD v3.toNat Z2).End, (v4.getD v3.toNat Z2).Error, v13, (v4.getD v3.toNat Z2).Links⟩ : Zg)).getD v3.toNat Z2).Error, ((v4.set v3.toNat (⟨(v4.getD v3.toNat Z2).Trace, (v4.getD v3.toNat Z2).Id, (v4.getD v3.toNat Z2).Parent, (v4.getD v3.toNat Z2).Revision, (v4.getD v3.toNat Z2).Clock, (v4.getD v3.toNat Z2).Kind, (v4.getD v3.toNat Z2).Service, (v4.getD v3.toNat Z2).Version, (v4.getD v3.toNat Z2).Operation, (v4.getD v3.toNat Z2).Start, (v4.getD v3.toNat Z2).End, (v4.getD v3.toNat Z2).Error, v13, (v4.getD v3.toNat Z2).Links⟩ : Zg)).getD v3.toNat Z2).Attrs, v15⟩ : Zg))) (Nat.lt_succ_self _) h) ⟨I, I, I, I, J0⟩ ⟨I, J0⟩
  have h := hif.2 hc
  refine Z29 <| At.thru ?_
  exact Z1d (J5 v4 h) ⟨I, J0⟩ ⟨I, J0⟩
def F14_c5 (_K : Nat) (v4 : (List Zo)) : Option ((List Zo)) :=
 some v4
def F14_j9 (_K : Nat) (b7 : Int → (List Zo) → Option ((List Zo))) (v1 : Int) (v8 : (List Zo)) : Option ((List Zo)) :=
 b7 (IntKind.i64.wrap (v1 + 1)) v8
def F14_j14 (K : Nat) (b7 : Int → (List Zo) → Option ((List Zo))) (v1 : Int) (v13 : (List Zo)) : Option ((List Zo)) :=
 F14_j9 K b7 v1 v13
def F14_l3 (K : Nat) (a0 : (List Zo)) (a1 : Tapi_Interval) (c6 : (List Zo) → Option ((List Zo))) : Nat → Int → (List Zo) → Option ((List Zo))
 | 0, _, _ => none
 | k3 + 1, v1, v2 =>
 if (decide (v1 < (a0.length : Int))) = true then
 if (0 : Int) ≤ v1 ∧ v1 < a0.length then
 (F16 K (a0.getD v1.toNat Zq).Id).bind fun v12 =>
 if (decide (a1.From ≤ v12)) = true then
 if (decide (v12 < a1.To)) = true then
 (F45 K (a0.getD v1.toNat Zq).Spans).bind fun v16 =>
 if v2.length + [(⟨(a0.getD v1.toNat Zq).Id, (a0.getD v1.toNat Zq).Weight, v16⟩ : Zo)].length ≤ 1073741824 then
 F14_j14 K (F14_l3 K a0 a1 c6 k3) v1 (v2 ++ [(⟨(a0.getD v1.toNat Zq).Id, (a0.getD v1.toNat Zq).Weight, v16⟩ : Zo)])
 else none
 else
 F14_j14 K (F14_l3 K a0 a1 c6 k3) v1 v2
 else
 F14_j9 K (F14_l3 K a0 a1 c6 k3) v1 v2
 else none
 else
 c6 v2
def F14 (K : Nat) (a0 : (List Zo)) (a1 : Tapi_Interval) : Option ((List Zo)) :=
 F14_l3 K a0 a1 (F14_c5 K) K 0 []
theorem F14_ok (K : Nat) (a0 : (List Zo)) (a1 : Tapi_Interval) (r : (List Zo)) (h : F14 K a0 a1 = some r) : ACall P 14 ⟨[(.sl 3 (a0.map Zp) false), (Z1j a1)], [], (.sl 3 (r.map Zp) false), [], []⟩ := by
 refine Z1r Tryz.func14 Tryz.results14 rfl Tryz.ntmps14 rfl rfl rfl ?_
 intro E Q hP hN hro hret
 obtain ⟨P', nt', w0, F0, p0, S0, β0, ro0⟩ := E
 simp only at hP hN
 subst hP hN
 dsimp only [argT]
 unfold F14 at h
 refine Zb <| Z4 <| Z1 I (st_box I I I I I) I <| Z1 I (Zj (v := (.sl 3 [] false)) I I) I <| Z8 <| Z9 <| Zb <| Z4 <| Z1 I (Zj (v := (.sl 3 [] true)) I I) I <| Z8 <| Z9 <| Zb <| Zb <| Z4 <| Z1 I (Zh I I) I <| Z1 I (stx_len (l := a0) (enc := Zp) I s31 I) I <| Z1 I (Zh (v := (.int .i64 0)) I I) I <| Z8 <| Z9 <| AWp.ghost (st' := ⟨[(3, (.ptr 3 0)), (5, (.vs 5)), (9, (.sl 3 (a0.map Zp) false)), (10, (.int .i64 (a0.length : Int))), (11, (.int .i64 0))], [(3, (.box (Z1j a1).cells)), (5, (.vec 3 (List.map Zp ([] : List Zo))))]⟩) (fun a w h => (Z17 _ (ghost_own (k := 5) (m := 5) (sz := 3) I I a w (Z17 ⟨[(5, (.sl 3 [] true)), (3, (.ptr 3 0)), (9, (.sl 3 (a0.map Zp) false)), (10, (.int .i64 (a0.length : Int))), (11, (.int .i64 0))], [(3, (.box (Z1j a1).cells))]⟩ h ⟨I, I, I, I, I, J0⟩ ⟨I, J0⟩)) ⟨I, I, I, I, I, J0⟩ ⟨I, I, J0⟩)) <| Z1v (st' := ⟨[(3, (.ptr 3 0)), (5, (.vs 5)), (9, (.sl 3 (a0.map Zp) false)), (10, (.int .i64 (a0.length : Int))), (11, (.int .i64 0))], [(3, (.box (Z1j a1).cells)), (5, (.vec 3 (List.map Zp [])))]⟩) ⟨I, I, I, I, I, J0⟩ ⟨I, I, J0⟩ ?_
 refine Z1g (V := Int × (List Zo)) (X := (List Zo)) (lp := fun k v => F14_l3 K a0 a1 (F14_c5 K) k v.1 v.2 = some r) (sh := fun v => ⟨[(3, (.ptr 3 0)), (5, (.vs 5)), (9, (.sl 3 (a0.map Zp) false)), (10, (.int .i64 (a0.length : Int))), (11, (.int .i64 v.1))], [(3, (.box (Z1j a1).cells)), (5, (.vec 3 (List.map Zp v.2)))]⟩) (x := fun v => F14_c5 K v = some r) (shx := fun v => ⟨[(5, (.vs 5))], [(5, (.vec 3 (List.map Zp v)))]⟩) (k := K) (v := (0, [])) h ?_ ?_
 ·intro v h
  revert h
  revert v
  intro v4 h
  try dsimp only at h ⊢
  unfold F14_c5 at h
  refine Z9 <| Zb <| Z4 <| Z1 I (Zh I I) I <| Z1 I (Zj I I) I <| Z8 <| Z9 <| Z1e <| At.ghost (st' := ⟨[(4, (.sl 3 (v4.map Zp) false))], []⟩) (fun a w h => (Z17 _ (ghost_freeze (m := 5) (sz := 3) (es := (List.map Zp v4)) a w (Z17 ⟨[(4, (.vs 5))], [(5, (.vec 3 (List.map Zp v4)))]⟩ h ⟨I, J0⟩ ⟨I, J0⟩)) ⟨I, J0⟩ J0)) ?_
  have h := Option.some.inj h
  subst h
  refine (hret _ ?_).1
  exact ⟨[(.sl 3 (v4.map Zp) false)], ⟨I, J0⟩, I, J0⟩
 intro N k3 v h IH3 J3
 obtain ⟨v1, v2⟩ := v
 try dsimp only at h IH3 J3 ⊢
 cases k3 with
 | zero => cases h
 | succ k3 =>
  rw [F14_l3] at h
  refine Zb <| Z4 <| Z1 I (Z1y (c := (decide (v1 < (a0.length : Int)))) I I I I) I <| Z8 <| Z9 <| Zb ?_
  have hif := Z2a h
  refine Z15 I (fun hc => ?_) (fun hc => ?_)
  ·have h := hif.1 hc
   refine Z18 <| Z9 <| Zb ?_
   refine AWp.blockJoin (V := (List Zo)) (lp := fun v => F14_j9 K (F14_l3 K a0 a1 (F14_c5 K) k3) v1 v = some r) (sh := fun v => ⟨[(3, (.ptr 3 0)), (5, (.vs 5)), (9, (.sl 3 (a0.map Zp) false)), (10, (.int .i64 (a0.length : Int))), (11, (.int .i64 v1))], [(3, (.box (Z1j a1).cells)), (5, (.vec 3 (List.map Zp v)))]⟩) ?_ ?_
   ·intro v h
    revert h
    revert v
    intro v8 h
    try dsimp only at h ⊢
    unfold F14_j9 at h
    refine Z9 <| Z4 <| Z1 I (Z1c (k := .i64) (b := 1) (c := (IntKind.i64.wrap (v1 + 1))) I I I I) I <| Z1 I (Zh I I) I <| Z8 ?_
    exact Z1d (IH3 _ ((IntKind.i64.wrap (v1 + 1)), v8) (Nat.lt_succ_self _) h) ⟨I, I, I, I, I, J0⟩ ⟨I, I, J0⟩
   intro J9
   refine Zb <| Z4 ?_
   have ⟨hg10, h⟩ := Zx h
   refine Z1 I (Z1s (k := .i64) (l := a0) (enc := Zp) (z := Zq) (n := v1) (full := false) I s31 I I hg10 I) I <| Z1 I (st_loadIA I a39 I I I) I <| Z1 I (Z1z I z39 I I I) I <| Z1 I (Z19 sz39 I I I I I I I I) I <| Z8 <| Z9 <| Zb <| Z4 <| Z1 I (Zn I f39_0 I I) I <| Z1 I (Zs I o3 I I I) I ?_
   have ⟨v12, hv12, h⟩ := Z1b h
   refine Z1 I (Z1h (ar := [(.int .i64 (a0.getD v1.toNat Zq).Id)]) Tryz.call16 (F16_ok K (a0.getD v1.toNat Zq).Id v12 hv12) I I ⟨I, J0⟩ I) I <| Z1 I (Zj I I) I <| Z8 <| Z9 <| Zb <| Z4 <| Z1 I (Zn I f35_0 I I) I <| Z1 I (Zs I o3 I I I) I <| Z1 I (Zh I I) I <| Z1 I (Z1y (c := (decide (a1.From ≤ v12))) I I I I) I <| Z1 I (Zh I I) I ?_
   have hif := Z2a h
   refine AOps.split (fun hc => ?_) (fun hc => ?_)
   ·have h := hif.1 hc
    refine Z11 I I I I (Zh I I) I <| Z11 I I I I (Zn I f35_1 I I) I <| Z11 I I I I (Zs I o3 I I I) I <| Z11 I I I I (Z1y (c := (decide (v12 < a1.To))) I I I I) I <| Z1 I (st_pickT I I I) I <| Z8 <| Z9 ?_
    refine AWp.join (V := (List Zo)) (lp := fun v => F14_j14 K (F14_l3 K a0 a1 (F14_c5 K) k3) v1 v = some r) (sh := fun v => ⟨[(3, (.ptr 3 0)), (5, (.vs 5)), (9, (.sl 3 (a0.map Zp) false)), (10, (.int .i64 (a0.length : Int))), (11, (.int .i64 v1))], [(3, (.box (Z1j a1).cells)), (5, (.vec 3 (List.map Zp v)))]⟩) ?_ ?_
    ·intro v h
     revert h
     revert v
     intro v13 h
     try dsimp only at h ⊢
     unfold F14_j14 at h
     refine At.end ?_
     exact Z1d (J9 v13 h) ⟨I, I, I, I, I, J0⟩ ⟨I, I, J0⟩
    intro J14
    have hif := Z2a h
    refine Z15 I (fun hc => ?_) (fun hc => ?_)
    ·have h := hif.1 hc
     refine Zb <| Z4 <| Z1 I (Zn I f39_2 I I) I <| Z1 I (Zs I o37 I I I) I ?_
     have ⟨v16, hv16, h⟩ := Z1b h
     refine Z1 I (Z1h (ar := [(.sl 14 ((a0.getD v1.toNat Zq).Spans.map Zf) false)]) Tryz.call45 (F45_ok K (a0.getD v1.toNat Zq).Spans v16 hv16) I I ⟨I, J0⟩ I) I <| Z1 I (Zn I f39_2 I I) I <| Z1 I (Z19 sz37 I I I I I I I I) I <| Z8 <| Z9 <| Z4 <| Z1 I (Zh I I) I <| Z1 I (Z1l I a39 I I I I) I <| Z1 I (Z1i (vs := [(.ag [(.int .i64 (a0.getD v1.toNat Zq).Id), (.int .i64 (a0.getD v1.toNat Zq).Weight), (.sl 14 (v16.map Zf) false)])]) (enc := Zp) (l := [(⟨(a0.getD v1.toNat Zq).Id, (a0.getD v1.toNat Zq).Weight, v16⟩ : Zo)]) I el31 I I ⟨I, J0⟩ I els_Tapi_Trace I I I I) I ?_
     have ⟨hg17, h⟩ := Zx h
     refine Z1 I (st_append (m := 5) (enc := Zp) (l := v2) (l' := [(⟨(a0.getD v1.toNat Zq).Id, (a0.getD v1.toNat Zq).Weight, v16⟩ : Zo)]) (src := (.vs 34)) (rd := [(34, (.vec 3 (List.map Zp [(⟨(a0.getD v1.toNat Zq).Id, (a0.getD v1.toNat Zq).Weight, v16⟩ : Zo)])))]) I I el31 I u31 I I I I (oneRead I) els_Tapi_Trace hg17) I <| Z1 I (Zj I I) I <| Z8 ?_
     exact Z1d (J14 (v2 ++ [(⟨(a0.getD v1.toNat Zq).Id, (a0.getD v1.toNat Zq).Weight, v16⟩ : Zo)]) h) ⟨I, I, I, I, I, J0⟩ ⟨I, I, J0⟩
    have h := hif.2 hc
    refine Z18 ?_
    exact Z1d (J14 v2 h) ⟨I, I, I, I, I, J0⟩ ⟨I, I, J0⟩
   have h := hif.2 hc
   iterate 4 refine Z1u I I I I I I I ?_
   refine Z1 I (st_pickF (v := (.bool false)) I I I) I <| Z8 <| Z9 ?_
   refine Z15 (b := false) I (fun hc => ?_) (fun hc => ?_)
   ·cases hc
   refine Z18 <| At.end ?_
   exact Z1d (J9 v2 h) ⟨I, I, I, I, I, J0⟩ ⟨I, I, J0⟩
  have h := hif.2 hc
  refine Z29 <| At.thru ?_
  exact Z1d (J3 v2 h) ⟨I, J0⟩ ⟨I, J0⟩
def F85 (_K : Nat) (_a0 : (List (Int × (List Zo)))) : Option (Unit) :=
 some ()
theorem F85_ok (K : Nat) (a0 : (List (Int × (List Zo)))) (r : Unit) (h : F85 K a0 = some r) : ACall P 85 ⟨[(.map 2000)], [(2000, (.fmap (Zz Z1f Z1k a0)))], (.clo 127 [(.ptr 1 0)]), [(2000, (.fmap (Zz Z1f Z1k a0))), (1, (.box [(.map 2000)]))], [1]⟩ := by
 refine Z1r Tryz.func85 Tryz.results85 rfl Tryz.ntmps85 rfl rfl rfl ?_
 intro E Q hP hN hro hret
 obtain ⟨P', nt', w0, F0, p0, S0, β0, ro0⟩ := E
 simp only at hP hN
 subst hP hN
 dsimp only [argT]
 unfold F85 at h
 refine Zb <| Z4 <| Z1 I (st_box I I I I I) I <| Z1 I (Zj (v := .nilf) I I) I <| Z8 <| Z9 <| Zb <| Z4 <| Z1 I (stx_makeFunc (vs := [(.ptr 1 0)]) I ⟨I, J0⟩) I <| Z1 I (Zj I I) I <| Z8 <| Z9 <| Z1e ?_
 have h := Option.some.inj h
 subst h
 refine (hret _ ?_).1
 exact ⟨[(.clo 127 [(.ptr 1 0)])], ⟨I, J0⟩, I, ⟨I, I, J0⟩⟩
theorem F127_keys (kvs : List (Int × (List Zo))) (lr : Go.Loop) (hps : lr.params.size = 1) (hy : ∀ (x : Int) (l : List Int), l.length + 1 ≤ 1073741824 → YCall P lr 1000 ⟨[(Z1f x)], [(1000, .loop lr [2] [.ptr 1001 0]), (1001, .box [.vs 9]), (9, .vec 1 (List.map Z1f l))], .bool true, [(1000, .loop lr [2] [.ptr 1001 0]), (1001, .box [.vs 9]), (9, .vec 1 (List.map Z1f (l ++ [x])))], [9]⟩) (hb : kvs.length ≤ 1073741824) :
  ACallX (X := List (Int × (List Zo))) P 127 [.yld 1000, .ptr 2000 0] [(1000, .loop lr [2] [.ptr 1001 0]), (1001, .box [.vs 9]), (9, .vec 1 (List.map Z1f ([] : List Int))), (2000, .box [.map 2001]), (2001, .fmap (Zz Z1f Z1k kvs))] (fun ω => ω.Perm kvs) (fun _ => .tup []) (fun ω => [(1000, .loop lr [2] [.ptr 1001 0]), (1001, .box [.vs 9]), (9, .vec 1 (List.map Z1f (List.map (fun e => e.1) ω))), (2000, .box [.map 2001]), (2001, .fmap (Zz Z1f Z1k kvs))]) [9] := by
 refine acallX_of Tryz.func127 Tryz.results127 rfl Tryz.ntmps127 rfl rfl (fun _ => rfl) ?_
 intro E Q hP hN hro hret
 obtain ⟨P', nt', w0, F0, p0, S0, β0, ro0⟩ := E
 simp only at hP hN
 subst hP hN
 dsimp only [argT]
 refine Zb ?_
 refine Z4 ?_
 refine Z1 I (Zs I o157 I I I) I ?_
 refine Z1 I (st_range (encK := Z1f) (encV := Z1k) (l := kvs) I ⟨3, 31, by kernel_rfl⟩ I I) I ?_
 refine Z8 ?_
 refine Z9 ?_
 refine Z1v (st' := ⟨[(0, .yld 1000), (5, .itr 5)], [(5, .iter none (Zz Z1f Z1k kvs)), (9, .vec 1 (List.map Z1f ([] : List Int))), (1000, .loop lr [2] [.ptr 1001 0]), (1001, .box [.vs 9]), (2000, .box [.map 2001]), (2001, .fmap (Zz Z1f Z1k kvs))]⟩) ⟨I, I, J0⟩ ⟨I, I, I, I, I, I, J0⟩ ?_
 refine Z1g (V := List (Int × (List Zo)) × List (Int × (List Zo))) (X := List (Int × (List Zo))) (lp := fun k v => v.2.length < k ∧ (v.1 ++ v.2).Perm kvs) (sh := fun v => ⟨[(0, .yld 1000), (5, .itr 5)], [(5, .iter none (Zz Z1f Z1k v.2)), (9, .vec 1 (List.map Z1f (List.map (fun e => e.1) v.1))), (1000, .loop lr [2] [.ptr 1001 0]), (1001, .box [.vs 9]), (2000, .box [.map 2001]), (2001, .fmap (Zz Z1f Z1k kvs))]⟩) (x := fun ω => ω.Perm kvs) (shx := fun ω => ⟨[], [(9, .vec 1 (List.map Z1f (List.map (fun e => e.1) ω))), (1000, .loop lr [2] [.ptr 1001 0]), (1001, .box [.vs 9]), (2000, .box [.map 2001]), (2001, .fmap (Zz Z1f Z1k kvs))]⟩) (k := kvs.length + 1) (v := ([], kvs)) ⟨Nat.lt_succ_self _, List.Perm.refl _⟩ ?_ ?_
 ·intro ω hω
  refine (hret _ ω hω ?_).2
  exact ⟨[], J0, I, ⟨I, I, I, I, I, J0⟩⟩
 ·intro N k v hv IH J
  obtain ⟨pre, rem⟩ := v
  dsimp only at hv IH J ⊢
  obtain ⟨hk, hperm⟩ := hv
  refine Zb ?_
  refine Z4 ?_
  refine AOps.consNext (encK := Z1f) (encV := Z1k) (rem := rem) I I I (fun hc => ?_) (fun p kv q hc => ?_)
  ·subst hc
   rw [List.append_nil] at hperm
   refine Z1 I (st_extract I I I) I ?_
   refine Z8 ?_
   refine Z9 ?_
   refine Zb ?_
   refine Z15 (b := false) I (fun hc => ?_) (fun hc => ?_)
   ·cases hc
   refine Z29 ?_
   refine At.thru ?_
   exact Z1d (J pre hperm) J0 ⟨I, I, I, I, I, J0⟩
  ·subst hc
   refine Z1 I (st_extract I I I) I ?_
   refine Z8 ?_
   refine Z9 ?_
   refine Zb ?_
   refine Z15 (b := true) I (fun hc => ?_) (fun hc => ?_)
   rotate_left
   ·cases hc
   refine Z18 ?_
   refine Z9 ?_
   refine Z25 ?_
   refine Zb ?_
   refine Z4 ?_
   refine Z1 I (st_entry (k := kv.1) (v := kv.2) (encK := Z1f) (encV := Z1k) I I I) I ?_
   refine Z1 I (st_extract I I I) I ?_
   refine Z1 I (Zj (v := (Z1f kv.1)) I I) I ?_
   refine Z8 ?_
   refine Z9 ?_
   refine Zb ?_
   refine Z4 ?_
   refine Z1 I (Zh I I) I ?_
   refine Z1 I (Zh (v := (Z1f kv.1)) I I) I ?_
   have hlen : (List.map (fun e => e.1) pre).length + 1 ≤ 1073741824 := by
    have := hperm.length_eq
    simp only [List.length_append, List.length_cons, List.length_map] at this ⊢
    omega
   refine Z1 I (st_yield (d := some 12) (ks := [2]) (vs := [.ptr 1001 0]) (c := ⟨[(Z1f kv.1)], [(1000, .loop lr [2] [.ptr 1001 0]), (1001, .box [.vs 9]), (9, .vec 1 (List.map Z1f (List.map (fun e => e.1) pre)))], .bool true, [(1000, .loop lr [2] [.ptr 1001 0]), (1001, .box [.vs 9]), (9, .vec 1 (List.map Z1f ((List.map (fun e => e.1) pre) ++ [kv.1])))], [9]⟩) (ar := [(Z1f kv.1)]) (news := []) (forg := [9]) (hy kv.1 _ hlen) I hps I I ⟨I, J0⟩ I ⟨I, I, I, J0⟩ I) I ?_
   refine Z1 I (st_not I I) I ?_
   refine Z8 ?_
   refine Z9 ?_
   refine Z15 (b := false) I (fun hc => ?_) (fun hc => ?_)
   ·cases hc
   refine Z18 ?_
   refine At.end ?_
   have hstep : (p ++ q).length < (p ++ kv :: q).length := by
    simp only [List.length_append, List.length_cons]
    omega
   have hp2 : ((pre ++ [kv]) ++ (p ++ q)).Perm kvs := by
    refine List.Perm.trans ?_ hperm
    rw [List.append_assoc]
    exact List.Perm.append_left pre (show (kv :: (p ++ q)).Perm (p ++ kv :: q) from List.perm_middle.symm)
   have hm : List.map (fun e : Int × (List Zo) => e.1) (pre ++ [kv]) = List.map (fun e => e.1) pre ++ [kv.1] := by rw [List.map_append]; rfl
   have := IH (p ++ q).length.succ (pre ++ [kv], p ++ q) (by omega) ⟨Nat.lt_succ_self _, hp2⟩
   dsimp only at this
   rw [hm] at this
   refine At.ghost (st' := ⟨[(0, .yld 1000), (5, .itr 5)], [(5, .iter none (Zz Z1f Z1k (p ++ q))), (9, .vec 1 (List.map Z1f ((List.map (fun e => e.1) pre) ++ [kv.1]))), (1000, .loop lr [2] [.ptr 1001 0]), (1001, .box [.vs 9]), (2000, .box [.map 2001]), (2001, .fmap (Zz Z1f Z1k kvs))]⟩) (fun a w h => Z17 _ (ghost_iter (m := 5) (cur := some ((Z1f kv.1), (Z1k kv.2))) (kvs := Zz Z1f Z1k (p ++ q)) a w (Z17 ⟨[(0, .yld 1000), (5, .itr 5)], [(5, .iter (some ((Z1f kv.1), (Z1k kv.2))) (Zz Z1f Z1k (p ++ q))), (9, .vec 1 (List.map Z1f ((List.map (fun e => e.1) pre) ++ [kv.1]))), (1000, .loop lr [2] [.ptr 1001 0]), (1001, .box [.vs 9]), (2000, .box [.map 2001]), (2001, .fmap (Zz Z1f Z1k kvs))]⟩ h ⟨I, I, J0⟩ ⟨I, I, I, I, I, I, J0⟩)) ⟨I, I, J0⟩ ⟨I, I, I, I, I, I, J0⟩) this
theorem F155_keys (kvs : List (Int × (List Zo))) (hb : kvs.length ≤ 1073741824) : ACallX (X := List (Int × (List Zo))) P 155 [(.sl 1 [] true), .clo 127 [.ptr 2000 0]] [(2000, .box [.map 2001]), (2001, .fmap (Zz Z1f Z1k kvs))] (fun ω => ω.Perm kvs) (fun _ => .vs 9) (fun ω => [(9, .vec 1 (List.map Z1f (List.map (fun e => e.1) ω))), (2000, .box [.map 2001]), (2001, .fmap (Zz Z1f Z1k kvs))]) [9] := by
 refine acallX_of Tryz.func155 Tryz.results155 rfl Tryz.ntmps155 rfl rfl (fun _ => rfl) ?_
 intro E Q hP hN hro hret
 obtain ⟨P', nt', w0, F0, p0, S0, β0, ro0⟩ := E
 simp only at hP hN
 subst hP hN
 dsimp only [argT]
 refine Zb <| Z4 <| Z1 I (st_box I I I I I) I <| Z1 I (Zj (v := (.sl 1 [] false)) I I) I <| Z8 <| Z9 <| Zb <| Zb <| Z4 <| Z1 I (Zh I I) I <| Z8 <| Z9 <| Z25 <| AWp.ghost (st' := ⟨[(2, .ptr 2 0), (6, (.clo 127 [.ptr 2000 0]))], [(2, .box [.vs 9]), (9, .vec 1 (List.map Z1f ([] : List Int))), (2000, .box [.map 2001]), (2001, .fmap (Zz Z1f Z1k kvs))]⟩) (fun a w h => Z17 _ (ghost_ownB (n := 2) (m := 9) (sz := 1) (j := 0) I I I a w (Z17 ⟨[(2, .ptr 2 0), (6, (.clo 127 [.ptr 2000 0]))], [(2, .box [(.sl 1 [] true)]), (2000, .box [.map 2001]), (2001, .fmap (Zz Z1f Z1k kvs))]⟩ h ⟨I, I, J0⟩ ⟨I, I, I, J0⟩)) ⟨I, I, J0⟩ ⟨I, I, I, I, J0⟩) ?_
 refine AWp.rangeFuncX (X := List (Int × (List Zo))) (n := 1) (f := 127) (caps := [.ptr 2000 0]) (ks := [2]) (vs := [.ptr 2 0]) (ins := [(2, .box [.vs 9]), (9, .vec 1 (List.map Z1f ([] : List Int))), (2000, .box [.map 2001]), (2001, .fmap (Zz Z1f Z1k kvs))]) (ok := fun ω => ω.Perm kvs) (outs := fun ω => [(2, .box [.vs 9]), (9, .vec 1 (List.map Z1f (List.map (fun e => e.1) ω))), (2000, .box [.map 2001]), (2001, .fmap (Zz Z1f Z1k kvs))]) (res := fun _ => .tup []) (mv := [9]) (forg := [9]) (jump := fun _ => none) hro Tryz.call127 I I I I ⟨I, J0⟩ ⟨I, I, I, I, J0⟩ I (fun _ => I) (fun _ => I) I (fun lr hst hpe hpr has hbd hsz => ?_) (fun ω hω _ => ?_) (fun ω c _ hc => by cases hc)
 ·have hend := endRec_self hst hpe
  simp only [hend]
  have hps : lr.params.size = 1 := by rw [hpr]; rfl
  have hy : ∀ (x : Int) (l : List Int), l.length + 1 ≤ 1073741824 → YCall P lr 1000 ⟨[(Z1f x)], [(1000, .loop lr [2] [.ptr 1001 0]), (1001, .box [.vs 9]), (9, .vec 1 (List.map Z1f l))], .bool true, [(1000, .loop lr [2] [.ptr 1001 0]), (1001, .box [.vs 9]), (9, .vec 1 (List.map Z1f (l ++ [x])))], [9]⟩ := by
   intro x l hl
   refine ycall_of (ks := [2]) (vs := [.ptr 1001 0]) (ps := [7]) rfl hst hsz hpr rfl (by decide) rfl rfl rfl ?_
   intro E Qa Qb hP hN hmid hfin
   obtain ⟨P', nt', w0, F0, p0, S0, β0, ro0⟩ := E
   simp only at hP hN
   subst hP hN
   refine AWp.code has ?_
   dsimp only [List.zip, List.zipWith, List.cons_append, List.nil_append]
   refine Z4 <| Z1 I (Zj (v := (Z1f x)) I I) I <| Z8 ?_
   refine hmid _ _ _ rfl ?_
   refine AWp.code hbd <| Z25 <| Z4 <| Z1 I (Zs I o65 I I I) I <| Z1 I (Zh (v := (Z1f x)) I I) I <| Z1 I (Z1i (vs := [(Z1f x)]) (enc := Z1f) (l := [x]) I el65 I I ⟨I, J0⟩ I els_i64 I I I I) I <| Z1 I (st_append (m := 9) (enc := Z1f) (l := l) (l' := [x]) (src := .vs 10) (rd := [(10, .vec 1 (List.map Z1f [x]))]) I I el65 I u65 I I I I (oneRead I) els_i64 hl) I <| Z1 I (Z19 sz65 I I I I I I I I) I <| Z8 <| At.end ?_
   refine hfin _ _ _ none .normal rfl rfl rfl ?_
   rw [hend]
   exact ⟨I, I, I, J0⟩
  exact ((F127_keys kvs lr hps hy hb).sw 1000 1).sw 1001 2
 refine At.weaken (st' := ⟨[(2, .ptr 2 0)], [(2, .box [.vs 9]), (9, .vec 1 (List.map Z1f (List.map (fun e => e.1) ω))), (2000, .box [.map 2001]), (2001, .fmap (Zz Z1f Z1k kvs))]⟩) ⟨I, J0⟩ ⟨I, I, I, I, J0⟩ <| At.end <| Z9 <| Zb <| Z4 <| Z1 I (Zs I o65 I I I) I <| Z1 I (Zj I I) I <| Z8 <| Z9 <| Z1e ?_
 refine (hret _ ω hω ?_).1
 exact ⟨[.vs 9], ⟨I, J0⟩, I, ⟨I, I, I, J0⟩⟩
theorem F125_keys (kvs : List (Int × (List Zo))) (hb : kvs.length ≤ 1073741824) : ACallX (X := List (Int × (List Zo))) P 125 [.clo 127 [.ptr 2000 0]] [(2000, .box [.map 2001]), (2001, .fmap (Zz Z1f Z1k kvs))] (fun ω => ω.Perm kvs) (fun _ => .vs 4) (fun ω => [(4, .vec 1 (List.map Z1f (List.map (fun e => e.1) ω))), (2000, .box [.map 2001]), (2001, .fmap (Zz Z1f Z1k kvs))]) [4] := by
 refine acallX_of Tryz.func125 Tryz.results125 rfl Tryz.ntmps125 rfl rfl (fun _ => rfl) ?_
 intro E Q hP hN hro hret
 obtain ⟨P', nt', w0, F0, p0, S0, β0, ro0⟩ := E
 simp only at hP hN
 subst hP hN
 dsimp only [argT]
 refine Zb <| Z4 <| Z1 I (Zj (v := (.sl 1 [] false)) I I) I <| Z8 <| Z9 <| Zb <| Z4 <| Z1 I (Zh I I) I ?_
 refine AOps.callX (ar := [(.sl 1 [] true), (.clo 127 [.ptr 2000 0])]) (caps := []) (news := [4]) (forg := []) Tryz.call155 ((F155_keys kvs hb).sw 9 4) I I ⟨I, I, J0⟩ I ⟨I, I, J0⟩ (fun _ => I) I (fun ω hω => ?_)
 refine Z1 I (Zj I I) I <| Z8 <| Z9 <| Z1e ?_
 refine (hret _ ω hω ?_).1
 exact ⟨[.vs 4], ⟨I, J0⟩, I, ⟨I, I, I, J0⟩⟩
noncomputable def F84 (_K : Nat) (a0 : (List (Int × (List Zo)))) : Option ((List Int)) :=
 if a0.length ≤ 1073741824 then
 ndPerm a0 fun x3 =>
 (sortI (List.map (fun e : Int × (List Zo) => e.1) x3)).bind fun v5 =>
 some v5
 else none
theorem F84_ok (K : Nat) (a0 : (List (Int × (List Zo)))) (r : (List Int)) (h : F84 K a0 = some r) : ACall P 84 ⟨[(.clo 127 [(.ptr 2000 0)])], [(2000, (.box [(.map 2001)])), (2001, (.fmap (Zz Z1f Z1k a0)))], (.vs 5), [(2000, (.box [(.map 2001)])), (2001, (.fmap (Zz Z1f Z1k a0))), (5, (.vec 1 (List.map Z1f r)))], [5]⟩ := by
 refine Z1r Tryz.func84 Tryz.results84 rfl Tryz.ntmps84 rfl rfl rfl ?_
 intro E Q hP hN hro hret
 obtain ⟨P', nt', w0, F0, p0, S0, β0, ro0⟩ := E
 simp only at hP hN
 subst hP hN
 dsimp only [argT]
 unfold F84 at h
 refine Zb <| Z4 <| Z1 I (Zj (v := (.sl 1 [] false)) I I) I <| Z8 <| Z9 <| Zb <| Z4 <| Z1 I (Zh I I) I ?_
 have ⟨hg2, h⟩ := Zx h
 have hp6 := of_ndPerm h
 refine AOps.callX (ar := [(.clo 127 [(.ptr 2000 0)])]) (caps := []) (news := [5]) (forg := []) Tryz.call125 ((F125_keys a0 hg2).sw 4 5) I I ⟨I, J0⟩ I ⟨I, I, J0⟩ (fun _ => I) I (fun x3 hw6 => ?_)
 have h := hp6 x3 hw6
 refine Z1 I (Zj I I) I <| Z8 <| Z9 <| Zb <| Z4 <| Z1 I (Zh I I) I ?_
 have ⟨v5, hv5, h⟩ := Z1b h
 refine Z1 I (st_call (d := some 7) (c := ⟨[(.vs 5)], [(5, (.vec 1 (List.map Z1f (List.map (fun e : Int × (List Zo) => e.1) x3))))], .tup [], [(5, .vec 1 (List.map Z1f v5))], []⟩) (ar := [(.vs 5)]) (caps := []) (news := []) (forg := []) Tryz.call126 (sortI_ok (n := 5) (enc := Z1f) (l := (List.map (fun e : Int × (List Zo) => e.1) x3)) sortC126 (fun _ => I) hv5) I I ⟨I, J0⟩ I ⟨I, J0⟩ I) I <| Z8 <| Z9 <| Zb <| Z4 <| Z1 I (Zh I I) I <| Z1 I (Zj I I) I <| Z8 <| Z9 <| Z1e ?_
 have h := Option.some.inj h
 subst h
 refine (hret _ ?_).1
 exact ⟨[(.vs 5)], ⟨I, J0⟩, I, ⟨I, I, I, J0⟩⟩
noncomputable def F17_i1_c11 (K : Nat) (v8 : Bool) (v9 : (List (Str × Zc))) (v10 : (List (Zu × Zl))) : Option (Zd × Int) :=
 (F52 K v8 v9 v10).bind fun v14 =>
 some (v14.2, v14.1)
def F17_i1_c33 (_K : Nat) (b15 : Int → Bool → (List (Str × Zc)) → (List (Zu × Zl)) → Option (Zd × Int)) (v3 : Int) (v30 : Bool) (v31 : (List (Str × Zc))) (v32 : (List (Zu × Zl))) : Option (Zd × Int) :=
 b15 (IntKind.i64.wrap (v3 + 1)) v30 v31 v32
def F17_i1_j39 (_K : Nat) (b35 : Int → Bool → (List (Str × Zc)) → (List (Zu × Zl)) → Option (Zd × Int)) (v25 : Int) (v36 : Bool) (v37 : (List (Str × Zc))) (v38 : (List (Zu × Zl))) : Option (Zd × Int) :=
 b35 (IntKind.i64.wrap (v25 + 1)) v36 v37 v38
def F17_i1_j49 (K : Nat) (b35 : Int → Bool → (List (Str × Zc)) → (List (Zu × Zl)) → Option (Zd × Int)) (v25 : Int) (v46 : Bool × (List (Str × Zc))) (v47 : Bool) (v48 : (List (Zu × Zl))) : Option (Zd × Int) :=
 F17_i1_j39 K b35 v25 v47 v46.2 v48
def F17_i1_l29 (K : Nat) (v18 : (List Zg)) (a0 : (List Zo)) (v3 : Int) (v22 : (List (Int × Zg))) (c34 : Bool → (List (Str × Zc)) → (List (Zu × Zl)) → Option (Zd × Int)) : Nat → Int → Bool → (List (Str × Zc)) → (List (Zu × Zl)) → Option (Zd × Int)
 | 0, _, _, _, _ => none
 | k29 + 1, v25, v26, v27, v28 =>
 if (decide (v25 < (v18.length : Int))) = true then
 if (0 : Int) ≤ v25 ∧ v25 < v18.length then
 (F49 K (v18.getD v25.toNat Z2).Error (a0.getD v3.toNat Zq).Weight).bind fun v42 =>
 (F49 K ((v18.getD v25.toNat Z2).Parent == 0) (a0.getD v3.toNat Zq).Weight).bind fun v44 =>
 (F48 K (⟨(v18.getD v25.toNat Z2).Service, (a0.getD v3.toNat Zq).Weight, v42, v44⟩ : Zc) v26 v27 v28).bind fun v46 =>
 if (mget q_i64 (v18.getD v25.toNat Z2).Parent v22).isSome = true then
 if (!(((mget q_i64 (v18.getD v25.toNat Z2).Parent v22).getD Z2).Service == (v18.getD v25.toNat Z2).Service)) = true then
 (F49 K (v18.getD v25.toNat Z2).Error (a0.getD v3.toNat Zq).Weight).bind fun v51 =>
 (F51 K (v18.getD v25.toNat Z2)).bind fun v53 =>
 (F50 K (⟨((mget q_i64 (v18.getD v25.toNat Z2).Parent v22).getD Z2).Service, (v18.getD v25.toNat Z2).Service, (a0.getD v3.toNat Zq).Weight, v51, (IntKind.i64.wrap (v53 * (a0.getD v3.toNat Zq).Weight))⟩ : Zl) v46.1 v46.2 v28).bind fun v55 =>
 F17_i1_j49 K (F17_i1_l29 K v18 a0 v3 v22 c34 k29) v25 v46 v55.1 v55.2
 else
 F17_i1_j49 K (F17_i1_l29 K v18 a0 v3 v22 c34 k29) v25 v46 v46.1 v28
 else
 F17_i1_j39 K (F17_i1_l29 K v18 a0 v3 v22 c34 k29) v25 v46.1 v46.2 v28
 else none
 else
 c34 v26 v27 v28
def F17_i1_c23 (K : Nat) (v18 : (List Zg)) (a0 : (List Zo)) (v3 : Int) (b15 : Int → Bool → (List (Str × Zc)) → (List (Zu × Zl)) → Option (Zd × Int)) (v4 : Bool) (v5 : (List (Str × Zc))) (v6 : (List (Zu × Zl))) (v22 : (List (Int × Zg))) : Option (Zd × Int) :=
 F17_i1_l29 K v18 a0 v3 v22 (F17_i1_c33 K b15 v3) K 0 v4 v5 v6
def F17_i1_l21 (K : Nat) (v18 : (List Zg)) (c24 : (List (Int × Zg)) → Option (Zd × Int)) : Nat → Int → (List (Int × Zg)) → Option (Zd × Int)
 | 0, _, _ => none
 | k21 + 1, v19, v20 =>
 if (decide (v19 < (v18.length : Int))) = true then
 if (0 : Int) ≤ v19 ∧ v19 < v18.length then
 (F17_i1_l21 K v18 c24 k21) (IntKind.i64.wrap (v19 + 1)) (mput q_i64 (v18.getD v19.toNat Z2).Id (v18.getD v19.toNat Z2) v20)
 else none
 else
 c24 v20
def F17_i1_l7 (K : Nat) (a0 : (List Zo)) (c12 : Bool → (List (Str × Zc)) → (List (Zu × Zl)) → Option (Zd × Int)) : Nat → Int → Bool → (List (Str × Zc)) → (List (Zu × Zl)) → Option (Zd × Int)
 | 0, _, _, _, _ => none
 | k7 + 1, v3, v4, v5, v6 =>
 if (decide (v3 < (a0.length : Int))) = true then
 if (0 : Int) ≤ v3 ∧ v3 < a0.length then
 (F47 K (a0.getD v3.toNat Zq).Spans).bind fun v18 =>
 F17_i1_l21 K v18 (F17_i1_c23 K v18 a0 v3 (F17_i1_l7 K a0 c12 k7) v4 v5 v6) K 0 ([] : List (Int × Zg))
 else none
 else
 c12 v4 v5 v6
noncomputable def F17_i1 (K : Nat) (a0 : (List Zo)) : Option (Zd × Int) :=
 (F46 K).bind fun _v2 =>
 F17_i1_l7 K a0 (F17_i1_c11 K) K 0 false ([] : List (Str × Zc)) ([] : List (Zu × Zl))
theorem F17_i1_ok (K : Nat) (a0 : (List Zo)) (r : Zd × Int) (h : F17_i1 K a0 = some r) : ACall P 17 ⟨[(.sl 3 (a0.map Zp) false)], [], (.tup [(Zm r.1), (.int .i64 r.2)]), [], []⟩ := by
 refine Z1r Tryz.func17 Tryz.results17 rfl Tryz.ntmps17 rfl rfl rfl ?_
 intro E Q hP hN hro hret
 obtain ⟨P', nt', w0, F0, p0, S0, β0, ro0⟩ := E
 simp only at hP hN
 subst hP hN
 dsimp only [argT]
 unfold F17_i1 at h
 refine Zb <| Z4 <| Z1 I (Z1z I z44 I I I) I <| Z1 I (Zj (v := (.int .i64 0)) I I) I <| Z8 <| Z9 <| Zb <| Z4 ?_
 have ⟨v2, hv2, h⟩ := Z1b h
 refine Z1 I (st_call (d := some 16) (c := ⟨[] ++ [], [], (.ptr 96 0), [(16, (.map (Zz e_str Z6 ([] : List (Str × Zc))))), (97, (.map (Zz Zt Ze ([] : List (Zu × Zl))))), (96, (.box [(.map 16), (.map 97), (.bool false)]))], [16, 97, 96]⟩) (ar := []) (caps := []) (news := [16, 97, 96]) (forg := []) Tryz.call46 ((((F46_ok K v2 hv2).sw 1 16).sw 2 97).sw 4 96) I I J0 I J0 I) I <| Z1 I (Zj I I) I <| Z8 <| Z9 <| Zb <| Zb <| Z4 <| Z1 I (Zh I I) I <| Z1 I (stx_len (l := a0) (enc := Zp) I s31 I) I <| Z1 I (Zh (v := (.int .i64 0)) I I) I <| Z8 <| Z9 <| Z1v (st' := ⟨[(2, (.ptr 2 0)), (4, (.ptr 96 0)), (17, (.sl 3 (a0.map Zp) false)), (18, (.int .i64 (a0.length : Int))), (19, (.int .i64 0))], [(2, (.box [(.sl 4 [] false), (.sl 5 [] false)])), (16, (.map (Zz e_str Z6 ([] : List (Str × Zc))))), (96, (.box [(.map 16), (.map 97), (.bool false)])), (97, (.map (Zz Zt Ze ([] : List (Zu × Zl)))))]⟩) ⟨I, I, I, I, I, J0⟩ ⟨I, I, I, I, J0⟩ ?_
 refine Z1g (V := Int × Bool × (List (Str × Zc)) × (List (Zu × Zl))) (X := Bool × (List (Str × Zc)) × (List (Zu × Zl))) (lp := fun k v => F17_i1_l7 K a0 (F17_i1_c11 K) k v.1 v.2.1 v.2.2.1 v.2.2.2 = some r) (sh := fun v => ⟨[(2, (.ptr 2 0)), (4, (.ptr 96 0)), (17, (.sl 3 (a0.map Zp) false)), (18, (.int .i64 (a0.length : Int))), (19, (.int .i64 v.1))], [(2, (.box [(.sl 4 [] false), (.sl 5 [] false)])), (16, (.map (Zz e_str Z6 v.2.2.1))), (96, (.box [(.map 16), (.map 97), (.bool v.2.1)])), (97, (.map (Zz Zt Ze v.2.2.2)))]⟩) (x := fun v => F17_i1_c11 K v.1 v.2.1 v.2.2 = some r) (shx := fun v => ⟨[(2, (.ptr 2 0)), (4, (.ptr 96 0))], [(2, (.box [(.sl 4 [] false), (.sl 5 [] false)])), (16, (.map (Zz e_str Z6 v.2.1))), (96, (.box [(.map 16), (.map 97), (.bool v.1)])), (97, (.map (Zz Zt Ze v.2.2)))]⟩) (k := K) (v := (0, false, ([] : List (Str × Zc)), ([] : List (Zu × Zl)))) h ?_ ?_
 ·intro v h
  obtain ⟨v8, v9, v10⟩ := v
  try dsimp only at h ⊢
  unfold F17_i1_c11 at h
  refine Z9 <| Zb <| Z4 <| Z1 I (Zh I I) I ?_
  have ⟨v14, hv14, h⟩ := Z1b h
  refine Z1 I (st_call (d := some 95) (c := ⟨[(.ptr 96 0)] ++ [], [(96, (.box [(.map 16), (.map 97), (.bool v8)])), (16, (.map (Zz e_str Z6 v9))), (97, (.map (Zz Zt Ze v10)))], (.tup [(Zm v14.2), (.int .i64 v14.1)]), [(96, (.box [(.map 16), (.map 97), (.bool v8)])), (16, (.fmap (Zz e_str Z6 v9))), (97, (.fmap (Zz Zt Ze v10)))], [16, 97]⟩) (ar := [(.ptr 96 0)]) (caps := []) (news := []) (forg := [16, 97]) Tryz.call52 ((((F52_ok K v8 v9 v10 v14 hv14).sw 2000 96).sw 59 16).sw 57 97) I I ⟨I, J0⟩ I ⟨I, I, I, J0⟩ I) I <| Z1 I (st_extract I I I) I <| Z1 I (st_extract I I I) I <| Z1 I (Z19 sz44 I I I I I I I I) I <| Z1 I (Zj I I) I <| Z8 <| Z9 <| Z1e ?_
  have h := Option.some.inj h
  subst h
  refine (hret _ ?_).1
  exact ⟨[(Zm v14.2), (.int .i64 v14.1)], ⟨⟨2, _, I, I, .inr ⟨_, a44, I, I⟩⟩, I, J0⟩, I, J0⟩
 intro N k7 v h IH7 J7
 obtain ⟨v3, v4, v5, v6⟩ := v
 try dsimp only at h IH7 J7 ⊢
 cases k7 with
 | zero => cases h
 | succ k7 =>
  rw [F17_i1_l7] at h
  refine Zb <| Z4 <| Z1 I (Z1y (c := (decide (v3 < (a0.length : Int)))) I I I I) I <| Z8 <| Z9 <| Zb ?_
  have hif := Z2a h
  refine Z15 I (fun hc => ?_) (fun hc => ?_)
  ·have h := hif.1 hc
   refine Z18 <| Z9 <| Zb <| Z25 <| Zb <| Z4 ?_
   have ⟨hg16, h⟩ := Zx h
   refine Z1 I (Z1s (k := .i64) (l := a0) (enc := Zp) (z := Zq) (n := v3) (full := false) I s31 I I hg16 I) I <| Z1 I (st_loadIA I a39 I I I) I <| Z1 I (Z1z I z39 I I I) I <| Z1 I (Z19 sz39 I I I I I I I I) I <| Z8 <| Z9 <| Zb <| Z4 <| Z1 I (Zn I f39_2 I I) I <| Z1 I (Zs I o37 I I I) I ?_
   have ⟨v18, hv18, h⟩ := Z1b h
   refine Z1 I (Z1h (ar := [(.sl 14 ((a0.getD v3.toNat Zq).Spans.map Zf) false)]) Tryz.call47 (F47_ok K (a0.getD v3.toNat Zq).Spans v18 hv18) I I ⟨I, J0⟩ I) I <| Z1 I (Zj I I) I <| Z8 <| Z9 <| Zb <| Z4 <| Z1 I (st_makeMap I) I <| Z1 I (Zj I I) I <| Z8 <| Z9 <| Zb <| Zb <| Z4 <| Z1 I (Zh I I) I <| Z1 I (stx_len (l := v18) (enc := Zf) I s37 I) I <| Z1 I (Zh (v := (.int .i64 0)) I I) I <| Z8 <| Z9 <| Z1v (st' := ⟨[(2, (.ptr 2 0)), (4, (.ptr 96 0)), (6, (.ptr 6 0)), (7, (.sl 14 (v18.map Zf) false)), (8, (.map 26)), (17, (.sl 3 (a0.map Zp) false)), (18, (.int .i64 (a0.length : Int))), (19, (.int .i64 v3)), (27, (.sl 14 (v18.map Zf) false)), (28, (.int .i64 (v18.length : Int))), (29, (.int .i64 0))], [(2, (.box [(.sl 4 [] false), (.sl 5 [] false)])), (6, (.box (Zp (a0.getD v3.toNat Zq)).cells)), (16, (.map (Zz e_str Z6 v5))), (26, (.map (Zz Z1f Zf ([] : List (Int × Zg))))), (96, (.box [(.map 16), (.map 97), (.bool v4)])), (97, (.map (Zz Zt Ze v6)))]⟩) ⟨I, I, I, I, I, I, I, I, I, I, I, J0⟩ ⟨I, I, I, I, I, I, J0⟩ ?_
   refine Z1g (V := Int × (List (Int × Zg))) (X := (List (Int × Zg))) (lp := fun k v => F17_i1_l21 K v18 (F17_i1_c23 K v18 a0 v3 (F17_i1_l7 K a0 (F17_i1_c11 K) k7) v4 v5 v6) k v.1 v.2 = some r) (sh := fun v => ⟨[(2, (.ptr 2 0)), (4, (.ptr 96 0)), (6, (.ptr 6 0)), (7, (.sl 14 (v18.map Zf) false)), (8, (.map 26)), (17, (.sl 3 (a0.map Zp) false)), (18, (.int .i64 (a0.length : Int))), (19, (.int .i64 v3)), (27, (.sl 14 (v18.map Zf) false)), (28, (.int .i64 (v18.length : Int))), (29, (.int .i64 v.1))], [(2, (.box [(.sl 4 [] false), (.sl 5 [] false)])), (6, (.box (Zp (a0.getD v3.toNat Zq)).cells)), (16, (.map (Zz e_str Z6 v5))), (26, (.map (Zz Z1f Zf v.2))), (96, (.box [(.map 16), (.map 97), (.bool v4)])), (97, (.map (Zz Zt Ze v6)))]⟩) (x := fun v => F17_i1_c23 K v18 a0 v3 (F17_i1_l7 K a0 (F17_i1_c11 K) k7) v4 v5 v6 v = some r) (shx := fun v => ⟨[(2, (.ptr 2 0)), (4, (.ptr 96 0)), (6, (.ptr 6 0)), (7, (.sl 14 (v18.map Zf) false)), (8, (.map 26)), (17, (.sl 3 (a0.map Zp) false)), (18, (.int .i64 (a0.length : Int))), (19, (.int .i64 v3))], [(2, (.box [(.sl 4 [] false), (.sl 5 [] false)])), (6, (.box (Zp (a0.getD v3.toNat Zq)).cells)), (16, (.map (Zz e_str Z6 v5))), (26, (.map (Zz Z1f Zf v))), (96, (.box [(.map 16), (.map 97), (.bool v4)])), (97, (.map (Zz Zt Ze v6)))]⟩) (k := K) (v := (0, ([] : List (Int × Zg)))) h ?_ ?_
   ·intro v h
    revert h
    revert v
    intro v22 h
    try dsimp only at h ⊢
    unfold F17_i1_c23 at h
    refine Z9 <| Zb <| Z4 <| Z1 I (Zn I f39_1 I I) I <| Z1 I (Zs I o3 I I I) I <| Z1 I (Zj I I) I <| Z8 <| Z9 <| Zb <| Z4 <| Z1 I (Zh I I) I <| Z1 I (stx_len (l := v18) (enc := Zf) I s37 I) I <| Z1 I (Zh (v := (.int .i64 0)) I I) I <| Z8 <| Z9 <| Z1v (st' := ⟨[(2, (.ptr 2 0)), (4, (.ptr 96 0)), (8, (.map 26)), (11, (.int .i64 (a0.getD v3.toNat Zq).Weight)), (17, (.sl 3 (a0.map Zp) false)), (18, (.int .i64 (a0.length : Int))), (19, (.int .i64 v3)), (40, (.sl 14 (v18.map Zf) false)), (41, (.int .i64 (v18.length : Int))), (42, (.int .i64 0))], [(2, (.box [(.sl 4 [] false), (.sl 5 [] false)])), (16, (.map (Zz e_str Z6 v5))), (26, (.map (Zz Z1f Zf v22))), (96, (.box [(.map 16), (.map 97), (.bool v4)])), (97, (.map (Zz Zt Ze v6)))]⟩) ⟨I, I, I, I, I, I, I, I, I, I, J0⟩ ⟨I, I, I, I, I, J0⟩ ?_
    refine Z1g (V := Int × Bool × (List (Str × Zc)) × (List (Zu × Zl))) (X := Bool × (List (Str × Zc)) × (List (Zu × Zl))) (lp := fun k v => F17_i1_l29 K v18 a0 v3 v22 (F17_i1_c33 K (F17_i1_l7 K a0 (F17_i1_c11 K) k7) v3) k v.1 v.2.1 v.2.2.1 v.2.2.2 = some r) (sh := fun v => ⟨[(2, (.ptr 2 0)), (4, (.ptr 96 0)), (8, (.map 26)), (11, (.int .i64 (a0.getD v3.toNat Zq).Weight)), (17, (.sl 3 (a0.map Zp) false)), (18, (.int .i64 (a0.length : Int))), (19, (.int .i64 v3)), (40, (.sl 14 (v18.map Zf) false)), (41, (.int .i64 (v18.length : Int))), (42, (.int .i64 v.1))], [(2, (.box [(.sl 4 [] false), (.sl 5 [] false)])), (16, (.map (Zz e_str Z6 v.2.2.1))), (26, (.map (Zz Z1f Zf v22))), (96, (.box [(.map 16), (.map 97), (.bool v.2.1)])), (97, (.map (Zz Zt Ze v.2.2.2)))]⟩) (x := fun v => F17_i1_c33 K (F17_i1_l7 K a0 (F17_i1_c11 K) k7) v3 v.1 v.2.1 v.2.2 = some r) (shx := fun v => ⟨[(2, (.ptr 2 0)), (4, (.ptr 96 0)), (17, (.sl 3 (a0.map Zp) false)), (18, (.int .i64 (a0.length : Int))), (19, (.int .i64 v3))], [(2, (.box [(.sl 4 [] false), (.sl 5 [] false)])), (16, (.map (Zz e_str Z6 v.2.1))), (96, (.box [(.map 16), (.map 97), (.bool v.1)])), (97, (.map (Zz Zt Ze v.2.2)))]⟩) (k := K) (v := (0, v4, v5, v6)) h ?_ ?_
    ·intro v h
     obtain ⟨v30, v31, v32⟩ := v
     try dsimp only at h ⊢
     unfold F17_i1_c33 at h
     refine At.end <| Z9 <| Z4 <| Z1 I (Z1c (k := .i64) (b := 1) (c := (IntKind.i64.wrap (v3 + 1))) I I I I) I <| Z1 I (Zh I I) I <| Z8 ?_
     exact Z1d (IH7 _ ((IntKind.i64.wrap (v3 + 1)), v30, v31, v32) (Nat.lt_succ_self _) h) ⟨I, I, I, I, I, J0⟩ ⟨I, I, I, I, J0⟩
    intro N k29 v h IH29 J29
    obtain ⟨v25, v26, v27, v28⟩ := v
    try dsimp only at h IH29 J29 ⊢
    cases k29 with
    | zero => cases h
    | succ k29 =>
     rw [F17_i1_l29] at h
     refine Zb <| Z4 <| Z1 I (Z1y (c := (decide (v25 < (v18.length : Int)))) I I I I) I <| Z8 <| Z9 <| Zb ?_
     have hif := Z2a h
     refine Z15 I (fun hc => ?_) (fun hc => ?_)
     ·have h := hif.1 hc
      refine Z18 <| Z9 <| Zb ?_
      refine AWp.blockJoin (V := Bool × (List (Str × Zc)) × (List (Zu × Zl))) (lp := fun v => F17_i1_j39 K (F17_i1_l29 K v18 a0 v3 v22 (F17_i1_c33 K (F17_i1_l7 K a0 (F17_i1_c11 K) k7) v3) k29) v25 v.1 v.2.1 v.2.2 = some r) (sh := fun v => ⟨[(2, (.ptr 2 0)), (4, (.ptr 96 0)), (8, (.map 26)), (11, (.int .i64 (a0.getD v3.toNat Zq).Weight)), (17, (.sl 3 (a0.map Zp) false)), (18, (.int .i64 (a0.length : Int))), (19, (.int .i64 v3)), (40, (.sl 14 (v18.map Zf) false)), (41, (.int .i64 (v18.length : Int))), (42, (.int .i64 v25))], [(2, (.box [(.sl 4 [] false), (.sl 5 [] false)])), (16, (.map (Zz e_str Z6 v.2.1))), (26, (.map (Zz Z1f Zf v22))), (96, (.box [(.map 16), (.map 97), (.bool v.1)])), (97, (.map (Zz Zt Ze v.2.2)))]⟩) ?_ ?_
      ·intro v h
       obtain ⟨v36, v37, v38⟩ := v
       try dsimp only at h ⊢
       unfold F17_i1_j39 at h
       refine Z9 <| Z4 <| Z1 I (Z1c (k := .i64) (b := 1) (c := (IntKind.i64.wrap (v25 + 1))) I I I I) I <| Z1 I (Zh I I) I <| Z8 ?_
       exact Z1d (IH29 _ ((IntKind.i64.wrap (v25 + 1)), v36, v37, v38) (Nat.lt_succ_self _) h) ⟨I, I, I, I, I, I, I, I, I, I, J0⟩ ⟨I, I, I, I, I, J0⟩
      intro J39
      refine Zb <| Z4 ?_
      have ⟨hg40, h⟩ := Zx h
      refine Z1 I (Z1s (k := .i64) (l := v18) (enc := Zf) (z := Z2) (n := v25) (full := false) I s37 I I hg40 I) I <| Z1 I (st_loadIA I a56 I I I) I <| Z1 I (Z1z I z56 I I I) I <| Z1 I (Z19 sz56 I I I I I I I I) I <| Z8 <| Z9 <| Zb <| Z1t mixed <| Z3 0 I (Zh I I) <| Z3 1 I (Zn I f56_6 I I) <| Z3 2 I (Zs I o9 I I I) <| Z3 3 I (Zh I I) <| Z3 4 I (Zn I f56_11 I I) <| Z3 5 I (Zs I o4 I I I) <| Z3 6 I (Zh I I) ?_
      have ⟨v42, hv42, h⟩ := Z1b h
      refine Z3 7 I (Z1h (ar := [(.bool (v18.getD v25.toNat Z2).Error), (.int .i64 (a0.getD v3.toNat Zq).Weight)]) Tryz.call49 (F49_ok K (v18.getD v25.toNat Z2).Error (a0.getD v3.toNat Zq).Weight v42 hv42) I I ⟨I, I, J0⟩ I) <| Z3 8 I (Zn I f56_2 I I) <| Z3 9 I (Zs I o3 I I I) <| Z3 10 I (Z1y (b := 0) (c := ((v18.getD v25.toNat Z2).Parent == 0)) I I I I) <| Z3 11 I (Zh I I) ?_
      have ⟨v44, hv44, h⟩ := Z1b h
      refine Z3 12 I (Z1h (ar := [(.bool ((v18.getD v25.toNat Z2).Parent == 0)), (.int .i64 (a0.getD v3.toNat Zq).Weight)]) Tryz.call49 (F49_ok K ((v18.getD v25.toNat Z2).Parent == 0) (a0.getD v3.toNat Zq).Weight v44 hv44) I I ⟨I, I, J0⟩ I) <| Z3 13 I (stx_build (vs := [(0, (.str (v18.getD v25.toNat Z2).Service)), (1, (.int .i64 (a0.getD v3.toNat Zq).Weight)), (2, (.int .i64 v42)), (3, (.int .i64 v44))]) I st68 ⟨I, I, I, I, I, I, I, I, J0⟩ I) ?_
      have ⟨v46, hv46, h⟩ := Z1b h
      refine Z3 14 I (st_call (d := some 60) (c := ⟨[(.ptr 96 0), (.ag [(.str (v18.getD v25.toNat Z2).Service), (.int .i64 (a0.getD v3.toNat Zq).Weight), (.int .i64 v42), (.int .i64 v44)])] ++ [], [(96, (.box [(.map 16), (.map 97), (.bool v26)])), (16, (.map (Zz e_str Z6 v27))), (97, (.map (Zz Zt Ze v28)))], (.tup []), [(96, (.box [(.map 16), (.map 97), (.bool v46.1)])), (16, (.map (Zz e_str Z6 v46.2))), (97, (.map (Zz Zt Ze v28)))], []⟩) (ar := [(.ptr 96 0), (.ag [(.str (v18.getD v25.toNat Z2).Service), (.int .i64 (a0.getD v3.toNat Zq).Weight), (.int .i64 v42), (.int .i64 v44)])]) (caps := []) (news := []) (forg := []) Tryz.call48 ((((F48_ok K (⟨(v18.getD v25.toNat Z2).Service, (a0.getD v3.toNat Zq).Weight, v42, v44⟩ : Zc) v26 v27 v28 v46 hv46).sw 2000 96).sw 2001 16).sw 2002 97) I I ⟨I, I, J0⟩ I ⟨I, I, I, J0⟩ I) <| Z21 (by kernel_rfl) I <| Z9 <| Zb <| Z4 <| Z1 I (Zh I I) I <| Z1 I (Zn I f56_2 I I) I <| Z1 I (Zs I o3 I I I) I <| Z1 I (st_mlookupOk (l := v22) (a := (v18.getD v25.toNat Z2).Parent) (kv := (.int .i64 (v18.getD v25.toNat Z2).Parent)) I mt110 I I (.inl I) I I) I <| Z1 I (Zh I I) I <| Z1 I (st_extract I I I) I <| Z1 I (st_extract I I I) I <| Z1 I (Z1z I z56 I I I) I <| Z1 I (Z19 sz56 I I I I I I I I) I <| Z1 I (Zj I I) I <| Z8 <| Z9 <| Zb <| Z4 <| Z1 I (Zh I I) I <| Z1 I (Zh I I) I ?_
      have hif := Z2a h
      refine AOps.split (fun hc => ?_) (fun hc => ?_)
      ·have h := hif.1 hc
       refine Z11 I I I I (Zn I f56_6 I I) I <| Z11 I I I I (Zs I o9 I I I) I <| Z11 I I I I (Zn I f56_6 I I) I <| Z11 I I I I (Zs I o9 I I I) I <| Z11 I I I I (st_cmpS (c := (!(((mget q_i64 (v18.getD v25.toNat Z2).Parent v22).getD Z2).Service == (v18.getD v25.toNat Z2).Service))) I I I I) I <| Z1 I (st_pickT I I I) I <| Z8 <| Z9 ?_
       refine AWp.join (V := Bool × (List (Zu × Zl))) (lp := fun v => F17_i1_j49 K (F17_i1_l29 K v18 a0 v3 v22 (F17_i1_c33 K (F17_i1_l7 K a0 (F17_i1_c11 K) k7) v3) k29) v25 v46 v.1 v.2 = some r) (sh := fun v => ⟨[(2, (.ptr 2 0)), (4, (.ptr 96 0)), (8, (.map 26)), (11, (.int .i64 (a0.getD v3.toNat Zq).Weight)), (17, (.sl 3 (a0.map Zp) false)), (18, (.int .i64 (a0.length : Int))), (19, (.int .i64 v3)), (40, (.sl 14 (v18.map Zf) false)), (41, (.int .i64 (v18.length : Int))), (42, (.int .i64 v25))], [(2, (.box [(.sl 4 [] false), (.sl 5 [] false)])), (16, (.map (Zz e_str Z6 v46.2))), (26, (.map (Zz Z1f Zf v22))), (96, (.box [(.map 16), (.map 97), (.bool v.1)])), (97, (.map (Zz Zt Ze v.2)))]⟩) ?_ ?_
       ·intro v h
        obtain ⟨v47, v48⟩ := v
        try dsimp only at h ⊢
        unfold F17_i1_j49 at h
        refine At.end ?_
        exact Z1d (J39 (v47, v46.2, v48) h) ⟨I, I, I, I, I, I, I, I, I, I, J0⟩ ⟨I, I, I, I, I, J0⟩
       intro J49
       have hif := Z2a h
       refine Z15 I (fun hc => ?_) (fun hc => ?_)
       ·have h := hif.1 hc
        refine Z1t mixed <| Z3 0 I (Zh I I) <| Z3 1 I (Zn I f56_6 I I) <| Z3 2 I (Zs I o9 I I I) <| Z3 3 I (Zn I f56_6 I I) <| Z3 4 I (Zs I o9 I I I) <| Z3 5 I (Zh I I) <| Z3 6 I (Zn I f56_11 I I) <| Z3 7 I (Zs I o4 I I I) <| Z3 8 I (Zh I I) ?_
        have ⟨v51, hv51, h⟩ := Z1b h
        refine Z3 9 I (Z1h (ar := [(.bool (v18.getD v25.toNat Z2).Error), (.int .i64 (a0.getD v3.toNat Zq).Weight)]) Tryz.call49 (F49_ok K (v18.getD v25.toNat Z2).Error (a0.getD v3.toNat Zq).Weight v51 hv51) I I ⟨I, I, J0⟩ I) <| Z3 10 I (Z1l I a56 I I I I) ?_
        have ⟨v53, hv53, h⟩ := Z1b h
        refine Z3 11 I (Z1h (ar := [(Zf (v18.getD v25.toNat Z2))]) Tryz.call51 (F51_ok K (v18.getD v25.toNat Z2) v53 hv53) I I ⟨I, J0⟩ I) <| Z3 12 I (Zh I I) <| Z3 13 I (Z1c (k := .i64) (c := (IntKind.i64.wrap (v53 * (a0.getD v3.toNat Zq).Weight))) I I I I) <| Z3 14 I (stx_build (vs := [(0, (.str ((mget q_i64 (v18.getD v25.toNat Z2).Parent v22).getD Z2).Service)), (1, (.str (v18.getD v25.toNat Z2).Service)), (2, (.int .i64 (a0.getD v3.toNat Zq).Weight)), (3, (.int .i64 v51)), (4, (.int .i64 (IntKind.i64.wrap (v53 * (a0.getD v3.toNat Zq).Weight))))]) I st88 ⟨I, I, I, I, I, I, I, I, I, I, J0⟩ I) ?_
        have ⟨v55, hv55, h⟩ := Z1b h
        refine Z3 15 I (st_call (d := some 91) (c := ⟨[(.ptr 96 0), (.ag [(.str ((mget q_i64 (v18.getD v25.toNat Z2).Parent v22).getD Z2).Service), (.str (v18.getD v25.toNat Z2).Service), (.int .i64 (a0.getD v3.toNat Zq).Weight), (.int .i64 v51), (.int .i64 (IntKind.i64.wrap (v53 * (a0.getD v3.toNat Zq).Weight)))])] ++ [], [(96, (.box [(.map 16), (.map 97), (.bool v46.1)])), (16, (.map (Zz e_str Z6 v46.2))), (97, (.map (Zz Zt Ze v28)))], (.tup []), [(96, (.box [(.map 16), (.map 97), (.bool v55.1)])), (16, (.map (Zz e_str Z6 v46.2))), (97, (.map (Zz Zt Ze v55.2)))], []⟩) (ar := [(.ptr 96 0), (.ag [(.str ((mget q_i64 (v18.getD v25.toNat Z2).Parent v22).getD Z2).Service), (.str (v18.getD v25.toNat Z2).Service), (.int .i64 (a0.getD v3.toNat Zq).Weight), (.int .i64 v51), (.int .i64 (IntKind.i64.wrap (v53 * (a0.getD v3.toNat Zq).Weight)))])]) (caps := []) (news := []) (forg := []) Tryz.call50 ((((F50_ok K (⟨((mget q_i64 (v18.getD v25.toNat Z2).Parent v22).getD Z2).Service, (v18.getD v25.toNat Z2).Service, (a0.getD v3.toNat Zq).Weight, v51, (IntKind.i64.wrap (v53 * (a0.getD v3.toNat Zq).Weight))⟩ : Zl) v46.1 v46.2 v28 v55 hv55).sw 2000 96).sw 2001 16).sw 2002 97) I I ⟨I, I, J0⟩ I ⟨I, I, I, J0⟩ I) <| Z21 (by kernel_rfl) I ?_
        exact Z1d (J49 (v55.1, v55.2) h) ⟨I, I, I, I, I, I, I, I, I, I, J0⟩ ⟨I, I, I, I, I, J0⟩
       have h := hif.2 hc
       refine Z18 ?_
       exact Z1d (J49 (v46.1, v28) h) ⟨I, I, I, I, I, I, I, I, I, I, J0⟩ ⟨I, I, I, I, I, J0⟩
      have h := hif.2 hc
      iterate 5 refine Z1u I I I I I I I ?_
      refine Z1 I (st_pickF (v := (.bool false)) I I I) I <| Z8 <| Z9 ?_
      refine Z15 (b := false) I (fun hc => ?_) (fun hc => ?_)
      ·cases hc
      refine Z18 <| At.end ?_
      exact Z1d (J39 (v46.1, v46.2, v28) h) ⟨I, I, I, I, I, I, I, I, I, I, J0⟩ ⟨I, I, I, I, I, J0⟩
     have h := hif.2 hc
     refine Z29 <| At.thru ?_
     exact Z1d (J29 (v26, v27, v28) h) ⟨I, I, I, I, I, J0⟩ ⟨I, I, I, I, J0⟩
   intro N k21 v h IH21 J21
   obtain ⟨v19, v20⟩ := v
   try dsimp only at h IH21 J21 ⊢
   cases k21 with
   | zero => cases h
   | succ k21 =>
    rw [F17_i1_l21] at h
    refine Zb <| Z4 <| Z1 I (Z1y (c := (decide (v19 < (v18.length : Int)))) I I I I) I <| Z8 <| Z9 <| Zb ?_
    have hif := Z2a h
    refine Z15 I (fun hc => ?_) (fun hc => ?_)
    ·have h := hif.1 hc
     refine Z18 <| Z9 <| Zb <| Z25 <| Zb <| Z4 ?_
     have ⟨hg57, h⟩ := Zx h
     refine Z1 I (Z1s (k := .i64) (l := v18) (enc := Zf) (z := Z2) (n := v19) (full := false) I s37 I I hg57 I) I <| Z1 I (st_loadIA I a56 I I I) I <| Z1 I (Z1z I z56 I I I) I <| Z1 I (Z19 sz56 I I I I I I I I) I <| Z8 <| Z9 <| Z4 <| Z1 I (Zh I I) I <| Z1 I (Zn I f56_1 I I) I <| Z1 I (Zs I o3 I I I) I <| Z1 I (Z1l I a56 I I I I) I <| Z1 I (st_mapUpdate (l := v20) (a := (v18.getD v19.toNat Z2).Id) (b := (v18.getD v19.toNat Z2)) (kv := (.int .i64 (v18.getD v19.toNat Z2).Id)) (vv := (Zf (v18.getD v19.toNat Z2))) mt110 I I I I I I) I <| Z8 <| At.end <| Z9 <| Z4 <| Z1 I (Z1c (k := .i64) (b := 1) (c := (IntKind.i64.wrap (v19 + 1))) I I I I) I <| Z1 I (Zh I I) I <| Z8 ?_
     exact Z1d (IH21 _ ((IntKind.i64.wrap (v19 + 1)), (mput q_i64 (v18.getD v19.toNat Z2).Id (v18.getD v19.toNat Z2) v20)) (Nat.lt_succ_self _) h) ⟨I, I, I, I, I, I, I, I, I, I, I, J0⟩ ⟨I, I, I, I, I, I, J0⟩
    have h := hif.2 hc
    refine Z29 <| At.thru ?_
    exact Z1d (J21 v20 h) ⟨I, I, I, I, I, I, I, I, J0⟩ ⟨I, I, I, I, I, I, J0⟩
  have h := hif.2 hc
  refine Z29 <| At.thru ?_
  exact Z1d (J7 (v4, v5, v6) h) ⟨I, I, J0⟩ ⟨I, I, I, I, J0⟩
def F61_c12 (_K : Nat) (v11 : (List (Z7 × Bool))) : Option ((List (Z7 × Bool))) :=
 some v11
def F61_l10 (K : Nat) (a0 : Zd) (a2 : Int) (c13 : (List (Z7 × Bool)) → Option ((List (Z7 × Bool)))) : Nat → Int → (List (Z7 × Bool)) → Option ((List (Z7 × Bool)))
 | 0, _, _ => none
 | k10 + 1, v8, v9 =>
 if (decide (v8 < (a0.Calls.length : Int))) = true then
 if (0 : Int) ≤ v8 ∧ v8 < a0.Calls.length then
 (F61_l10 K a0 a2 c13 k10) (IntKind.i64.wrap (v8 + 1)) (mput Z22 (⟨a2, (a0.Calls.getD v8.toNat Zk).Caller, (a0.Calls.getD v8.toNat Zk).Callee⟩ : Z7) true v9)
 else none
 else
 c13 v9
def F61_c6 (K : Nat) (a0 : Zd) (a2 : Int) (v5 : (List (Z7 × Bool))) : Option ((List (Z7 × Bool))) :=
 F61_l10 K a0 a2 (F61_c12 K) K 0 v5
def F61_l4 (K : Nat) (a0 : Zd) (a1 : Int) (c7 : (List (Z7 × Bool)) → Option ((List (Z7 × Bool)))) : Nat → Int → (List (Z7 × Bool)) → Option ((List (Z7 × Bool)))
 | 0, _, _ => none
 | k4 + 1, v2, v3 =>
 if (decide (v2 < (a0.Services.length : Int))) = true then
 if (0 : Int) ≤ v2 ∧ v2 < a0.Services.length then
 (F61_l4 K a0 a1 c7 k4) (IntKind.i64.wrap (v2 + 1)) (mput Z22 (⟨a1, (a0.Services.getD v2.toNat Zr).Name, []⟩ : Z7) true v3)
 else none
 else
 c7 v3
def F61 (K : Nat) (a0 : Zd) (a1 : Int) (a2 : Int) : Option ((List (Z7 × Bool))) :=
 F61_l4 K a0 a1 (F61_c6 K a0 a2) K 0 ([] : List (Z7 × Bool))
theorem F61_ok (K : Nat) (a0 : Zd) (a1 : Int) (a2 : Int) (r : (List (Z7 × Bool))) (h : F61 K a0 a1 a2 = some r) : ACall P 61 ⟨[(Zm a0), (.int .i64 a1), (.int .i64 a2)], [], (.map 12), [(12, (.map (Zz Z5 Z1x r)))], [12]⟩ := by
 refine Z1r Tryz.func61 Tryz.results61 rfl Tryz.ntmps61 rfl rfl rfl ?_
 intro E Q hP hN hro hret
 obtain ⟨P', nt', w0, F0, p0, S0, β0, ro0⟩ := E
 simp only at hP hN
 subst hP hN
 dsimp only [argT]
 unfold F61 at h
 refine Zb <| Z4 <| Z1 I (st_box I I I I I) I <| Z1 I (Zj (v := .nilm) I I) I <| Z8 <| Z9 <| Zb <| Z4 <| Z1 I (st_makeMap I) I <| Z1 I (Zj I I) I <| Z8 <| Z9 <| Zb <| Zb <| Z4 <| Z1 I (Zn I f44_0 I I) I <| Z1 I (Zs I o41 I I I) I <| Z1 I (stx_len (l := a0.Services) (enc := Z6) I s41 I) I <| Z1 I (Zh (v := (.int .i64 0)) I I) I <| Z8 <| Z9 <| Z1v (st' := ⟨[(1, (.int .i64 a1)), (2, (.int .i64 a2)), (3, (.ptr 3 0)), (7, (.map 12)), (14, (.sl 4 (a0.Services.map Z6) false)), (15, (.int .i64 (a0.Services.length : Int))), (16, (.int .i64 0))], [(3, (.box (Zm a0).cells)), (12, (.map (Zz Z5 Z1x ([] : List (Z7 × Bool)))))]⟩) ⟨I, I, I, I, I, I, I, J0⟩ ⟨I, I, J0⟩ ?_
 refine Z1g (V := Int × (List (Z7 × Bool))) (X := (List (Z7 × Bool))) (lp := fun k v => F61_l4 K a0 a1 (F61_c6 K a0 a2) k v.1 v.2 = some r) (sh := fun v => ⟨[(1, (.int .i64 a1)), (2, (.int .i64 a2)), (3, (.ptr 3 0)), (7, (.map 12)), (14, (.sl 4 (a0.Services.map Z6) false)), (15, (.int .i64 (a0.Services.length : Int))), (16, (.int .i64 v.1))], [(3, (.box (Zm a0).cells)), (12, (.map (Zz Z5 Z1x v.2)))]⟩) (x := fun v => F61_c6 K a0 a2 v = some r) (shx := fun v => ⟨[(2, (.int .i64 a2)), (3, (.ptr 3 0)), (7, (.map 12))], [(3, (.box (Zm a0).cells)), (12, (.map (Zz Z5 Z1x v)))]⟩) (k := K) (v := (0, ([] : List (Z7 × Bool)))) h ?_ ?_
 ·intro v h
  revert h
  revert v
  intro v5 h
  try dsimp only at h ⊢
  unfold F61_c6 at h
  refine Z9 <| Zb <| Zb <| Z4 <| Z1 I (Zn I f44_1 I I) I <| Z1 I (Zs I o42 I I I) I <| Z1 I (stx_len (l := a0.Calls) (enc := Ze) I s42 I) I <| Z1 I (Zh (v := (.int .i64 0)) I I) I <| Z8 <| Z9 <| Z1v (st' := ⟨[(2, (.int .i64 a2)), (7, (.map 12)), (27, (.sl 5 (a0.Calls.map Ze) false)), (28, (.int .i64 (a0.Calls.length : Int))), (29, (.int .i64 0))], [(12, (.map (Zz Z5 Z1x v5)))]⟩) ⟨I, I, I, I, I, J0⟩ ⟨I, J0⟩ ?_
  refine Z1g (V := Int × (List (Z7 × Bool))) (X := (List (Z7 × Bool))) (lp := fun k v => F61_l10 K a0 a2 (F61_c12 K) k v.1 v.2 = some r) (sh := fun v => ⟨[(2, (.int .i64 a2)), (7, (.map 12)), (27, (.sl 5 (a0.Calls.map Ze) false)), (28, (.int .i64 (a0.Calls.length : Int))), (29, (.int .i64 v.1))], [(12, (.map (Zz Z5 Z1x v.2)))]⟩) (x := fun v => F61_c12 K v = some r) (shx := fun v => ⟨[(7, (.map 12))], [(12, (.map (Zz Z5 Z1x v)))]⟩) (k := K) (v := (0, v5)) h ?_ ?_
  ·intro v h
   revert h
   revert v
   intro v11 h
   try dsimp only at h ⊢
   unfold F61_c12 at h
   refine Z9 <| Zb <| Z4 <| Z1 I (Zh I I) I <| Z1 I (Zj I I) I <| Z8 <| Z9 <| Z1e ?_
   have h := Option.some.inj h
   subst h
   refine (hret _ ?_).1
   exact ⟨[(.map 12)], ⟨I, J0⟩, I, ⟨I, J0⟩⟩
  intro N k10 v h IH10 J10
  obtain ⟨v8, v9⟩ := v
  try dsimp only at h IH10 J10 ⊢
  cases k10 with
  | zero => cases h
  | succ k10 =>
   rw [F61_l10] at h
   refine Zb <| Z4 <| Z1 I (Z1y (c := (decide (v8 < (a0.Calls.length : Int)))) I I I I) I <| Z8 <| Z9 <| Zb ?_
   have hif := Z2a h
   refine Z15 I (fun hc => ?_) (fun hc => ?_)
   ·have h := hif.1 hc
    refine Z18 <| Z9 <| Zb <| Z25 <| Zb <| Z4 ?_
    have ⟨hg15, h⟩ := Zx h
    refine Z1 I (Z1s (k := .i64) (l := a0.Calls) (enc := Ze) (z := Zk) (n := v8) (full := false) I s42 I I hg15 I) I <| Z1 I (st_loadIA I a88 I I I) I <| Z1 I (Z1z I z88 I I I) I <| Z1 I (Z19 sz88 I I I I I I I I) I <| Z8 <| Z9 <| Z4 <| Z1 I (Zh I I) I <| Z1 I (Zh I I) I <| Z1 I (Zn I f88_0 I I) I <| Z1 I (Zs I o9 I I I) I <| Z1 I (Zn I f88_1 I I) I <| Z1 I (Zs I o9 I I I) I <| Z1 I (stx_build (vs := [(0, (.int .i64 a2)), (1, (.str (a0.Calls.getD v8.toNat Zk).Caller)), (2, (.str (a0.Calls.getD v8.toNat Zk).Callee))]) I st64 ⟨I, I, I, I, I, I, J0⟩ I) I <| Z1 I (st_mapUpdate (l := v9) (a := (⟨a2, (a0.Calls.getD v8.toNat Zk).Caller, (a0.Calls.getD v8.toNat Zk).Callee⟩ : Z7)) (b := true) (kv := (.ag [(.int .i64 a2), (.str (a0.Calls.getD v8.toNat Zk).Caller), (.str (a0.Calls.getD v8.toNat Zk).Callee)])) (vv := (.bool true)) mt131 I I I I I I) I <| Z8 <| At.end <| Z9 <| Z4 <| Z1 I (Z1c (k := .i64) (b := 1) (c := (IntKind.i64.wrap (v8 + 1))) I I I I) I <| Z1 I (Zh I I) I <| Z8 ?_
    exact Z1d (IH10 _ ((IntKind.i64.wrap (v8 + 1)), (mput Z22 (⟨a2, (a0.Calls.getD v8.toNat Zk).Caller, (a0.Calls.getD v8.toNat Zk).Callee⟩ : Z7) true v9)) (Nat.lt_succ_self _) h) ⟨I, I, I, I, I, J0⟩ ⟨I, J0⟩
   have h := hif.2 hc
   refine Z29 <| At.thru ?_
   exact Z1d (J10 v9 h) ⟨I, J0⟩ ⟨I, J0⟩
 intro N k4 v h IH4 J4
 obtain ⟨v2, v3⟩ := v
 try dsimp only at h IH4 J4 ⊢
 cases k4 with
 | zero => cases h
 | succ k4 =>
  rw [F61_l4] at h
  refine Zb <| Z4 <| Z1 I (Z1y (c := (decide (v2 < (a0.Services.length : Int)))) I I I I) I <| Z8 <| Z9 <| Zb ?_
  have hif := Z2a h
  refine Z15 I (fun hc => ?_) (fun hc => ?_)
  ·have h := hif.1 hc
   refine Z18 <| Z9 <| Zb <| Z25 <| Zb <| Z4 ?_
   have ⟨hg17, h⟩ := Zx h
   refine Z1 I (Z1s (k := .i64) (l := a0.Services) (enc := Z6) (z := Zr) (n := v2) (full := false) I s41 I I hg17 I) I <| Z1 I (st_loadIA I a68 I I I) I <| Z1 I (Z1z I z68 I I I) I <| Z1 I (Z19 sz68 I I I I I I I I) I <| Z8 <| Z9 <| Z4 <| Z1 I (Zh I I) I <| Z1 I (Zh I I) I <| Z1 I (Zn I f68_0 I I) I <| Z1 I (Zs I o9 I I I) I <| Z1 I (stx_build (vs := [(0, (.int .i64 a1)), (1, (.str (a0.Services.getD v2.toNat Zr).Name)), (2, (.str []))]) I st64 ⟨I, I, I, I, I, I, J0⟩ I) I <| Z1 I (st_mapUpdate (l := v3) (a := (⟨a1, (a0.Services.getD v2.toNat Zr).Name, []⟩ : Z7)) (b := true) (kv := (.ag [(.int .i64 a1), (.str (a0.Services.getD v2.toNat Zr).Name), (.str [])])) (vv := (.bool true)) mt131 I I I I I I) I <| Z8 <| At.end <| Z9 <| Z4 <| Z1 I (Z1c (k := .i64) (b := 1) (c := (IntKind.i64.wrap (v2 + 1))) I I I I) I <| Z1 I (Zh I I) I <| Z8 ?_
   exact Z1d (IH4 _ ((IntKind.i64.wrap (v2 + 1)), (mput Z22 (⟨a1, (a0.Services.getD v2.toNat Zr).Name, []⟩ : Z7) true v3)) (Nat.lt_succ_self _) h) ⟨I, I, I, I, I, I, I, J0⟩ ⟨I, I, J0⟩
  have h := hif.2 hc
  refine Z29 <| At.thru ?_
  exact Z1d (J4 v3 h) ⟨I, I, I, J0⟩ ⟨I, I, J0⟩
def F64 (_K : Nat) (_a0 : (List (Z7 × Bool))) : Option (Unit) :=
 some ()
theorem F64_ok (K : Nat) (a0 : (List (Z7 × Bool))) (r : Unit) (h : F64 K a0 = some r) : ACall P 64 ⟨[(.map 2000)], [(2000, (.map (Zz Z5 Z1x a0)))], (.clo 106 [(.ptr 1 0)]), [(2000, (.map (Zz Z5 Z1x a0))), (1, (.box [(.map 2000)]))], [1]⟩ := by
 refine Z1r Tryz.func64 Tryz.results64 rfl Tryz.ntmps64 rfl rfl rfl ?_
 intro E Q hP hN hro hret
 obtain ⟨P', nt', w0, F0, p0, S0, β0, ro0⟩ := E
 simp only at hP hN
 subst hP hN
 dsimp only [argT]
 unfold F64 at h
 refine Zb <| Z4 <| Z1 I (st_box I I I I I) I <| Z1 I (Zj (v := .nilf) I I) I <| Z8 <| Z9 <| Zb <| Z4 <| Z1 I (stx_makeFunc (vs := [(.ptr 1 0)]) I ⟨I, J0⟩) I <| Z1 I (Zj I I) I <| Z8 <| Z9 <| Z1e ?_
 have h := Option.some.inj h
 subst h
 refine (hret _ ?_).1
 exact ⟨[(.clo 106 [(.ptr 1 0)])], ⟨I, J0⟩, I, ⟨I, I, J0⟩⟩
def F104_j2 (_K : Nat) (v1 : (List Z7)) : Option ((List Z7)) :=
 some v1
def F104 (K : Nat) (a1 : Int) : Option ((List Z7)) :=
 if (decide (a1 < 0)) = true then
 none
 else
 if (decide ((IntKind.i64.wrap (a1 - (IntKind.i64.wrap (0 - (([] : List Z7).length : Int))))) > 0)) = true then
 if 0 < (IntKind.i64.wrap (a1 - (IntKind.i64.wrap (0 - (([] : List Z7).length : Int))))) ∧ (IntKind.i64.wrap (a1 - (IntKind.i64.wrap (0 - (([] : List Z7).length : Int))))) ≤ 1073741824 then
 if (0 : Int) ≤ 0 ∧ 0 ≤ (([] : List Z7).length : Int) ∧ (([] : List Z7).length : Int) ≤ ((List.replicate (IntKind.i64.wrap (a1 - (IntKind.i64.wrap (0 - (([] : List Z7).length : Int))))).toNat (Zv : Z7)).length : Nat) then
 if (0 + (0 : Int).toNat) + ((([] : List Z7).length : Int).toNat - (0 : Int).toNat) ≤ (List.replicate (IntKind.i64.wrap (a1 - (IntKind.i64.wrap (0 - (([] : List Z7).length : Int))))).toNat (Zv : Z7)).length then
 if (0 + (0 : Int).toNat) + ((([] : List Z7).length : Int).toNat - (0 : Int).toNat) ≤ (List.replicate (IntKind.i64.wrap (a1 - (IntKind.i64.wrap (0 - (([] : List Z7).length : Int))))).toNat (Zv : Z7)).length then
 F104_j2 K (((List.replicate (IntKind.i64.wrap (a1 - (IntKind.i64.wrap (0 - (([] : List Z7).length : Int))))).toNat (Zv : Z7)).drop (0 + (0 : Int).toNat)).take ((([] : List Z7).length : Int).toNat - (0 : Int).toNat))
 else none
 else none
 else none
 else none
 else
 F104_j2 K []
theorem F104_ok (K : Nat) (a1 : Int) (r : (List Z7)) (h : F104 K a1 = some r) : ACall P 104 ⟨[(.sl 3 [] true), (.int .i64 a1)], [], .vs 4, [(4, .vec 3 (List.map Z5 r))], [4]⟩ := by
 refine Z1r Tryz.func104 Tryz.results104 rfl Tryz.ntmps104 rfl rfl rfl ?_
 intro E Q hP hN hro hret
 obtain ⟨P', nt', w0, F0, p0, S0, β0, ro0⟩ := E
 simp only at hP hN
 subst hP hN
 dsimp only [argT]
 unfold F104 at h
 refine Zb <| Z4 <| Z1 I (Zj (v := (.sl 3 [] false)) I I) I <| Z8 <| Z9 <| Zb <| Zb <| Z4 <| Z1 I (Zh I I) I <| Z1 I (Z1y (b := 0) (c := (decide (a1 < 0))) I I I I) I <| Z8 <| Z9 ?_
 have hif := Z2a h
 refine Z15 I (fun hc => ?_) (fun hc => ?_)
 ·have h := hif.1 hc
  cases h
 have h := hif.2 hc
 refine Z18 <| Z9 <| Zb <| Zb <| Z4 <| Z1 I (Zh I I) I <| Z1 I (Zh (v := (.sl 3 [] true)) I I) I <| Z1 I (st_capF I u60 I) I <| Z1 I (Zh (v := (.sl 3 [] true)) I I) I <| Z1 I (stx_len (l := ([] : List Z7)) (enc := Z5) I s60 I) I <| Z1 I (Z1c (k := .i64) (a := 0) (b := (([] : List Z7).length : Int)) (c := (IntKind.i64.wrap (0 - (([] : List Z7).length : Int)))) I I I I) I <| Z1 I (Z1c (k := .i64) (b := (IntKind.i64.wrap (0 - (([] : List Z7).length : Int)))) (c := (IntKind.i64.wrap (a1 - (IntKind.i64.wrap (0 - (([] : List Z7).length : Int)))))) I I I I) I <| Z1 I (Zj I I) I <| Z8 <| Z9 <| Zb <| Z4 <| Z1 I (Zh I I) I <| Z1 I (Z1y (b := 0) (c := (decide ((IntKind.i64.wrap (a1 - (IntKind.i64.wrap (0 - (([] : List Z7).length : Int))))) > 0))) I I I I) I <| Z8 <| Z9 ?_
 refine AWp.join (V := (List Z7)) (lp := fun v => F104_j2 K v = some r) (sh := fun v => ⟨[(0, (.vs 0))], [(0, (.vec 3 (List.map Z5 v)))]⟩) ?_ ?_
 ·intro v h
  revert h
  revert v
  intro v1 h
  try dsimp only at h ⊢
  unfold F104_j2 at h
  refine Z9 <| Zb <| Z4 <| Z1 I (Zh I I) I <| Z1 I (Zj I I) I <| Z8 <| Z9 <| Z1e <| At.ghost (st' := ⟨[(4, (.vs 4))], [(4, (.vec 3 (List.map Z5 v1)))]⟩) (fun a w h => (Z17 _ (ghost_sw (a := 0) (b := 4) I I a w (Z17 ⟨[(4, (.vs 0))], [(0, (.vec 3 (List.map Z5 v1)))]⟩ h ⟨I, J0⟩ ⟨I, J0⟩)) ⟨I, J0⟩ ⟨I, J0⟩)) ?_
  have h := Option.some.inj h
  subst h
  refine (hret _ ?_).1
  exact ⟨[(.vs 4)], ⟨I, J0⟩, I, ⟨I, J0⟩⟩
 intro J2
 have hif := Z2a h
 refine Z15 I (fun hc => ?_) (fun hc => ?_)
 ·have h := hif.1 hc
  refine Z4 <| Z1 I (Zh (v := (.sl 3 [] true)) I I) I <| Z1 I (Zh (v := (.sl 3 [] true)) I I) I <| Z1 I (st_capF I u60 I) I <| Z1 I (st_sliceNil (kh := .i64) I s60 I I) I <| Z1 I (Zh I I) I ?_
  have ⟨hg3, h⟩ := Zx h
  refine Z1 I (st_appendZeros (ky := .i64) (kn := .i64) (c := (IntKind.i64.wrap (a1 - (IntKind.i64.wrap (0 - (([] : List Z7).length : Int)))))) (n := (IntKind.i64.wrap (a1 - (IntKind.i64.wrap (0 - (([] : List Z7).length : Int))))).toNat) I el60 I u3 ze64 els_Ttopology_Difference I I I hg3 I) I <| Z1 I (Zh (v := (.sl 3 [] true)) I I) I <| Z1 I (stx_len (l := ([] : List Z7)) (enc := Z5) I s60 I) I ?_
  have ⟨hg4, h⟩ := Zx h
  have ⟨hg5, h⟩ := Zx h
  refine Z1 I (stx_sliceVH (v := (.vs 22)) (n := 22) (off := 0) (len := (List.replicate (IntKind.i64.wrap (a1 - (IntKind.i64.wrap (0 - (([] : List Z7).length : Int))))).toNat (Zv : Z7)).length) (l := (List.replicate (IntKind.i64.wrap (a1 - (IntKind.i64.wrap (0 - (([] : List Z7).length : Int))))).toNat (Zv : Z7))) (enc := Z5) (kh := .i64) (hi := (([] : List Z7).length : Int)) I s60 I I (vecR_map _ _ _) I hg4 I) I <| Z1 I (Zj I I) I <| Z8 ?_
  have ⟨hg6, h⟩ := Zx h
  refine At.ghost (st' := ⟨[(0, (.vs 22))], [(22, (.vec 3 (List.map Z5 (((List.replicate (IntKind.i64.wrap (a1 - (IntKind.i64.wrap (0 - (([] : List Z7).length : Int))))).toNat (Zv : Z7)).drop (0 + (0 : Int).toNat)).take ((([] : List Z7).length : Int).toNat - (0 : Int).toNat)))))]⟩) (fun a w h => (Z17 _ (ghost_trunc (k := 0) (m := 22) (sz := 3) (off := (0 + (0 : Int).toNat)) (len := ((([] : List Z7).length : Int).toNat - (0 : Int).toNat)) (enc := Z5) (l := (List.replicate (IntKind.i64.wrap (a1 - (IntKind.i64.wrap (0 - (([] : List Z7).length : Int))))).toNat (Zv : Z7))) I hg6 a w (Z17 ⟨[(0, (.vsub 22 (0 + (0 : Int).toNat) ((([] : List Z7).length : Int).toNat - (0 : Int).toNat) false))], [(22, (.vec 3 (List.map Z5 (List.replicate (IntKind.i64.wrap (a1 - (IntKind.i64.wrap (0 - (([] : List Z7).length : Int))))).toNat (Zv : Z7)))))]⟩ h ⟨I, J0⟩ ⟨I, J0⟩)) ⟨I, J0⟩ ⟨I, J0⟩)) <| At.ghost (st' := ⟨[(0, (.vs 0))], [(0, (.vec 3 (List.map Z5 (((List.replicate (IntKind.i64.wrap (a1 - (IntKind.i64.wrap (0 - (([] : List Z7).length : Int))))).toNat (Zv : Z7)).drop (0 + (0 : Int).toNat)).take ((([] : List Z7).length : Int).toNat - (0 : Int).toNat)))))]⟩) (fun a w h => (Z17 _ (ghost_sw (a := 22) (b := 0) I I a w (Z17 ⟨[(0, (.vs 22))], [(22, (.vec 3 (List.map Z5 (((List.replicate (IntKind.i64.wrap (a1 - (IntKind.i64.wrap (0 - (([] : List Z7).length : Int))))).toNat (Zv : Z7)).drop (0 + (0 : Int).toNat)).take ((([] : List Z7).length : Int).toNat - (0 : Int).toNat)))))]⟩ h ⟨I, J0⟩ ⟨I, J0⟩)) ⟨I, J0⟩ ⟨I, J0⟩)) ?_
  exact Z1d (J2 (((List.replicate (IntKind.i64.wrap (a1 - (IntKind.i64.wrap (0 - (([] : List Z7).length : Int))))).toNat (Zv : Z7)).drop (0 + (0 : Int).toNat)).take ((([] : List Z7).length : Int).toNat - (0 : Int).toNat)) h) ⟨I, J0⟩ ⟨I, J0⟩
 have h := hif.2 hc
 refine Z18 <| At.ghost (st' := ⟨[(0, (.vs 0))], [(0, (.vec 3 (List.map Z5 ([] : List Z7))))]⟩) (fun a w h => (Z17 _ (ghost_own (k := 0) (m := 0) (sz := 3) I I a w (Z17 ⟨[(0, (.sl 3 [] true))], []⟩ h ⟨I, J0⟩ J0)) ⟨I, J0⟩ ⟨I, J0⟩)) ?_
 exact Z1d (J2 [] h) ⟨I, J0⟩ ⟨I, J0⟩
def F62_c13 (_K : Nat) (v12 : (List Z7)) : Option ((List Z7)) :=
 some v12
def F62_l11 (K : Nat) (a0 : (List (List Z7))) (c14 : (List Z7) → Option ((List Z7))) : Nat → Int → (List Z7) → Option ((List Z7))
 | 0, _, _ => none
 | k11 + 1, v9, v10 =>
 if (decide (v9 < (a0.length : Int))) = true then
 if (0 : Int) ≤ v9 ∧ v9 < a0.length then
 if v10.length + (a0.getD v9.toNat []).length ≤ 1073741824 then
 (F62_l11 K a0 c14 k11) (IntKind.i64.wrap (v9 + 1)) (v10 ++ (a0.getD v9.toNat []))
 else none
 else none
 else
 c14 v10
def F62_c5 (K : Nat) (a0 : (List (List Z7))) (v4 : Int) : Option ((List Z7)) :=
 (F104 K v4).bind fun v8 =>
 F62_l11 K a0 (F62_c13 K) K 0 v8
def F62_l3 (K : Nat) (a0 : (List (List Z7))) (c6 : Int → Option ((List Z7))) : Nat → Int → Int → Option ((List Z7))
 | 0, _, _ => none
 | k3 + 1, v1, v2 =>
 if (decide (v2 < (a0.length : Int))) = true then
 if (0 : Int) ≤ v2 ∧ v2 < a0.length then
 if (decide ((IntKind.i64.wrap (v1 + ((a0.getD v2.toNat []).length : Int))) < 0)) = true then
 none
 else
 (F62_l3 K a0 c6 k3) (IntKind.i64.wrap (v1 + ((a0.getD v2.toNat []).length : Int))) (IntKind.i64.wrap (v2 + 1))
 else none
 else
 c6 v1
def F62 (K : Nat) (a0 : (List (List Z7))) : Option ((List Z7)) :=
 F62_l3 K a0 (F62_c5 K a0) K 0 0
theorem F62_ok (K : Nat) (a0 : (List (List Z7))) (r : (List Z7)) (h : F62 K a0 = some r) : ACall P 62 ⟨[(.sl 1 (a0.map Z1w) false)], [], .vs 2, [(2, .vec 3 (List.map Z5 r))], [2]⟩ := by
 refine Z1r Tryz.func62 Tryz.results62 rfl Tryz.ntmps62 rfl rfl rfl ?_
 intro E Q hP hN hro hret
 obtain ⟨P', nt', w0, F0, p0, S0, β0, ro0⟩ := E
 simp only at hP hN
 subst hP hN
 dsimp only [argT]
 unfold F62 at h
 refine Zb <| Z4 <| Z1 I (Zj (v := (.sl 3 [] false)) I I) I <| Z8 <| Z9 <| Zb <| Z4 <| Z1 I (Zj (v := (.int .i64 0)) I I) I <| Z8 <| Z9 <| Zb <| Zb <| Z4 <| Z1 I (Zh I I) I <| Z1 I (stx_len (l := a0) (enc := Z1w) I s192 I) I <| Z1 I (Zh (v := (.int .i64 0)) I I) I <| Z8 <| Z9 <| Z1v (st' := ⟨[(0, (.sl 1 (a0.map Z1w) false)), (3, (.int .i64 0)), (9, (.sl 1 (a0.map Z1w) false)), (10, (.int .i64 (a0.length : Int))), (11, (.int .i64 0))], []⟩) ⟨I, I, I, I, I, J0⟩ J0 ?_
 refine Z1g (V := Int × Int) (X := Int) (lp := fun k v => F62_l3 K a0 (F62_c5 K a0) k v.1 v.2 = some r) (sh := fun v => ⟨[(0, (.sl 1 (a0.map Z1w) false)), (3, (.int .i64 v.1)), (9, (.sl 1 (a0.map Z1w) false)), (10, (.int .i64 (a0.length : Int))), (11, (.int .i64 v.2))], []⟩) (x := fun v => F62_c5 K a0 v = some r) (shx := fun v => ⟨[(0, (.sl 1 (a0.map Z1w) false)), (3, (.int .i64 v))], []⟩) (k := K) (v := (0, 0)) h ?_ ?_
 ·intro v h
  revert h
  revert v
  intro v4 h
  try dsimp only at h ⊢
  unfold F62_c5 at h
  refine Z9 <| Zb <| Z4 <| Z1 I (Zh I I) I ?_
  have ⟨v8, hv8, h⟩ := Z1b h
  refine Z1 I (st_callO (sz := 3) (es := (List.map Z5 v8)) (ar := [(.sl 3 [] true), (.int .i64 v4)]) (caps := []) Tryz.call104 ((F104_ok K v4 v8 hv8).sw 4 24) I I ⟨I, I, J0⟩ I) I <| Z1 I (Zj I I) I <| Z8 <| Z9 <| Zb <| Zb <| Z4 <| Z1 I (Zh I I) I <| Z1 I (stx_len (l := a0) (enc := Z1w) I s192 I) I <| Z1 I (Zh (v := (.int .i64 0)) I I) I <| Z8 <| Z9 <| AWp.ghost (st' := ⟨[(6, (.vs 6)), (25, (.sl 1 (a0.map Z1w) false)), (26, (.int .i64 (a0.length : Int))), (27, (.int .i64 0))], [(6, (.vec 3 (List.map Z5 v8)))]⟩) (fun a w h => (Z17 _ (ghost_sw (a := 24) (b := 6) I I a w (Z17 ⟨[(6, (.vs 24)), (25, (.sl 1 (a0.map Z1w) false)), (26, (.int .i64 (a0.length : Int))), (27, (.int .i64 0))], [(24, (.vec 3 (List.map Z5 v8)))]⟩ h ⟨I, I, I, I, J0⟩ ⟨I, J0⟩)) ⟨I, I, I, I, J0⟩ ⟨I, J0⟩)) <| Z1v (st' := ⟨[(6, (.vs 6)), (25, (.sl 1 (a0.map Z1w) false)), (26, (.int .i64 (a0.length : Int))), (27, (.int .i64 0))], [(6, (.vec 3 (List.map Z5 v8)))]⟩) ⟨I, I, I, I, J0⟩ ⟨I, J0⟩ ?_
  refine Z1g (V := Int × (List Z7)) (X := (List Z7)) (lp := fun k v => F62_l11 K a0 (F62_c13 K) k v.1 v.2 = some r) (sh := fun v => ⟨[(6, (.vs 6)), (25, (.sl 1 (a0.map Z1w) false)), (26, (.int .i64 (a0.length : Int))), (27, (.int .i64 v.1))], [(6, (.vec 3 (List.map Z5 v.2)))]⟩) (x := fun v => F62_c13 K v = some r) (shx := fun v => ⟨[(6, (.vs 6))], [(6, (.vec 3 (List.map Z5 v)))]⟩) (k := K) (v := (0, v8)) h ?_ ?_
  ·intro v h
   revert h
   revert v
   intro v12 h
   try dsimp only at h ⊢
   unfold F62_c13 at h
   refine Z9 <| Zb <| Z4 <| Z1 I (Zh I I) I <| Z1 I (Zj I I) I <| Z8 <| Z9 <| Z1e <| At.ghost (st' := ⟨[(2, (.vs 2))], [(2, (.vec 3 (List.map Z5 v12)))]⟩) (fun a w h => (Z17 _ (ghost_sw (a := 6) (b := 2) I I a w (Z17 ⟨[(2, (.vs 6))], [(6, (.vec 3 (List.map Z5 v12)))]⟩ h ⟨I, J0⟩ ⟨I, J0⟩)) ⟨I, J0⟩ ⟨I, J0⟩)) ?_
   have h := Option.some.inj h
   subst h
   refine (hret _ ?_).1
   exact ⟨[(.vs 2)], ⟨I, J0⟩, I, ⟨I, J0⟩⟩
  intro N k11 v h IH11 J11
  obtain ⟨v9, v10⟩ := v
  try dsimp only at h IH11 J11 ⊢
  cases k11 with
  | zero => cases h
  | succ k11 =>
   rw [F62_l11] at h
   refine Zb <| Z4 <| Z1 I (Z1y (c := (decide (v9 < (a0.length : Int)))) I I I I) I <| Z8 <| Z9 <| Zb ?_
   have hif := Z2a h
   refine Z15 I (fun hc => ?_) (fun hc => ?_)
   ·have h := hif.1 hc
    refine Z18 <| Z9 <| Zb <| Z25 <| Zb <| Z4 ?_
    have ⟨hg16, h⟩ := Zx h
    refine Z1 I (Z1s (k := .i64) (l := a0) (enc := Z1w) (z := []) (n := v9) (full := false) I s192 I I hg16 I) I <| Z1 I (st_loadI I o60 I I) I <| Z1 I (Zj I I) I <| Z8 <| Z9 <| Z4 <| Z1 I (Zh I I) I <| Z1 I (Zh I I) I ?_
    have ⟨hg17, h⟩ := Zx h
    refine Z1 I (st_append (m := 6) (enc := Z5) (l := v10) (l' := (a0.getD v9.toNat [])) (src := (.sl 3 ((a0.getD v9.toNat []).map Z5) false)) (rd := []) I I el60 I u60 I I I ⟨I, I, I⟩ noReads els_Ttopology_Difference hg17) I <| Z1 I (Zj I I) I <| Z8 <| At.end <| Z9 <| Z4 <| Z1 I (Z1c (k := .i64) (b := 1) (c := (IntKind.i64.wrap (v9 + 1))) I I I I) I <| Z1 I (Zh I I) I <| Z8 ?_
    exact Z1d (IH11 _ ((IntKind.i64.wrap (v9 + 1)), (v10 ++ (a0.getD v9.toNat []))) (Nat.lt_succ_self _) h) ⟨I, I, I, I, J0⟩ ⟨I, J0⟩
   have h := hif.2 hc
   refine Z29 <| At.thru ?_
   exact Z1d (J11 v10 h) ⟨I, J0⟩ ⟨I, J0⟩
 intro N k3 v h IH3 J3
 obtain ⟨v1, v2⟩ := v
 try dsimp only at h IH3 J3 ⊢
 cases k3 with
 | zero => cases h
 | succ k3 =>
  rw [F62_l3] at h
  refine Zb <| Z4 <| Z1 I (Z1y (c := (decide (v2 < (a0.length : Int)))) I I I I) I <| Z8 <| Z9 <| Zb ?_
  have hif := Z2a h
  refine Z15 I (fun hc => ?_) (fun hc => ?_)
  ·have h := hif.1 hc
   refine Z18 <| Z9 <| Zb <| Z25 <| Zb <| Z4 ?_
   have ⟨hg19, h⟩ := Zx h
   refine Z1 I (Z1s (k := .i64) (l := a0) (enc := Z1w) (z := []) (n := v2) (full := false) I s192 I I hg19 I) I <| Z1 I (st_loadI I o60 I I) I <| Z1 I (Zj I I) I <| Z8 <| Z9 <| Zb <| Z4 <| Z1 I (Zh I I) I <| Z1 I (Zh I I) I <| Z1 I (stx_len (l := (a0.getD v2.toNat [])) (enc := Z5) I s60 I) I <| Z1 I (Z1c (k := .i64) (c := (IntKind.i64.wrap (v1 + ((a0.getD v2.toNat []).length : Int)))) I I I I) I <| Z1 I (Zj I I) I <| Z8 <| Z9 <| Zb <| Z4 <| Z1 I (Zh I I) I <| Z1 I (Z1y (b := 0) (c := (decide ((IntKind.i64.wrap (v1 + ((a0.getD v2.toNat []).length : Int))) < 0))) I I I I) I <| Z8 <| Z9 ?_
   have hif := Z2a h
   refine Z15 I (fun hc => ?_) (fun hc => ?_)
   ·have h := hif.1 hc
    cases h
   have h := hif.2 hc
   refine Z18 <| At.end <| Z9 <| Z4 <| Z1 I (Z1c (k := .i64) (b := 1) (c := (IntKind.i64.wrap (v2 + 1))) I I I I) I <| Z1 I (Zh I I) I <| Z8 ?_
   exact Z1d (IH3 _ ((IntKind.i64.wrap (v1 + ((a0.getD v2.toNat []).length : Int))), (IntKind.i64.wrap (v2 + 1))) (Nat.lt_succ_self _) h) ⟨I, I, I, I, I, J0⟩ trivial
  have h := hif.2 hc
  refine Z29 <| At.thru ?_
  exact Z1d (J3 v1 h) ⟨I, I, J0⟩ trivial
def F66 (K : Nat) (a0 : Z7) (a1 : Z7) : Option (Int) :=
 (F68 K a0.Kind a1.Kind).bind fun v2 =>
 (F69 K a0.Service a1.Service).bind fun v4 =>
 (F69 K a0.Target a1.Target).bind fun v6 =>
 (F67 K [v2, v4, v6]).bind fun v8 =>
 some v8
theorem F66_ok (K : Nat) (a0 : Z7) (a1 : Z7) (r : Int) (h : F66 K a0 a1 = some r) : ACall P 66 ⟨[(Z5 a0), (Z5 a1)], [], (.int .i64 r), [], []⟩ := by
 refine Z1r Tryz.func66 Tryz.results66 rfl Tryz.ntmps66 rfl rfl rfl ?_
 intro E Q hP hN hro hret
 obtain ⟨P', nt', w0, F0, p0, S0, β0, ro0⟩ := E
 simp only at hP hN
 subst hP hN
 dsimp only [argT]
 unfold F66 at h
 refine Zb <| Z4 <| Z1 I (st_box I I I I I) I <| Z1 I (st_box I I I I I) I <| Z1 I (Zj (v := (.int .i64 0)) I I) I <| Z8 <| Z9 <| Zb <| Z1t mixed <| Z3 0 I (Zn I f64_0 I I) <| Z3 1 I (Zs I o3 I I I) <| Z3 2 I (Zn I f64_0 I I) <| Z3 3 I (Zs I o3 I I I) ?_
 have ⟨v2, hv2, h⟩ := Z1b h
 refine Z3 4 I (Z1h (ar := [(.int .i64 a0.Kind), (.int .i64 a1.Kind)]) Tryz.call68 (F68_ok K a0.Kind a1.Kind v2 hv2) I I ⟨I, I, J0⟩ I) <| Z3 5 I (Zn I f64_1 I I) <| Z3 6 I (Zs I o9 I I I) <| Z3 7 I (Zn I f64_1 I I) <| Z3 8 I (Zs I o9 I I I) ?_
 have ⟨v4, hv4, h⟩ := Z1b h
 refine Z3 9 I (Z1h (ar := [(.str a0.Service), (.str a1.Service)]) Tryz.call69 (F69_ok K a0.Service a1.Service v4 hv4) I I ⟨I, I, J0⟩ I) <| Z3 10 I (Zn I f64_2 I I) <| Z3 11 I (Zs I o9 I I I) <| Z3 12 I (Zn I f64_2 I I) <| Z3 13 I (Zs I o9 I I I) ?_
 have ⟨v6, hv6, h⟩ := Z1b h
 refine Z3 14 I (Z1h (ar := [(.str a0.Target), (.str a1.Target)]) Tryz.call69 (F69_ok K a0.Target a1.Target v6 hv6) I I ⟨I, I, J0⟩ I) <| Z3 15 I (Z1i (vs := [(.int .i64 v2), (.int .i64 v4), (.int .i64 v6)]) (enc := Z1f) (l := [v2, v4, v6]) I el65 I I ⟨I, I, I, J0⟩ I els_i64 I I I I) ?_
 have ⟨v8, hv8, h⟩ := Z1b h
 refine Z3 16 I (st_callB (rd := [(20, (.vec 1 (List.map Z1f [v2, v4, v6])))]) (ar := [(.vs 20)]) Tryz.call67 (F67_ok K [v2, v4, v6] v8 hv8) I I ⟨I, J0⟩ (subS_mem ⟨I, J0⟩) I I I) <| Z3 17 I (Zj I I) <| Z21 (by kernel_rfl) I <| Z9 <| Z1e ?_
 have h := Option.some.inj h
 subst h
 refine (hret _ ?_).1
 exact ⟨[(.int .i64 v8)], ⟨I, J0⟩, I, J0⟩
end Go.AM.TopZ
