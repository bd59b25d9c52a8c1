/- What these functions compute, each with its walk: F20, F19, F45, F48, F15, F18, F13. -/
import Derived.Test.YtcfcnnkaiboddaaGraT
import Derived.Test.YtcfcnnkaiboddaaGraG0
namespace Go.AM.Gra
open Go Go.AM Go.Proofs
set_option maxRecDepth 100000
set_option maxHeartbeats 2000000
def F20_c9 (K : Nat) : Option ((List Int) × Bool) :=
 some ([], false)
def F20_c24 (K : Nat) (v23 : (List Int)) : Option ((List Int) × Bool) :=
 some (v23, true)
def F20_c33 (K : Nat) (b26 : (List Int) → Option ((List Int) × Bool)) (v32 : (List Int)) : Option ((List Int) × Bool) :=
 b26 v32
def F20_l31 (K : Nat) (v2 : (List (List Int))) (v21 : (List Int)) (v13 : (List Int)) (v18 : Int) (c34 : (List Int) → Option ((List Int) × Bool)) : Nat → Int → Option ((List Int) × Bool)
 | 0, _ => none
 | k31 + 1, v30 =>
  if (decide (v30 < ((v2.getD (v21.getD (IntKind.i64.wrap ((v21.length : Int) - 1)).toNat 0).toNat []).length : Int))) = true then
   if (0 : Int) ≤ v30 ∧ v30 < (v2.getD (v21.getD (IntKind.i64.wrap ((v21.length : Int) - 1)).toNat 0).toNat []).length then
    if (0 : Int) ≤ ((v2.getD (v21.getD (IntKind.i64.wrap ((v21.length : Int) - 1)).toNat 0).toNat []).getD v30.toNat 0) ∧ ((v2.getD (v21.getD (IntKind.i64.wrap ((v21.length : Int) - 1)).toNat 0).toNat []).getD v30.toNat 0) < v13.length then
     if ((v13.getD ((v2.getD (v21.getD (IntKind.i64.wrap ((v21.length : Int) - 1)).toNat 0).toNat []).getD v30.toNat 0).toNat 0) == (IntKind.i64.wrap (v18 - (v21.length : Int)))) = true then
      if v21.length + ([((v2.getD (v21.getD (IntKind.i64.wrap ((v21.length : Int) - 1)).toNat 0).toNat []).getD v30.toNat 0)]).length ≤ 1073741824 then
       c34 (v21 ++ ([((v2.getD (v21.getD (IntKind.i64.wrap ((v21.length : Int) - 1)).toNat 0).toNat []).getD v30.toNat 0)]))
      else none
     else
      (F20_l31 K v2 v21 v13 v18 c34 k31) (IntKind.i64.wrap (v30 + 1))
    else none
   else none
  else
   c34 v21
def F20_l22 (K : Nat) (v18 : Int) (v2 : (List (List Int))) (v13 : (List Int)) (c25 : (List Int) → Option ((List Int) × Bool)) : Nat → (List Int) → Option ((List Int) × Bool)
 | 0, _ => none
 | k22 + 1, v21 =>
  if (decide ((v21.length : Int) < v18)) = true then
   if (0 : Int) ≤ (IntKind.i64.wrap ((v21.length : Int) - 1)) ∧ (IntKind.i64.wrap ((v21.length : Int) - 1)) < (v21.length : Nat) then
    if (IntKind.i64.wrap ((v21.length : Int) - 1)).toNat < v21.length then
     if (0 : Int) ≤ (v21.getD (IntKind.i64.wrap ((v21.length : Int) - 1)).toNat 0) ∧ (v21.getD (IntKind.i64.wrap ((v21.length : Int) - 1)).toNat 0) < v2.length then
      F20_l31 K v2 v21 v13 v18 (F20_c33 K (F20_l22 K v18 v2 v13 c25 k22)) K 0
     else none
    else none
   else none
  else
   c25 v21
def F20_c19 (K : Nat) (b11 : Int → Option ((List Int) × Bool)) (v7 : Int) (v2 : (List (List Int))) (v13 : (List Int)) (v18 : Int) : Option ((List Int) × Bool) :=
 if (v18 == 0) = true then
  b11 (IntKind.i64.wrap (v7 + 1))
 else
  F20_l22 K v18 v2 v13 (F20_c24 K) K [v7]
def F20_j44 (K : Nat) (b39 : Int → Int → Option ((List Int) × Bool)) (v16 : Int) (v43 : Int) : Option ((List Int) × Bool) :=
 b39 v43 (IntKind.i64.wrap (v16 + 1))
def F20_j42 (K : Nat) (v2 : (List (List Int))) (v7 : Int) (v16 : Int) (v13 : (List Int)) (b39 : Int → Int → Option ((List Int) × Bool)) (v15 : Int) (v41 : Bool) : Option ((List Int) × Bool) :=
 if v41 = true then
  if (0 : Int) ≤ ((v2.getD v7.toNat []).getD v16.toNat 0) ∧ ((v2.getD v7.toNat []).getD v16.toNat 0) < v13.length then
   F20_j44 K b39 v16 (IntKind.i64.wrap ((v13.getD ((v2.getD v7.toNat []).getD v16.toNat 0).toNat 0) + 1))
  else none
 else
  F20_j44 K b39 v16 v15
def F20_l17 (K : Nat) (v2 : (List (List Int))) (v7 : Int) (v13 : (List Int)) (c20 : Int → Option ((List Int) × Bool)) : Nat → Int → Int → Option ((List Int) × Bool)
 | 0, _, _ => none
 | k17 + 1, v15, v16 =>
  if (decide (v16 < ((v2.getD v7.toNat []).length : Int))) = true then
   if (0 : Int) ≤ v16 ∧ v16 < (v2.getD v7.toNat []).length then
    if (0 : Int) ≤ ((v2.getD v7.toNat []).getD v16.toNat 0) ∧ ((v2.getD v7.toNat []).getD v16.toNat 0) < v13.length then
     if (decide ((v13.getD ((v2.getD v7.toNat []).getD v16.toNat 0).toNat 0) ≥ 0)) = true then
      if (v15 == 0) = true then
       F20_j42 K v2 v7 v16 v13 (F20_l17 K v2 v7 v13 c20 k17) v15 true
      else
       if (0 : Int) ≤ ((v2.getD v7.toNat []).getD v16.toNat 0) ∧ ((v2.getD v7.toNat []).getD v16.toNat 0) < v13.length then
        F20_j42 K v2 v7 v16 v13 (F20_l17 K v2 v7 v13 c20 k17) v15 (decide ((IntKind.i64.wrap ((v13.getD ((v2.getD v7.toNat []).getD v16.toNat 0).toNat 0) + 1)) < v15))
       else none
     else
      F20_j42 K v2 v7 v16 v13 (F20_l17 K v2 v7 v13 c20 k17) v15 false
    else none
   else none
  else
   c20 v15
def F20_l8 (K : Nat) (a0 : Za) (v6 : (List (List Int))) (v2 : (List (List Int))) (c10 : Option ((List Int) × Bool)) : Nat → Int → Option ((List Int) × Bool)
 | 0, _ => none
 | k8 + 1, v7 =>
  if (decide (v7 < a0.Count)) = true then
   (F46 K v6 [v7] (Int.negSucc 0)).bind fun v13 =>
    if (0 : Int) ≤ v7 ∧ v7 < v2.length then
     F20_l17 K v2 v7 v13 (F20_c19 K (F20_l8 K a0 v6 v2 c10 k8) v7 v2 v13) K 0 0
    else none
  else
   c10
def F20 (K : Nat) (a0 : Za) : Option ((List Int) × Bool) :=
 (F47 K a0).bind fun v2 =>
  (F30 K a0).bind fun v4 =>
   (F47 K v4).bind fun v6 =>
    F20_l8 K a0 v6 v2 (F20_c9 K) K 0
theorem F20_ok (K : Nat) (a0 : Za) (r : (List Int) × Bool) (h : F20 K a0 = some r) : ACall P 20 ⟨[(Z4 a0)], [], (.tup [(.sl 1 (r.1.map Z8) false), (.bool r.2)]), [], []⟩ := by
 refine acall_of Try.func20 Try.results20 rfl Try.ntmps20 rfl rfl rfl ?_
 intro E Q hP hN hro hret
 obtain ⟨P', nt', w0, F0, p0, S0, β0, ro0⟩ := E
 simp only at hP hN
 subst hP hN
 dsimp only [argT]
 unfold F20 at h
 refine Zf <| Z6 <| Z1 I (st_box (v := (Z4 a0)) (cs := (Z4 a0).cells) I I I I I) I <| Z1 I (Zh (v := (.sl 1 [] false)) I I) I <| Z1 I (Zh (v := (.bool false)) I I) I <| Zb <| Ze <| Zf ?_
 refine AWp.regionD mixed <| Zd 0 I (st_loadPA (cs := (Z4 a0).cells) (vs := (Z4 a0).cells) I a35 I I I I) ?_
 have ⟨v2, hv2, h⟩ := of_bind h
 refine Zd 1 I (st_call0 (ar := [(Z4 a0)]) (caps := []) Try.call47 (F47_ok K a0 v2 hv2) I I ⟨rfl, trivial⟩ I) <| Zd 2 I (st_loadPA (cs := (Z4 a0).cells) (vs := (Z4 a0).cells) I a35 I I I I) ?_
 have ⟨v4, hv4, h⟩ := of_bind h
 refine Zd 3 I (st_call0 (ar := [(Z4 a0)]) (caps := []) Try.call30 (F30_ok K a0 v4 hv4) I I ⟨rfl, trivial⟩ I) ?_
 have ⟨v6, hv6, h⟩ := of_bind h
 refine Zd 4 I (st_call0 (ar := [(Z4 v4)]) (caps := []) Try.call47 (F47_ok K v4 v6 hv6) I I ⟨rfl, trivial⟩ I) <| Zd 5 I (Zh (v := (.sl 1 (v2.map Zg) false)) I I) <| Zd 6 I (Zh (v := (.sl 1 (v6.map Zg) false)) I I) <| AOpsD.nil (by kernel_rfl) I <| Ze <| Zf <| Zf <| Z6 ?_
 refine Z1 I (Z10 (m := 1) (o := 0) I f35_0 I I) I <| Z1 I (Zu (cs := (Z4 a0).cells) (v := (.int .i64 a0.Count)) I o3 I I I) I <| Z1 I (Z9 (v := (.int .i64 0)) I I) I <| Zb <| Ze <| AWp.weaken (st' := ⟨[(4, (.sl 1 (v2.map Zg) false)), (5, (.sl 1 (v6.map Zg) false)), (20, (.int .i64 a0.Count)), (21, (.int .i64 0))], []⟩) ⟨rfl, rfl, rfl, rfl, trivial⟩ trivial ?_
 refine Zw (V := Int) (X := Unit) (lp := fun k v => F20_l8 K a0 v6 v2 (F20_c9 K) k v = some r) (sh := fun v => ⟨[(4, (.sl 1 (v2.map Zg) false)), (5, (.sl 1 (v6.map Zg) false)), (20, (.int .i64 a0.Count)), (21, (.int .i64 v))], []⟩) (x := fun v => F20_c9 K = some r) (shx := fun v => ⟨[], []⟩) (k := K) (v := 0) h ?_ ?_
 ·intro v h
  try dsimp only at h ⊢
  unfold F20_c9 at h
  refine Ze <| Zf <| Z6 <| Z1 I (Zh (v := (.sl 1 [] false)) I I) I <| Z1 I (Zh (v := (.bool false)) I I) I <| Zb <| Ze <| AWp.ret ?_
  have h := Option.some.inj h
  subst h
  refine (hret _ ?_).1
  exact ⟨[(.sl 1 [] false), (.bool false)], ⟨rfl, rfl, trivial⟩, rfl, trivial⟩
 ·intro N k8 v h IH8 J8
  revert h
  revert v
  intro v7 h
  try dsimp only at h IH8 J8 ⊢
  cases k8 with
  | zero => cases h
  | succ k8 =>
   rw [F20_l8] at h
   refine Zf <| Z6 <| Z1 I (st_cmp (k := .i64) (a := v7) (b := a0.Count) (c := (decide (v7 < a0.Count))) I I I I) I <| Zb <| Ze <| Zf ?_
   have hif := of_if h
   refine Zv I (fun hc => ?_) (fun hc => ?_)
   ·have h := hif.1 hc
    refine Zy <| Ze <| Zf <| AWp.block <| Zf <| Z6 <| Z1 I (Z9 (v := (.int .i64 v7)) I I) I <| Z1 I (Zh (v := (.int .i64 v7)) I I) I ?_
    refine Zb <| Ze <| Zf <| Z6 <| Z1 I (Z9 (v := (.sl 1 (v6.map Zg) false)) I I) I <| Z1 I (Z9 (v := (.int .i64 v7)) I I) I <| Z1 I (stx_buildSlice (vs := [(.int .i64 v7)]) (enc := Z8) (l := [v7]) I el29 I I ⟨rfl, trivial⟩ I els_i64 I I I I) I <| AOps.ghost (st' := ⟨[(4, (.sl 1 (v2.map Zg) false)), (5, (.sl 1 (v6.map Zg) false)), (6, (.int .i64 v7)), (20, (.int .i64 a0.Count)), (21, (.int .i64 v7)), (24, (.sl 1 (v6.map Zg) false)), (26, (.sl 1 ([v7].map Z8) false))], []⟩) (fun a w h => (Zp ⟨[(4, (.sl 1 (v2.map Zg) false)), (5, (.sl 1 (v6.map Zg) false)), (6, (.int .i64 v7)), (20, (.int .i64 a0.Count)), (21, (.int .i64 v7)), (24, (.sl 1 (v6.map Zg) false)), (26, (.sl 1 ([v7].map Z8) false))], []⟩ (ghost_freeze (m := 26) (sz := 1) (es := (List.map Z8 [v7])) a w (Zp ⟨[(4, (.sl 1 (v2.map Zg) false)), (5, (.sl 1 (v6.map Zg) false)), (6, (.int .i64 v7)), (20, (.int .i64 a0.Count)), (21, (.int .i64 v7)), (24, (.sl 1 (v6.map Zg) false)), (26, (.vs 26))], [(26, (.vec 1 (List.map Z8 [v7])))]⟩ h ⟨rfl, rfl, rfl, rfl, rfl, rfl, rfl, trivial⟩ ⟨rfl, trivial⟩)) ⟨rfl, rfl, rfl, rfl, rfl, rfl, rfl, trivial⟩ trivial)) ?_
    have ⟨v13, hv13, h⟩ := of_bind h
    refine Z1 I (st_call0 (ar := [(.sl 1 (v6.map Zg) false), (.sl 1 ([v7].map Z8) false), (.int .i64 (Int.negSucc 0))]) (caps := []) Try.call46 (F46_ok K v6 [v7] (Int.negSucc 0) v13 hv13) I I ⟨rfl, rfl, rfl, trivial⟩ I) I <| Z1 I (Zh (v := (.sl 1 (v13.map Z8) false)) I I) I <| Zb <| Ze <| Zf <| Z6 <| Z1 I (Zh (v := (.int .i64 0)) I I) I <| Zb ?_
    refine Ze <| Zf <| Zf <| Z6 <| Z1 I (Z9 (v := (.sl 1 (v2.map Zg) false)) I I) I <| Z1 I (Z9 (v := (.int .i64 v7)) I I) I ?_
    have ⟨hg14, h⟩ := Zi h
    refine Z1 I (st_index (k := .i64) (l := v2) (enc := Zg) (z := []) (n := v7) (cs := [(.sl 1 ((v2.getD v7.toNat []).map Z8) false)]) (full := false) I s46 I I hg14 I) I <| Z1 I (st_loadI (cs := [(.sl 1 ((v2.getD v7.toNat []).map Z8) false)]) (v := (.sl 1 ((v2.getD v7.toNat []).map Z8) false)) I o29 I I) I <| Z1 I (stx_len (l := (v2.getD v7.toNat [])) (enc := Z8) I s29 I) I <| Z1 I (Z9 (v := (.int .i64 0)) I I) I <| Zb <| Ze <| AWp.weaken (st' := ⟨[(4, (.sl 1 (v2.map Zg) false)), (5, (.sl 1 (v6.map Zg) false)), (6, (.int .i64 v7)), (7, (.sl 1 (v13.map Z8) false)), (8, (.int .i64 0)), (20, (.int .i64 a0.Count)), (21, (.int .i64 v7)), (31, (.sl 1 ((v2.getD v7.toNat []).map Z8) false)), (32, (.int .i64 ((v2.getD v7.toNat []).length : Int))), (33, (.int .i64 0))], []⟩) ⟨rfl, rfl, rfl, rfl, rfl, rfl, rfl, rfl, rfl, rfl, trivial⟩ trivial ?_
    refine Zw (V := Int × Int) (X := Int) (lp := fun k v => F20_l17 K v2 v7 v13 (F20_c19 K (F20_l8 K a0 v6 v2 (F20_c9 K) k8) v7 v2 v13) k v.1 v.2 = some r) (sh := fun v => ⟨[(4, (.sl 1 (v2.map Zg) false)), (5, (.sl 1 (v6.map Zg) false)), (6, (.int .i64 v7)), (7, (.sl 1 (v13.map Z8) false)), (8, (.int .i64 v.1)), (20, (.int .i64 a0.Count)), (21, (.int .i64 v7)), (31, (.sl 1 ((v2.getD v7.toNat []).map Z8) false)), (32, (.int .i64 ((v2.getD v7.toNat []).length : Int))), (33, (.int .i64 v.2))], []⟩) (x := fun v => F20_c19 K (F20_l8 K a0 v6 v2 (F20_c9 K) k8) v7 v2 v13 v = some r) (shx := fun v => ⟨[(4, (.sl 1 (v2.map Zg) false)), (5, (.sl 1 (v6.map Zg) false)), (6, (.int .i64 v7)), (7, (.sl 1 (v13.map Z8) false)), (8, (.int .i64 v)), (20, (.int .i64 a0.Count)), (21, (.int .i64 v7))], []⟩) (k := K) (v := (0, 0)) h ?_ ?_
    ·intro v h
     revert h
     revert v
     intro v18 h
     try dsimp only at h ⊢
     unfold F20_c19 at h
     refine Ze <| Zf <| Zf <| Z6 <| Z1 I (Z9 (v := (.int .i64 v18)) I I) I <| Z1 I (st_cmp (k := .i64) (a := v18) (b := 0) (c := (v18 == 0)) I I I I) I <| Zb <| Ze ?_
     have hif := of_if h
     refine Zv I (fun hc => ?_) (fun hc => ?_)
     ·have h := hif.1 hc
      refine AWp.exit <| At.thru <| At.out <| Ze <| Z6 <| Z1 I (st_arith (k := .i64) (a := v7) (b := 1) (c := (IntKind.i64.wrap (v7 + 1))) I I I I) I <| Z1 I (Z9 (v := (.int .i64 (IntKind.i64.wrap (v7 + 1)))) I I) I <| Zb ?_
      exact Zl (st' := ⟨[(4, (.sl 1 (v2.map Zg) false)), (5, (.sl 1 (v6.map Zg) false)), (20, (.int .i64 a0.Count)), (21, (.int .i64 (IntKind.i64.wrap (v7 + 1))))], []⟩) ⟨rfl, rfl, rfl, rfl, trivial⟩ trivial (IH8 _ (IntKind.i64.wrap (v7 + 1)) (Nat.lt_succ_self _) h)
     ·have h := hif.2 hc
      refine Zy <| Ze <| Zf <| Z6 <| Z1 I (Z9 (v := (.int .i64 v7)) I I) I <| Z1 I (stx_buildSlice (vs := [(.int .i64 v7)]) (enc := Z8) (l := [v7]) I el29 I I ⟨rfl, trivial⟩ I els_i64 I I I I) I <| Z1 I (Zh (v := (.vs 64)) I I) I <| Zb ?_
      refine Ze <| Zf <| AWp.ghost (st' := ⟨[(4, (.sl 1 (v2.map Zg) false)), (7, (.sl 1 (v13.map Z8) false)), (8, (.int .i64 v18)), (11, (.vs 11))], [(11, (.vec 1 (List.map Z8 [v7])))]⟩) (fun a w h => (Zp ⟨[(4, (.sl 1 (v2.map Zg) false)), (7, (.sl 1 (v13.map Z8) false)), (8, (.int .i64 v18)), (11, (.vs 11))], [(11, (.vec 1 (List.map Z8 [v7])))]⟩ (ghost_sw (a := 64) (b := 11) I I a w (Zp ⟨[(4, (.sl 1 (v2.map Zg) false)), (7, (.sl 1 (v13.map Z8) false)), (8, (.int .i64 v18)), (11, (.vs 64))], [(64, (.vec 1 (List.map Z8 [v7])))]⟩ h ⟨rfl, rfl, rfl, rfl, trivial⟩ ⟨rfl, trivial⟩)) ⟨rfl, rfl, rfl, rfl, trivial⟩ ⟨rfl, trivial⟩)) <| AWp.weaken (st' := ⟨[(4, (.sl 1 (v2.map Zg) false)), (7, (.sl 1 (v13.map Z8) false)), (8, (.int .i64 v18)), (11, (.vs 11))], [(11, (.vec 1 (List.map Z8 [v7])))]⟩) ⟨rfl, rfl, rfl, rfl, trivial⟩ ⟨rfl, trivial⟩ ?_
      refine Zw (V := (List Int)) (X := (List Int)) (lp := fun k v => F20_l22 K v18 v2 v13 (F20_c24 K) k v = some r) (sh := fun v => ⟨[(4, (.sl 1 (v2.map Zg) false)), (7, (.sl 1 (v13.map Z8) false)), (8, (.int .i64 v18)), (11, (.vs 11))], [(11, (.vec 1 (List.map Z8 v)))]⟩) (x := fun v => F20_c24 K v = some r) (shx := fun v => ⟨[(11, (.vs 11))], [(11, (.vec 1 (List.map Z8 v)))]⟩) (k := K) (v := [v7]) h ?_ ?_
      ·intro v h
       revert h
       revert v
       intro v23 h
       try dsimp only at h ⊢
       unfold F20_c24 at h
       refine Ze <| Zf <| Z6 <| Z1 I (Z9 (v := (.vs 11)) I I) I <| Z1 I (Zh (v := (.vs 11)) I I) I <| Z1 I (Zh (v := (.bool true)) I I) I <| Zb <| Ze ?_
       refine AWp.ret <| At.overR <| At.thruR ?_
       refine At.thruR (At.overR ?_)
       refine At.thruR <| At.ghost (st' := ⟨[(2, (.sl 1 (v23.map Z8) false)), (3, (.bool true))], []⟩) (fun a w h => (Zp ⟨[(2, (.sl 1 (v23.map Z8) false)), (3, (.bool true))], []⟩ (ghost_freeze (m := 11) (sz := 1) (es := (List.map Z8 v23)) a w (Zp ⟨[(2, (.vs 11)), (3, (.bool true))], [(11, (.vec 1 (List.map Z8 v23)))]⟩ h ⟨rfl, rfl, trivial⟩ ⟨rfl, trivial⟩)) ⟨rfl, rfl, trivial⟩ trivial)) ?_
       have h := Option.some.inj h
       subst h
       refine (hret _ ?_).1
       exact ⟨[(.sl 1 (v23.map Z8) false), (.bool true)], ⟨rfl, rfl, trivial⟩, rfl, trivial⟩
      ·intro N k22 v h IH22 J22
       revert h
       revert v
       intro v21 h
       try dsimp only at h IH22 J22 ⊢
       cases k22 with
       | zero => cases h
       | succ k22 =>
        rw [F20_l22] at h
        refine Zf <| Zf <| Z6 <| Z1 I (Z9 (v := (.vs 11)) I I) I <| Z1 I (stx_lenV (l := v21) (enc := Z8) I u29 I I) I <| Z1 I (Z9 (v := (.int .i64 v18)) I I) I <| Z1 I (st_cmp (k := .i64) (a := (v21.length : Int)) (b := v18) (c := (decide ((v21.length : Int) < v18))) I I I I) I <| Zb ?_
        refine Ze ?_
        have hif := of_if h
        refine Zv I (fun hc => ?_) (fun hc => ?_)
        ·have h := hif.1 hc
         refine Zy <| Ze <| AWp.block <| Zf <| Z6 <| Z1 I (Z9 (v := (.sl 1 (v2.map Zg) false)) I I) I <| Z1 I (Z9 (v := (.vs 11)) I I) I <| Z1 I (Z9 (v := (.vs 11)) I I) I ?_
         refine Z1 I (stx_lenV (l := v21) (enc := Z8) I u29 I I) I <| Z1 I (st_arith (k := .i64) (a := (v21.length : Int)) (b := 1) (c := (IntKind.i64.wrap ((v21.length : Int) - 1))) I I I I) I ?_
         have ⟨hg27, h⟩ := Zi h
         refine Z1 I (st_indexV (k := .i64) (v := (.vs 11)) (n := 11) (off := 0) (len := v21.length) (es := (List.map Z8 v21)) (j := (IntKind.i64.wrap ((v21.length : Int) - 1))) (m := (IntKind.i64.wrap ((v21.length : Int) - 1)).toNat) I s29 I I (vecR_map _ _ _) I hg27 (Nat.zero_add _)) I ?_
         have ⟨hg28, h⟩ := Zi h
         refine Z1 I (st_loadV (l := v21) (enc := Z8) (z := 0) (v := (.int .i64 (v21.getD (IntKind.i64.wrap ((v21.length : Int) - 1)).toNat 0))) I o3 I I hg28 I) I ?_
         have ⟨hg29, h⟩ := Zi h
         refine Z1 I (st_index (k := .i64) (l := v2) (enc := Zg) (z := []) (n := (v21.getD (IntKind.i64.wrap ((v21.length : Int) - 1)).toNat 0)) (cs := [(.sl 1 ((v2.getD (v21.getD (IntKind.i64.wrap ((v21.length : Int) - 1)).toNat 0).toNat []).map Z8) false)]) (full := false) I s46 I I hg29 I) I <| Z1 I (st_loadI (cs := [(.sl 1 ((v2.getD (v21.getD (IntKind.i64.wrap ((v21.length : Int) - 1)).toNat 0).toNat []).map Z8) false)]) (v := (.sl 1 ((v2.getD (v21.getD (IntKind.i64.wrap ((v21.length : Int) - 1)).toNat 0).toNat []).map Z8) false)) I o29 I I) I <| Z1 I (stx_len (l := (v2.getD (v21.getD (IntKind.i64.wrap ((v21.length : Int) - 1)).toNat 0).toNat [])) (enc := Z8) I s29 I) I <| Z1 I (Z9 (v := (.int .i64 0)) I I) I <| Zb <| Ze <| AWp.weaken (st' := ⟨[(4, (.sl 1 (v2.map Zg) false)), (7, (.sl 1 (v13.map Z8) false)), (8, (.int .i64 v18)), (11, (.vs 11)), (77, (.sl 1 ((v2.getD (v21.getD (IntKind.i64.wrap ((v21.length : Int) - 1)).toNat 0).toNat []).map Z8) false)), (78, (.int .i64 ((v2.getD (v21.getD (IntKind.i64.wrap ((v21.length : Int) - 1)).toNat 0).toNat []).length : Int))), (79, (.int .i64 0))], [(11, (.vec 1 (List.map Z8 v21)))]⟩) ⟨rfl, rfl, rfl, rfl, rfl, rfl, rfl, trivial⟩ ⟨rfl, trivial⟩ ?_
         refine Zw (V := Int) (X := (List Int)) (lp := fun k v => F20_l31 K v2 v21 v13 v18 (F20_c33 K (F20_l22 K v18 v2 v13 (F20_c24 K) k22)) k v = some r) (sh := fun v => ⟨[(4, (.sl 1 (v2.map Zg) false)), (7, (.sl 1 (v13.map Z8) false)), (8, (.int .i64 v18)), (11, (.vs 11)), (77, (.sl 1 ((v2.getD (v21.getD (IntKind.i64.wrap ((v21.length : Int) - 1)).toNat 0).toNat []).map Z8) false)), (78, (.int .i64 ((v2.getD (v21.getD (IntKind.i64.wrap ((v21.length : Int) - 1)).toNat 0).toNat []).length : Int))), (79, (.int .i64 v))], [(11, (.vec 1 (List.map Z8 v21)))]⟩) (x := fun v => F20_c33 K (F20_l22 K v18 v2 v13 (F20_c24 K) k22) v = some r) (shx := fun v => ⟨[(4, (.sl 1 (v2.map Zg) false)), (7, (.sl 1 (v13.map Z8) false)), (8, (.int .i64 v18)), (11, (.vs 11))], [(11, (.vec 1 (List.map Z8 v)))]⟩) (k := K) (v := 0) h ?_ ?_
         ·intro v h
          revert h
          revert v
          intro v32 h
          try dsimp only at h ⊢
          unfold F20_c33 at h
          refine At.end ?_
          exact Zl (st' := ⟨[(4, (.sl 1 (v2.map Zg) false)), (7, (.sl 1 (v13.map Z8) false)), (8, (.int .i64 v18)), (11, (.vs 11))], [(11, (.vec 1 (List.map Z8 v32)))]⟩) ⟨rfl, rfl, rfl, rfl, trivial⟩ ⟨rfl, trivial⟩ (IH22 _ v32 (Nat.lt_succ_self _) h)
         ·intro N k31 v h IH31 J31
          revert h
          revert v
          intro v30 h
          try dsimp only at h IH31 J31 ⊢
          cases k31 with
          | zero => cases h
          | succ k31 =>
           rw [F20_l31] at h
           refine Zf <| Z6 <| Z1 I (st_cmp (k := .i64) (a := v30) (b := ((v2.getD (v21.getD (IntKind.i64.wrap ((v21.length : Int) - 1)).toNat 0).toNat []).length : Int)) (c := (decide (v30 < ((v2.getD (v21.getD (IntKind.i64.wrap ((v21.length : Int) - 1)).toNat 0).toNat []).length : Int)))) I I I I) I <| Zb <| Ze <| Zf ?_
           have hif := of_if h
           refine Zv I (fun hc => ?_) (fun hc => ?_)
           ·have h := hif.1 hc
            refine Zy <| Ze <| Zf <| AWp.block <| Zf <| Z6 ?_
            have ⟨hg36, h⟩ := Zi h
            refine Z1 I (st_index (k := .i64) (l := (v2.getD (v21.getD (IntKind.i64.wrap ((v21.length : Int) - 1)).toNat 0).toNat [])) (enc := Z8) (z := 0) (n := v30) (cs := [(.int .i64 ((v2.getD (v21.getD (IntKind.i64.wrap ((v21.length : Int) - 1)).toNat 0).toNat []).getD v30.toNat 0))]) (full := false) I s29 I I hg36 I) I <| Z1 I (st_loadI (cs := [(.int .i64 ((v2.getD (v21.getD (IntKind.i64.wrap ((v21.length : Int) - 1)).toNat 0).toNat []).getD v30.toNat 0))]) (v := (.int .i64 ((v2.getD (v21.getD (IntKind.i64.wrap ((v21.length : Int) - 1)).toNat 0).toNat []).getD v30.toNat 0))) I o3 I I) I <| Z1 I (Zh (v := (.int .i64 ((v2.getD (v21.getD (IntKind.i64.wrap ((v21.length : Int) - 1)).toNat 0).toNat []).getD v30.toNat 0))) I I) I <| Zb <| Ze <| Zf <| Z6 <| Z1 I (Z9 (v := (.sl 1 (v13.map Z8) false)) I I) I ?_
            refine Z1 I (Z9 (v := (.int .i64 ((v2.getD (v21.getD (IntKind.i64.wrap ((v21.length : Int) - 1)).toNat 0).toNat []).getD v30.toNat 0))) I I) I ?_
            have ⟨hg37, h⟩ := Zi h
            refine Z1 I (st_index (k := .i64) (l := v13) (enc := Z8) (z := 0) (n := ((v2.getD (v21.getD (IntKind.i64.wrap ((v21.length : Int) - 1)).toNat 0).toNat []).getD v30.toNat 0)) (cs := [(.int .i64 (v13.getD ((v2.getD (v21.getD (IntKind.i64.wrap ((v21.length : Int) - 1)).toNat 0).toNat []).getD v30.toNat 0).toNat 0))]) (full := false) I s29 I I hg37 I) I <| Z1 I (st_loadI (cs := [(.int .i64 (v13.getD ((v2.getD (v21.getD (IntKind.i64.wrap ((v21.length : Int) - 1)).toNat 0).toNat []).getD v30.toNat 0).toNat 0))]) (v := (.int .i64 (v13.getD ((v2.getD (v21.getD (IntKind.i64.wrap ((v21.length : Int) - 1)).toNat 0).toNat []).getD v30.toNat 0).toNat 0))) I o3 I I) I <| Z1 I (Z9 (v := (.int .i64 v18)) I I) I <| Z1 I (Z9 (v := (.vs 11)) I I) I <| Z1 I (stx_lenV (l := v21) (enc := Z8) I u29 I I) I <| Z1 I (st_arith (k := .i64) (a := v18) (b := (v21.length : Int)) (c := (IntKind.i64.wrap (v18 - (v21.length : Int)))) I I I I) I <| Z1 I (st_cmp (k := .i64) (a := (v13.getD ((v2.getD (v21.getD (IntKind.i64.wrap ((v21.length : Int) - 1)).toNat 0).toNat []).getD v30.toNat 0).toNat 0)) (b := (IntKind.i64.wrap (v18 - (v21.length : Int)))) (c := ((v13.getD ((v2.getD (v21.getD (IntKind.i64.wrap ((v21.length : Int) - 1)).toNat 0).toNat []).getD v30.toNat 0).toNat 0) == (IntKind.i64.wrap (v18 - (v21.length : Int))))) I I I I) I <| Zb ?_
            refine Ze ?_
            have hif := of_if h
            refine Zv I (fun hc => ?_) (fun hc => ?_)
            ·have h := hif.1 hc
             refine Zf <| Z6 <| Z1 I (Z9 (v := (.vs 11)) I I) I <| Z1 I (Z9 (v := (.int .i64 ((v2.getD (v21.getD (IntKind.i64.wrap ((v21.length : Int) - 1)).toNat 0).toNat []).getD v30.toNat 0))) I I) I <| Z1 I (stx_buildSlice (vs := [(.int .i64 ((v2.getD (v21.getD (IntKind.i64.wrap ((v21.length : Int) - 1)).toNat 0).toNat []).getD v30.toNat 0))]) (enc := Z8) (l := [((v2.getD (v21.getD (IntKind.i64.wrap ((v21.length : Int) - 1)).toNat 0).toNat []).getD v30.toNat 0)]) I el29 I I ⟨rfl, trivial⟩ I els_i64 I I I I) I ?_
             have ⟨hg38, h⟩ := Zi h
             refine Z1 I (st_append (m := 11) (enc := Z8) (l := v21) (l' := ([((v2.getD (v21.getD (IntKind.i64.wrap ((v21.length : Int) - 1)).toNat 0).toNat []).getD v30.toNat 0)])) (src := (.vs 94)) (rd := [(94, (.vec 1 (List.map Z8 ([((v2.getD (v21.getD (IntKind.i64.wrap ((v21.length : Int) - 1)).toNat 0).toNat []).getD v30.toNat 0)]))))]) I I el29 I u29 I I I I (oneRead I) els_i64 hg38) I <| Z1 I (Zh (v := (.vs 11)) I I) I <| Zb <| Ze <| AWp.exit <| At.over I <| At.thru ?_
             exact Zl (st' := ⟨[(4, (.sl 1 (v2.map Zg) false)), (7, (.sl 1 (v13.map Z8) false)), (8, (.int .i64 v18)), (11, (.vs 11))], [(11, (.vec 1 (List.map Z8 (v21 ++ ([((v2.getD (v21.getD (IntKind.i64.wrap ((v21.length : Int) - 1)).toNat 0).toNat []).getD v30.toNat 0)])))))]⟩) ⟨rfl, rfl, rfl, rfl, trivial⟩ ⟨rfl, trivial⟩ (J31 (v21 ++ ([((v2.getD (v21.getD (IntKind.i64.wrap ((v21.length : Int) - 1)).toNat 0).toNat []).getD v30.toNat 0)])) h)
            ·have h := hif.2 hc
             refine Zy <| At.end <| Ze <| Z6 <| Z1 I (st_arith (k := .i64) (a := v30) (b := 1) (c := (IntKind.i64.wrap (v30 + 1))) I I I I) I <| Z1 I (Z9 (v := (.int .i64 (IntKind.i64.wrap (v30 + 1)))) I I) I <| Zb ?_
             exact Zl (st' := ⟨[(4, (.sl 1 (v2.map Zg) false)), (7, (.sl 1 (v13.map Z8) false)), (8, (.int .i64 v18)), (11, (.vs 11)), (77, (.sl 1 ((v2.getD (v21.getD (IntKind.i64.wrap ((v21.length : Int) - 1)).toNat 0).toNat []).map Z8) false)), (78, (.int .i64 ((v2.getD (v21.getD (IntKind.i64.wrap ((v21.length : Int) - 1)).toNat 0).toNat []).length : Int))), (79, (.int .i64 (IntKind.i64.wrap (v30 + 1))))], [(11, (.vec 1 (List.map Z8 v21)))]⟩) ⟨rfl, rfl, rfl, rfl, rfl, rfl, rfl, trivial⟩ ⟨rfl, trivial⟩ (IH31 _ (IntKind.i64.wrap (v30 + 1)) (Nat.lt_succ_self _) h)
           ·have h := hif.2 hc
            refine AWp.exit <| At.thru ?_
            exact Zl (st' := ⟨[(4, (.sl 1 (v2.map Zg) false)), (7, (.sl 1 (v13.map Z8) false)), (8, (.int .i64 v18)), (11, (.vs 11))], [(11, (.vec 1 (List.map Z8 v21)))]⟩) ⟨rfl, rfl, rfl, rfl, trivial⟩ ⟨rfl, trivial⟩ (J31 v21 h)
        ·have h := hif.2 hc
         refine AWp.exit <| At.thru ?_
         exact Zl (st' := ⟨[(11, (.vs 11))], [(11, (.vec 1 (List.map Z8 v21)))]⟩) ⟨rfl, trivial⟩ ⟨rfl, trivial⟩ (J22 v21 h)
    ·intro N k17 v h IH17 J17
     obtain ⟨v15, v16⟩ := v
     try dsimp only at h IH17 J17 ⊢
     cases k17 with
     | zero => cases h
     | succ k17 =>
      rw [F20_l17] at h
      refine Zf <| Z6 <| Z1 I (st_cmp (k := .i64) (a := v16) (b := ((v2.getD v7.toNat []).length : Int)) (c := (decide (v16 < ((v2.getD v7.toNat []).length : Int)))) I I I I) I <| Zb <| Ze <| Zf ?_
      have hif := of_if h
      refine Zv I (fun hc => ?_) (fun hc => ?_)
      ·have h := hif.1 hc
       refine Zy <| Ze <| Zf <| AWp.block <| Zf <| Z6 ?_
       have ⟨hg40, h⟩ := Zi h
       refine Z1 I (st_index (k := .i64) (l := (v2.getD v7.toNat [])) (enc := Z8) (z := 0) (n := v16) (cs := [(.int .i64 ((v2.getD v7.toNat []).getD v16.toNat 0))]) (full := false) I s29 I I hg40 I) I <| Z1 I (st_loadI (cs := [(.int .i64 ((v2.getD v7.toNat []).getD v16.toNat 0))]) (v := (.int .i64 ((v2.getD v7.toNat []).getD v16.toNat 0))) I o3 I I) I <| Z1 I (Zh (v := (.int .i64 ((v2.getD v7.toNat []).getD v16.toNat 0))) I I) I <| Zb <| Ze <| Zf ?_
       refine AWp.join (V := Bool) (lp := fun v => F20_j42 K v2 v7 v16 v13 (F20_l17 K v2 v7 v13 (F20_c19 K (F20_l8 K a0 v6 v2 (F20_c9 K) k8) v7 v2 v13) k17) v15 v = some r) (sh := fun v => ⟨[(4, (.sl 1 (v2.map Zg) false)), (5, (.sl 1 (v6.map Zg) false)), (6, (.int .i64 v7)), (7, (.sl 1 (v13.map Z8) false)), (8, (.int .i64 v15)), (10, (.int .i64 ((v2.getD v7.toNat []).getD v16.toNat 0))), (20, (.int .i64 a0.Count)), (21, (.int .i64 v7)), (31, (.sl 1 ((v2.getD v7.toNat []).map Z8) false)), (32, (.int .i64 ((v2.getD v7.toNat []).length : Int))), (33, (.int .i64 v16)), (54, (.bool v))], []⟩) ?_ ?_
       ·intro v h
        revert h
        revert v
        intro v41 h
        try dsimp only at h ⊢
        unfold F20_j42 at h
        refine Ze ?_
        refine AWp.join (V := Int) (lp := fun v => F20_j44 K (F20_l17 K v2 v7 v13 (F20_c19 K (F20_l8 K a0 v6 v2 (F20_c9 K) k8) v7 v2 v13) k17) v16 v = some r) (sh := fun v => ⟨[(4, (.sl 1 (v2.map Zg) false)), (5, (.sl 1 (v6.map Zg) false)), (6, (.int .i64 v7)), (7, (.sl 1 (v13.map Z8) false)), (8, (.int .i64 v)), (20, (.int .i64 a0.Count)), (21, (.int .i64 v7)), (31, (.sl 1 ((v2.getD v7.toNat []).map Z8) false)), (32, (.int .i64 ((v2.getD v7.toNat []).length : Int))), (33, (.int .i64 v16))], []⟩) ?_ ?_
        ·intro v h
         revert h
         revert v
         intro v43 h
         try dsimp only at h ⊢
         unfold F20_j44 at h
         refine At.end <| Ze <| Z6 <| Z1 I (st_arith (k := .i64) (a := v16) (b := 1) (c := (IntKind.i64.wrap (v16 + 1))) I I I I) I <| Z1 I (Z9 (v := (.int .i64 (IntKind.i64.wrap (v16 + 1)))) I I) I <| Zb ?_
         exact Zl (st' := ⟨[(4, (.sl 1 (v2.map Zg) false)), (5, (.sl 1 (v6.map Zg) false)), (6, (.int .i64 v7)), (7, (.sl 1 (v13.map Z8) false)), (8, (.int .i64 v43)), (20, (.int .i64 a0.Count)), (21, (.int .i64 v7)), (31, (.sl 1 ((v2.getD v7.toNat []).map Z8) false)), (32, (.int .i64 ((v2.getD v7.toNat []).length : Int))), (33, (.int .i64 (IntKind.i64.wrap (v16 + 1))))], []⟩) ⟨rfl, rfl, rfl, rfl, rfl, rfl, rfl, rfl, rfl, rfl, trivial⟩ trivial (IH17 _ (v43, (IntKind.i64.wrap (v16 + 1))) (Nat.lt_succ_self _) h)
        ·intro J44
         have hif := of_if h
         refine Zv I (fun hc => ?_) (fun hc => ?_)
         ·have h := hif.1 hc
          refine Z6 <| Z1 I (Z9 (v := (.sl 1 (v13.map Z8) false)) I I) I <| Z1 I (Z9 (v := (.int .i64 ((v2.getD v7.toNat []).getD v16.toNat 0))) I I) I ?_
          have ⟨hg45, h⟩ := Zi h
          refine Z1 I (st_index (k := .i64) (l := v13) (enc := Z8) (z := 0) (n := ((v2.getD v7.toNat []).getD v16.toNat 0)) (cs := [(.int .i64 (v13.getD ((v2.getD v7.toNat []).getD v16.toNat 0).toNat 0))]) (full := false) I s29 I I hg45 I) I <| Z1 I (st_loadI (cs := [(.int .i64 (v13.getD ((v2.getD v7.toNat []).getD v16.toNat 0).toNat 0))]) (v := (.int .i64 (v13.getD ((v2.getD v7.toNat []).getD v16.toNat 0).toNat 0))) I o3 I I) I <| Z1 I (st_arith (k := .i64) (a := (v13.getD ((v2.getD v7.toNat []).getD v16.toNat 0).toNat 0)) (b := 1) (c := (IntKind.i64.wrap ((v13.getD ((v2.getD v7.toNat []).getD v16.toNat 0).toNat 0) + 1))) I I I I) I <| Z1 I (Zh (v := (.int .i64 (IntKind.i64.wrap ((v13.getD ((v2.getD v7.toNat []).getD v16.toNat 0).toNat 0) + 1)))) I I) I <| Zb ?_
          exact Zl (st' := ⟨[(4, (.sl 1 (v2.map Zg) false)), (5, (.sl 1 (v6.map Zg) false)), (6, (.int .i64 v7)), (7, (.sl 1 (v13.map Z8) false)), (8, (.int .i64 (IntKind.i64.wrap ((v13.getD ((v2.getD v7.toNat []).getD v16.toNat 0).toNat 0) + 1)))), (20, (.int .i64 a0.Count)), (21, (.int .i64 v7)), (31, (.sl 1 ((v2.getD v7.toNat []).map Z8) false)), (32, (.int .i64 ((v2.getD v7.toNat []).length : Int))), (33, (.int .i64 v16))], []⟩) ⟨rfl, rfl, rfl, rfl, rfl, rfl, rfl, rfl, rfl, rfl, trivial⟩ trivial (J44 (IntKind.i64.wrap ((v13.getD ((v2.getD v7.toNat []).getD v16.toNat 0).toNat 0) + 1)) h)
         ·have h := hif.2 hc
          refine Zy ?_
          exact Zl (st' := ⟨[(4, (.sl 1 (v2.map Zg) false)), (5, (.sl 1 (v6.map Zg) false)), (6, (.int .i64 v7)), (7, (.sl 1 (v13.map Z8) false)), (8, (.int .i64 v15)), (20, (.int .i64 a0.Count)), (21, (.int .i64 v7)), (31, (.sl 1 ((v2.getD v7.toNat []).map Z8) false)), (32, (.int .i64 ((v2.getD v7.toNat []).length : Int))), (33, (.int .i64 v16))], []⟩) ⟨rfl, rfl, rfl, rfl, rfl, rfl, rfl, rfl, rfl, rfl, trivial⟩ trivial (J44 v15 h)
       ·intro J42
        refine Z6 <| Z1 I (Z9 (v := (.sl 1 (v13.map Z8) false)) I I) I <| Z1 I (Z9 (v := (.int .i64 ((v2.getD v7.toNat []).getD v16.toNat 0))) I I) I ?_
        have ⟨hg46, h⟩ := Zi h
        refine Z1 I (st_index (k := .i64) (l := v13) (enc := Z8) (z := 0) (n := ((v2.getD v7.toNat []).getD v16.toNat 0)) (cs := [(.int .i64 (v13.getD ((v2.getD v7.toNat []).getD v16.toNat 0).toNat 0))]) (full := false) I s29 I I hg46 I) I <| Z1 I (st_loadI (cs := [(.int .i64 (v13.getD ((v2.getD v7.toNat []).getD v16.toNat 0).toNat 0))]) (v := (.int .i64 (v13.getD ((v2.getD v7.toNat []).getD v16.toNat 0).toNat 0))) I o3 I I) I <| Z1 I (st_cmp (k := .i64) (a := (v13.getD ((v2.getD v7.toNat []).getD v16.toNat 0).toNat 0)) (b := 0) (c := (decide ((v13.getD ((v2.getD v7.toNat []).getD v16.toNat 0).toNat 0) ≥ 0))) I I I I) I <| Z1 I (Z9 (v := (.bool (decide ((v13.getD ((v2.getD v7.toNat []).getD v16.toNat 0).toNat 0) ≥ 0)))) I I) I ?_
        have hif := of_if h
        refine AOps.split (fun hc => ?_) (fun hc => ?_)
        ·have h := hif.1 hc
         refine Zj I I I I (Z9 (v := (.int .i64 v15)) I I) I <| Zj I I I I (st_cmp (k := .i64) (a := v15) (b := 0) (c := (v15 == 0)) I I I I) I <| Zj I I I I (Z9 (v := (.bool (v15 == 0))) I I) I ?_
         have hif := of_if h
         refine AOps.split (fun hc => ?_) (fun hc => ?_)
         ·have h := hif.1 hc
          refine Z5 I I I I I I I <| Z5 I I I I I I I <| Z5 I I I I I I I <| Z5 I I I I I I I <| Z5 I I I I I I I <| Z5 I I I I I I I <| Z5 I I I I I I I <| Zj I I I I (Zz (v := (.bool true)) I I I) I ?_
          refine Z1 I (Zz (v := (.bool true)) I I I) I <| Zb ?_
          exact Zl (st' := ⟨[(4, (.sl 1 (v2.map Zg) false)), (5, (.sl 1 (v6.map Zg) false)), (6, (.int .i64 v7)), (7, (.sl 1 (v13.map Z8) false)), (8, (.int .i64 v15)), (10, (.int .i64 ((v2.getD v7.toNat []).getD v16.toNat 0))), (20, (.int .i64 a0.Count)), (21, (.int .i64 v7)), (31, (.sl 1 ((v2.getD v7.toNat []).map Z8) false)), (32, (.int .i64 ((v2.getD v7.toNat []).length : Int))), (33, (.int .i64 v16)), (54, (.bool true))], []⟩) ⟨rfl, rfl, rfl, rfl, rfl, rfl, rfl, rfl, rfl, rfl, rfl, rfl, trivial⟩ trivial (J42 true h)
         ·have h := hif.2 hc
          refine Zj I I I I (Z9 (v := (.sl 1 (v13.map Z8) false)) I I) I <| Zj I I I I (Z9 (v := (.int .i64 ((v2.getD v7.toNat []).getD v16.toNat 0))) I I) I ?_
          have ⟨hg47, h⟩ := Zi h
          refine Zj I I I I (st_index (k := .i64) (l := v13) (enc := Z8) (z := 0) (n := ((v2.getD v7.toNat []).getD v16.toNat 0)) (cs := [(.int .i64 (v13.getD ((v2.getD v7.toNat []).getD v16.toNat 0).toNat 0))]) (full := false) I s29 I I hg47 I) I <| Zj I I I I (st_loadI (cs := [(.int .i64 (v13.getD ((v2.getD v7.toNat []).getD v16.toNat 0).toNat 0))]) (v := (.int .i64 (v13.getD ((v2.getD v7.toNat []).getD v16.toNat 0).toNat 0))) I o3 I I) I <| Zj I I I I (st_arith (k := .i64) (a := (v13.getD ((v2.getD v7.toNat []).getD v16.toNat 0).toNat 0)) (b := 1) (c := (IntKind.i64.wrap ((v13.getD ((v2.getD v7.toNat []).getD v16.toNat 0).toNat 0) + 1))) I I I I) I <| Zj I I I I (Z9 (v := (.int .i64 v15)) I I) I <| Zj I I I I (st_cmp (k := .i64) (a := (IntKind.i64.wrap ((v13.getD ((v2.getD v7.toNat []).getD v16.toNat 0).toNat 0) + 1))) (b := v15) (c := (decide ((IntKind.i64.wrap ((v13.getD ((v2.getD v7.toNat []).getD v16.toNat 0).toNat 0) + 1)) < v15))) I I I I) I <| Zj I I I I (Zx (v := (.bool (decide ((IntKind.i64.wrap ((v13.getD ((v2.getD v7.toNat []).getD v16.toNat 0).toNat 0) + 1)) < v15)))) I I I) I <| Z1 I (Zz (v := (.bool (decide ((IntKind.i64.wrap ((v13.getD ((v2.getD v7.toNat []).getD v16.toNat 0).toNat 0) + 1)) < v15)))) I I I) I <| Zb ?_
          exact Zl (st' := ⟨[(4, (.sl 1 (v2.map Zg) false)), (5, (.sl 1 (v6.map Zg) false)), (6, (.int .i64 v7)), (7, (.sl 1 (v13.map Z8) false)), (8, (.int .i64 v15)), (10, (.int .i64 ((v2.getD v7.toNat []).getD v16.toNat 0))), (20, (.int .i64 a0.Count)), (21, (.int .i64 v7)), (31, (.sl 1 ((v2.getD v7.toNat []).map Z8) false)), (32, (.int .i64 ((v2.getD v7.toNat []).length : Int))), (33, (.int .i64 v16)), (54, (.bool (decide ((IntKind.i64.wrap ((v13.getD ((v2.getD v7.toNat []).getD v16.toNat 0).toNat 0) + 1)) < v15))))], []⟩) ⟨rfl, rfl, rfl, rfl, rfl, rfl, rfl, rfl, rfl, rfl, rfl, rfl, trivial⟩ trivial (J42 (decide ((IntKind.i64.wrap ((v13.getD ((v2.getD v7.toNat []).getD v16.toNat 0).toNat 0) + 1)) < v15)) h)
        ·have h := hif.2 hc
         refine Z5 I I I I I I I <| Z5 I I I I I I I <| Z5 I I I I I I I <| Z5 (u := .tup []) I I I I I I I <| Z5 (u := .tup []) I I I I I I I <| Z5 (u := .tup []) I I I I I I I <| Z5 (u := .tup []) I I I I I I I <| Z5 (u := .tup []) I I I I I I I ?_
         refine Z5 (u := .tup []) I I I I I I I <| Z5 (u := .tup []) I I I I I I I <| Z5 I I I I I I I <| Z1 I (Zx (v := (.bool false)) I I I) I <| Zb ?_
         exact Zl (st' := ⟨[(4, (.sl 1 (v2.map Zg) false)), (5, (.sl 1 (v6.map Zg) false)), (6, (.int .i64 v7)), (7, (.sl 1 (v13.map Z8) false)), (8, (.int .i64 v15)), (10, (.int .i64 ((v2.getD v7.toNat []).getD v16.toNat 0))), (20, (.int .i64 a0.Count)), (21, (.int .i64 v7)), (31, (.sl 1 ((v2.getD v7.toNat []).map Z8) false)), (32, (.int .i64 ((v2.getD v7.toNat []).length : Int))), (33, (.int .i64 v16)), (54, (.bool false))], []⟩) ⟨rfl, rfl, rfl, rfl, rfl, rfl, rfl, rfl, rfl, rfl, rfl, rfl, trivial⟩ trivial (J42 false h)
      ·have h := hif.2 hc
       refine AWp.exit <| At.thru ?_
       exact Zl (st' := ⟨[(4, (.sl 1 (v2.map Zg) false)), (5, (.sl 1 (v6.map Zg) false)), (6, (.int .i64 v7)), (7, (.sl 1 (v13.map Z8) false)), (8, (.int .i64 v15)), (20, (.int .i64 a0.Count)), (21, (.int .i64 v7))], []⟩) ⟨rfl, rfl, rfl, rfl, rfl, rfl, rfl, trivial⟩ trivial (J17 v15 h)
   ·have h := hif.2 hc
    refine AWp.exit <| At.thru ?_
    exact Zl (st' := ⟨[], []⟩) trivial trivial (J8 () h)
def F19_c17 (K : Nat) (v16 : (List Int)) : Option ((List Int) × Int) :=
 some (v16, 0)
def F19_c33 (K : Nat) (b19 : Int → (List Int) → (List Bool) → (List Int) → Option ((List Int) × Int)) (v11 : Int) (v13 : (List Bool)) (v22 : Int) (v14 : (List Int)) (v32 : (List Int)) : Option ((List Int) × Int) :=
 b19 (IntKind.i64.wrap (v11 + 1)) v32 (v13.set v22.toNat true) (v14 ++ [v22])
def F19_l31 (K : Nat) (v2 : (List (List Int))) (v22 : Int) (c34 : (List Int) → Option ((List Int) × Int)) : Nat → Int → (List Int) → Option ((List Int) × Int)
 | 0, _, _ => none
 | k31 + 1, v29, v30 =>
  if (decide (v29 < ((v2.getD v22.toNat []).length : Int))) = true then
   if (0 : Int) ≤ v29 ∧ v29 < (v2.getD v22.toNat []).length then
    if (0 : Int) ≤ ((v2.getD v22.toNat []).getD v29.toNat 0) ∧ ((v2.getD v22.toNat []).getD v29.toNat 0) < (v30.length : Nat) then
     if ((v2.getD v22.toNat []).getD v29.toNat 0).toNat < v30.length then
      if (0 : Int) ≤ ((v2.getD v22.toNat []).getD v29.toNat 0) ∧ ((v2.getD v22.toNat []).getD v29.toNat 0) < (v30.length : Nat) then
       if ((v2.getD v22.toNat []).getD v29.toNat 0).toNat < v30.length then
        (F19_l31 K v2 v22 c34 k31) (IntKind.i64.wrap (v29 + 1)) (v30.set ((v2.getD v22.toNat []).getD v29.toNat 0).toNat (IntKind.i64.wrap ((v30.getD ((v2.getD v22.toNat []).getD v29.toNat 0).toNat 0) - 1)))
       else none
      else none
     else none
    else none
   else none
  else
   c34 v30
def F19_c23 (K : Nat) (a0 : Za) (v13 : (List Bool)) (v14 : (List Int)) (v2 : (List (List Int))) (b19 : Int → (List Int) → (List Bool) → (List Int) → Option ((List Int) × Int)) (v11 : Int) (v12 : (List Int)) (v22 : Int) : Option ((List Int) × Int) :=
 if (v22 == a0.Count) = true then
  some ([], 35)
 else
  if (0 : Int) ≤ v22 ∧ v22 < (v13.length : Nat) then
   if v22.toNat < v13.length then
    if v14.length + [v22].length ≤ 1073741824 then
     if (0 : Int) ≤ v22 ∧ v22 < v2.length then
      F19_l31 K v2 v22 (F19_c33 K b19 v11 v13 v22 v14) K 0 v12
     else none
    else none
   else none
  else none
def F19_j43 (K : Nat) (b41 : Int → Option ((List Int) × Int)) (v20 : Int) (c24 : Int → Option ((List Int) × Int)) (v42 : Bool) : Option ((List Int) × Int) :=
 if v42 = true then
  b41 (IntKind.i64.wrap (v20 + 1))
 else
  c24 v20
def F19_l21 (K : Nat) (a0 : Za) (v13 : (List Bool)) (v12 : (List Int)) (c24 : Int → Option ((List Int) × Int)) : Nat → Int → Option ((List Int) × Int)
 | 0, _ => none
 | k21 + 1, v20 =>
  if (decide (v20 < a0.Count)) = true then
   if (0 : Int) ≤ v20 ∧ v20 < (v13.length : Nat) then
    if v20.toNat < v13.length then
     if (v13.getD v20.toNat false) = true then
      F19_j43 K (F19_l21 K a0 v13 v12 c24 k21) v20 c24 true
     else
      if (0 : Int) ≤ v20 ∧ v20 < (v12.length : Nat) then
       if v20.toNat < v12.length then
        F19_j43 K (F19_l21 K a0 v13 v12 c24 k21) v20 c24 (decide ((v12.getD v20.toNat 0) > 0))
       else none
      else none
    else none
   else none
  else
   F19_j43 K (F19_l21 K a0 v13 v12 c24 k21) v20 c24 false
def F19_l15 (K : Nat) (a0 : Za) (v2 : (List (List Int))) (c18 : (List Int) → Option ((List Int) × Int)) : Nat → Int → (List Int) → (List Bool) → (List Int) → Option ((List Int) × Int)
 | 0, _, _, _, _ => none
 | k15 + 1, v11, v12, v13, v14 =>
  if (decide (v11 < a0.Count)) = true then
   F19_l21 K a0 v13 v12 (F19_c23 K a0 v13 v14 v2 (F19_l15 K a0 v2 c18 k15) v11 v12) K 0
  else
   c18 v14
def F19_c8 (K : Nat) (a0 : Za) (v2 : (List (List Int))) (v7 : (List Int)) : Option ((List Int) × Int) :=
 if (0 : Int) ≤ a0.Count ∧ a0.Count ≤ a0.Count ∧ a0.Count ≤ 1073741824 then
  F19_l15 K a0 v2 (F19_c17 K) K 0 v7 (List.replicate a0.Count.toNat (false : Bool)) []
 else none
def F19_l6 (K : Nat) (a0 : Za) (c9 : (List Int) → Option ((List Int) × Int)) : Nat → Int → (List Int) → Option ((List Int) × Int)
 | 0, _, _ => none
 | k6 + 1, v4, v5 =>
  if (decide (v4 < (a0.Edges.length : Int))) = true then
   if (0 : Int) ≤ v4 ∧ v4 < a0.Edges.length then
    if (0 : Int) ≤ (a0.Edges.getD v4.toNat Z2).To ∧ (a0.Edges.getD v4.toNat Z2).To < (v5.length : Nat) then
     if (a0.Edges.getD v4.toNat Z2).To.toNat < v5.length then
      if (0 : Int) ≤ (a0.Edges.getD v4.toNat Z2).To ∧ (a0.Edges.getD v4.toNat Z2).To < (v5.length : Nat) then
       if (a0.Edges.getD v4.toNat Z2).To.toNat < v5.length then
        (F19_l6 K a0 c9 k6) (IntKind.i64.wrap (v4 + 1)) (v5.set (a0.Edges.getD v4.toNat Z2).To.toNat (IntKind.i64.wrap ((v5.getD (a0.Edges.getD v4.toNat Z2).To.toNat 0) + 1)))
       else none
      else none
     else none
    else none
   else none
  else
   c9 v5
def F19 (K : Nat) (a0 : Za) : Option ((List Int) × Int) :=
 (F47 K a0).bind fun v2 =>
  if (0 : Int) ≤ a0.Count ∧ a0.Count ≤ a0.Count ∧ a0.Count ≤ 1073741824 then
   F19_l6 K a0 (F19_c8 K a0 v2) K 0 (List.replicate a0.Count.toNat (0 : Int))
  else none
theorem F19_ok (K : Nat) (a0 : Za) (r : (List Int) × Int) (h : F19 K a0 = some r) : ACall P 19 ⟨[(Z4 a0)], [], (.tup [(.sl 1 (r.1.map Z8) false), (.int .i64 r.2)]), [], []⟩ := by
 refine acall_of Try.func19 Try.results19 rfl Try.ntmps19 rfl rfl rfl ?_
 intro E Q hP hN hro hret
 obtain ⟨P', nt', w0, F0, p0, S0, β0, ro0⟩ := E
 simp only at hP hN
 subst hP hN
 dsimp only [argT]
 unfold F19 at h
 refine Zf <| Z6 <| Z1 I (st_box (v := (Z4 a0)) (cs := (Z4 a0).cells) I I I I I) I <| Z1 I (Zh (v := (.sl 1 [] false)) I I) I <| Z1 I (Zh (v := (.int .i64 0)) I I) I <| Zb <| Ze <| Zf ?_
 refine Z6 <| Z1 I (st_loadPA (cs := (Z4 a0).cells) (vs := (Z4 a0).cells) I a35 I I I I) I ?_
 have ⟨v2, hv2, h⟩ := of_bind h
 refine Z1 I (st_call0 (ar := [(Z4 a0)]) (caps := []) Try.call47 (F47_ok K a0 v2 hv2) I I ⟨rfl, trivial⟩ I) I <| Z1 I (Zh (v := (.sl 1 (v2.map Zg) false)) I I) I <| Zb <| Ze <| Zf <| Z6 <| Z1 I (Z10 (m := 1) (o := 0) I f35_0 I I) I <| Z1 I (Zu (cs := (Z4 a0).cells) (v := (.int .i64 a0.Count)) I o3 I I I) I ?_
 have ⟨hg3, h⟩ := Zi h
 refine Z1 I (st_makeSlice (kx := .i64) (ky := .i64) (a := a0.Count) (c := a0.Count) (n := a0.Count.toNat) I el29 I ze3 els_i64 I I I hg3 I) I <| Z1 I (Zh (v := (.vs 17)) I I) I <| Zb <| Ze <| Zf <| Zf <| Z6 <| Z1 I (Z10 (m := 1) (o := 0) I f35_1 I I) I ?_
 refine Z1 I (Zu (cs := (Z4 a0).cells) (v := (.sl 2 (a0.Edges.map Z3) false)) I o33 I I I) I <| Z1 I (stx_len (l := a0.Edges) (enc := Z3) I s33 I) I <| Z1 I (Z9 (v := (.int .i64 0)) I I) I <| Zb <| Ze <| AWp.ghost (st' := ⟨[(1, (.ptr 1 0)), (4, (.sl 1 (v2.map Zg) false)), (5, (.vs 5)), (19, (.sl 2 (a0.Edges.map Z3) false)), (20, (.int .i64 (a0.Edges.length : Int))), (21, (.int .i64 0))], [(1, (.box (Z4 a0).cells)), (5, (.vec 1 (List.map Z8 (List.replicate a0.Count.toNat (0 : Int)))))]⟩) (fun a w h => (Zp ⟨[(1, (.ptr 1 0)), (4, (.sl 1 (v2.map Zg) false)), (5, (.vs 5)), (19, (.sl 2 (a0.Edges.map Z3) false)), (20, (.int .i64 (a0.Edges.length : Int))), (21, (.int .i64 0))], [(1, (.box (Z4 a0).cells)), (5, (.vec 1 (List.map Z8 (List.replicate a0.Count.toNat (0 : Int)))))]⟩ (ghost_sw (a := 17) (b := 5) I I a w (Zp ⟨[(1, (.ptr 1 0)), (4, (.sl 1 (v2.map Zg) false)), (5, (.vs 17)), (19, (.sl 2 (a0.Edges.map Z3) false)), (20, (.int .i64 (a0.Edges.length : Int))), (21, (.int .i64 0))], [(1, (.box (Z4 a0).cells)), (17, (.vec 1 (List.map Z8 (List.replicate a0.Count.toNat (0 : Int)))))]⟩ h ⟨rfl, rfl, rfl, rfl, rfl, rfl, trivial⟩ ⟨rfl, rfl, trivial⟩)) ⟨rfl, rfl, rfl, rfl, rfl, rfl, trivial⟩ ⟨rfl, rfl, trivial⟩)) <| AWp.weaken (st' := ⟨[(1, (.ptr 1 0)), (4, (.sl 1 (v2.map Zg) false)), (5, (.vs 5)), (19, (.sl 2 (a0.Edges.map Z3) false)), (20, (.int .i64 (a0.Edges.length : Int))), (21, (.int .i64 0))], [(1, (.box (Z4 a0).cells)), (5, (.vec 1 (List.map Z8 (List.replicate a0.Count.toNat (0 : Int)))))]⟩) ⟨rfl, rfl, rfl, rfl, rfl, rfl, trivial⟩ ⟨rfl, rfl, trivial⟩ ?_
 refine Zw (V := Int × (List Int)) (X := (List Int)) (lp := fun k v => F19_l6 K a0 (F19_c8 K a0 v2) k v.1 v.2 = some r) (sh := fun v => ⟨[(1, (.ptr 1 0)), (4, (.sl 1 (v2.map Zg) false)), (5, (.vs 5)), (19, (.sl 2 (a0.Edges.map Z3) false)), (20, (.int .i64 (a0.Edges.length : Int))), (21, (.int .i64 v.1))], [(1, (.box (Z4 a0).cells)), (5, (.vec 1 (List.map Z8 v.2)))]⟩) (x := fun v => F19_c8 K a0 v2 v = some r) (shx := fun v => ⟨[(1, (.ptr 1 0)), (4, (.sl 1 (v2.map Zg) false)), (5, (.vs 5))], [(1, (.box (Z4 a0).cells)), (5, (.vec 1 (List.map Z8 v)))]⟩) (k := K) (v := (0, (List.replicate a0.Count.toNat (0 : Int)))) h ?_ ?_
 ·intro v h
  revert h
  revert v
  intro v7 h
  try dsimp only at h ⊢
  unfold F19_c8 at h
  refine Ze <| Zf <| Z6 <| Z1 I (Z10 (m := 1) (o := 0) I f35_0 I I) I <| Z1 I (Zu (cs := (Z4 a0).cells) (v := (.int .i64 a0.Count)) I o3 I I I) I ?_
  have ⟨hg10, h⟩ := Zi h
  refine Z1 I (st_makeSlice (kx := .i64) (ky := .i64) (a := a0.Count) (c := a0.Count) (n := a0.Count.toNat) I el49 I ze4 els_bool I I I hg10 I) I <| Z1 I (Zh (v := (.vs 35)) I I) I <| Zb <| Ze <| Zf <| Z6 <| Z1 I (Zh (v := (.sl 1 [] true)) I I) I <| Zb ?_
  refine Ze <| Zf <| Zf <| Z6 <| Z1 I (Z10 (m := 1) (o := 0) I f35_0 I I) I <| Z1 I (Zu (cs := (Z4 a0).cells) (v := (.int .i64 a0.Count)) I o3 I I I) I <| Z1 I (Z9 (v := (.int .i64 0)) I I) I <| Zb ?_
  refine Ze <| AWp.ghost (st' := ⟨[(1, (.ptr 1 0)), (4, (.sl 1 (v2.map Zg) false)), (5, (.vs 5)), (8, (.vs 8)), (9, (.vs 9)), (37, (.int .i64 a0.Count)), (38, (.int .i64 0))], [(1, (.box (Z4 a0).cells)), (5, (.vec 1 (List.map Z8 v7))), (8, (.vec 1 (List.map Zo (List.replicate a0.Count.toNat (false : Bool))))), (9, (.vec 1 (List.map Z8 ([] : List Int))))]⟩) (fun a w h => (Zp ⟨[(1, (.ptr 1 0)), (4, (.sl 1 (v2.map Zg) false)), (5, (.vs 5)), (8, (.vs 8)), (9, (.vs 9)), (37, (.int .i64 a0.Count)), (38, (.int .i64 0))], [(1, (.box (Z4 a0).cells)), (5, (.vec 1 (List.map Z8 v7))), (8, (.vec 1 (List.map Zo (List.replicate a0.Count.toNat (false : Bool))))), (9, (.vec 1 (List.map Z8 ([] : List Int))))]⟩ (ghost_sw (a := 35) (b := 8) I I a w (Zp ⟨[(1, (.ptr 1 0)), (4, (.sl 1 (v2.map Zg) false)), (5, (.vs 5)), (8, (.vs 35)), (9, (.vs 9)), (37, (.int .i64 a0.Count)), (38, (.int .i64 0))], [(1, (.box (Z4 a0).cells)), (5, (.vec 1 (List.map Z8 v7))), (9, (.vec 1 (List.map Z8 ([] : List Int)))), (35, (.vec 1 (List.map Zo (List.replicate a0.Count.toNat (false : Bool)))))]⟩ (Zp ⟨[(1, (.ptr 1 0)), (4, (.sl 1 (v2.map Zg) false)), (5, (.vs 5)), (8, (.vs 35)), (9, (.vs 9)), (37, (.int .i64 a0.Count)), (38, (.int .i64 0))], [(1, (.box (Z4 a0).cells)), (5, (.vec 1 (List.map Z8 v7))), (9, (.vec 1 (List.map Z8 ([] : List Int)))), (35, (.vec 1 (List.map Zo (List.replicate a0.Count.toNat (false : Bool)))))]⟩ (ghost_own (k := 9) (m := 9) (sz := 1) I I a w (Zp ⟨[(9, (.sl 1 [] true)), (1, (.ptr 1 0)), (4, (.sl 1 (v2.map Zg) false)), (5, (.vs 5)), (8, (.vs 35)), (37, (.int .i64 a0.Count)), (38, (.int .i64 0))], [(1, (.box (Z4 a0).cells)), (5, (.vec 1 (List.map Z8 v7))), (35, (.vec 1 (List.map Zo (List.replicate a0.Count.toNat (false : Bool)))))]⟩ h ⟨rfl, rfl, rfl, rfl, rfl, rfl, rfl, trivial⟩ ⟨rfl, rfl, rfl, trivial⟩)) ⟨rfl, rfl, rfl, rfl, rfl, rfl, rfl, trivial⟩ ⟨rfl, rfl, rfl, rfl, trivial⟩) ⟨rfl, rfl, rfl, rfl, rfl, rfl, rfl, trivial⟩ ⟨rfl, rfl, rfl, rfl, trivial⟩)) ⟨rfl, rfl, rfl, rfl, rfl, rfl, rfl, trivial⟩ ⟨rfl, rfl, rfl, rfl, trivial⟩)) <| AWp.weaken (st' := ⟨[(1, (.ptr 1 0)), (4, (.sl 1 (v2.map Zg) false)), (5, (.vs 5)), (8, (.vs 8)), (9, (.vs 9)), (37, (.int .i64 a0.Count)), (38, (.int .i64 0))], [(1, (.box (Z4 a0).cells)), (5, (.vec 1 (List.map Z8 v7))), (8, (.vec 1 (List.map Zo (List.replicate a0.Count.toNat (false : Bool))))), (9, (.vec 1 (List.map Z8 [])))]⟩) ⟨rfl, rfl, rfl, rfl, rfl, rfl, rfl, trivial⟩ ⟨rfl, rfl, rfl, rfl, trivial⟩ ?_
  refine Zw (V := Int × (List Int) × (List Bool) × (List Int)) (X := (List Int)) (lp := fun k v => F19_l15 K a0 v2 (F19_c17 K) k v.1 v.2.1 v.2.2.1 v.2.2.2 = some r) (sh := fun v => ⟨[(1, (.ptr 1 0)), (4, (.sl 1 (v2.map Zg) false)), (5, (.vs 5)), (8, (.vs 8)), (9, (.vs 9)), (37, (.int .i64 a0.Count)), (38, (.int .i64 v.1))], [(1, (.box (Z4 a0).cells)), (5, (.vec 1 (List.map Z8 v.2.1))), (8, (.vec 1 (List.map Zo v.2.2.1))), (9, (.vec 1 (List.map Z8 v.2.2.2)))]⟩) (x := fun v => F19_c17 K v = some r) (shx := fun v => ⟨[(9, (.vs 9))], [(9, (.vec 1 (List.map Z8 v)))]⟩) (k := K) (v := (0, v7, (List.replicate a0.Count.toNat (false : Bool)), [])) h ?_ ?_
  ·intro v h
   revert h
   revert v
   intro v16 h
   try dsimp only at h ⊢
   unfold F19_c17 at h
   refine Ze <| Zf <| Z6 <| Z1 I (Z9 (v := (.vs 9)) I I) I <| Z1 I (Zh (v := (.vs 9)) I I) I <| Z1 I (Zh (v := (.int .i64 0)) I I) I <| Zb <| Ze ?_
   refine AWp.ret <| At.ghost (st' := ⟨[(2, (.sl 1 (v16.map Z8) false)), (3, (.int .i64 0))], []⟩) (fun a w h => (Zp ⟨[(2, (.sl 1 (v16.map Z8) false)), (3, (.int .i64 0))], []⟩ (ghost_freeze (m := 9) (sz := 1) (es := (List.map Z8 v16)) a w (Zp ⟨[(2, (.vs 9)), (3, (.int .i64 0))], [(9, (.vec 1 (List.map Z8 v16)))]⟩ h ⟨rfl, rfl, trivial⟩ ⟨rfl, trivial⟩)) ⟨rfl, rfl, trivial⟩ trivial)) ?_
   have h := Option.some.inj h
   subst h
   refine (hret _ ?_).1
   exact ⟨[(.sl 1 (v16.map Z8) false), (.int .i64 0)], ⟨rfl, rfl, trivial⟩, rfl, trivial⟩
  ·intro N k15 v h IH15 J15
   obtain ⟨v11, v12, v13, v14⟩ := v
   try dsimp only at h IH15 J15 ⊢
   cases k15 with
   | zero => cases h
   | succ k15 =>
    rw [F19_l15] at h
    refine Zf <| Z6 <| Z1 I (st_cmp (k := .i64) (a := v11) (b := a0.Count) (c := (decide (v11 < a0.Count))) I I I I) I <| Zb <| Ze <| Zf ?_
    have hif := of_if h
    refine Zv I (fun hc => ?_) (fun hc => ?_)
    ·have h := hif.1 hc
     refine Zy <| Ze <| Zf <| AWp.block <| Zf <| Z6 <| Z1 I (Zh (v := (.int .i64 0)) I I) I <| Zb ?_
     refine Ze <| Zf <| AWp.weaken (st' := ⟨[(1, (.ptr 1 0)), (4, (.sl 1 (v2.map Zg) false)), (5, (.vs 5)), (8, (.vs 8)), (9, (.vs 9)), (10, (.int .i64 0)), (37, (.int .i64 a0.Count)), (38, (.int .i64 v11))], [(1, (.box (Z4 a0).cells)), (5, (.vec 1 (List.map Z8 v12))), (8, (.vec 1 (List.map Zo v13))), (9, (.vec 1 (List.map Z8 v14)))]⟩) ⟨rfl, rfl, rfl, rfl, rfl, rfl, rfl, rfl, trivial⟩ ⟨rfl, rfl, rfl, rfl, trivial⟩ ?_
     refine Zw (V := Int) (X := Int) (lp := fun k v => F19_l21 K a0 v13 v12 (F19_c23 K a0 v13 v14 v2 (F19_l15 K a0 v2 (F19_c17 K) k15) v11 v12) k v = some r) (sh := fun v => ⟨[(1, (.ptr 1 0)), (4, (.sl 1 (v2.map Zg) false)), (5, (.vs 5)), (8, (.vs 8)), (9, (.vs 9)), (10, (.int .i64 v)), (37, (.int .i64 a0.Count)), (38, (.int .i64 v11))], [(1, (.box (Z4 a0).cells)), (5, (.vec 1 (List.map Z8 v12))), (8, (.vec 1 (List.map Zo v13))), (9, (.vec 1 (List.map Z8 v14)))]⟩) (x := fun v => F19_c23 K a0 v13 v14 v2 (F19_l15 K a0 v2 (F19_c17 K) k15) v11 v12 v = some r) (shx := fun v => ⟨[(1, (.ptr 1 0)), (4, (.sl 1 (v2.map Zg) false)), (5, (.vs 5)), (8, (.vs 8)), (9, (.vs 9)), (10, (.int .i64 v)), (37, (.int .i64 a0.Count)), (38, (.int .i64 v11))], [(1, (.box (Z4 a0).cells)), (5, (.vec 1 (List.map Z8 v12))), (8, (.vec 1 (List.map Zo v13))), (9, (.vec 1 (List.map Z8 v14)))]⟩) (k := K) (v := 0) h ?_ ?_
     ·intro v h
      revert h
      revert v
      intro v22 h
      try dsimp only at h ⊢
      unfold F19_c23 at h
      refine Ze <| Zf <| Zf <| Z6 <| Z1 I (Z9 (v := (.int .i64 v22)) I I) I <| Z1 I (Z10 (m := 1) (o := 0) I f35_0 I I) I <| Z1 I (Zu (cs := (Z4 a0).cells) (v := (.int .i64 a0.Count)) I o3 I I I) I <| Z1 I (st_cmp (k := .i64) (a := v22) (b := a0.Count) (c := (v22 == a0.Count)) I I I I) I ?_
      refine Zb <| Ze ?_
      have hif := of_if h
      refine Zv I (fun hc => ?_) (fun hc => ?_)
      ·have h := hif.1 hc
       refine Zf <| Z6 <| Z1 I (Zh (v := (.sl 1 [] false)) I I) I <| Z1 I (Zh (v := (.int .i64 35)) I I) I <| Zb <| Ze <| AWp.ret <| At.thruR ?_
       refine At.overR <| At.thruR ?_
       refine At.thruR (At.overR ?_)
       refine At.thruR ?_
       have h := Option.some.inj h
       subst h
       refine (hret _ ?_).1
       exact ⟨[(.sl 1 [] false), (.int .i64 35)], ⟨rfl, rfl, trivial⟩, rfl, trivial⟩
      ·have h := hif.2 hc
       refine Zy <| Ze <| Zf <| Z6 <| Z1 I (Z9 (v := (.vs 8)) I I) I <| Z1 I (Z9 (v := (.int .i64 v22)) I I) I ?_
       have ⟨hg25, h⟩ := Zi h
       refine Z1 I (st_indexV (k := .i64) (v := (.vs 8)) (n := 8) (off := 0) (len := v13.length) (es := (List.map Zo v13)) (j := v22) (m := v22.toNat) I s49 I I (vecR_map _ _ _) I hg25 (Nat.zero_add _)) I ?_
       have ⟨hg26, h⟩ := Zi h
       refine Z1 I (st_storeV (l := v13) (enc := Zo) (z := false) (a := true) (v := (.bool true)) sz4 I I hg26 I els_bool I I I I) I <| Zb <| Ze <| Zf <| Z6 <| Z1 I (Z9 (v := (.vs 9)) I I) I <| Z1 I (Z9 (v := (.int .i64 v22)) I I) I <| Z1 I (stx_buildSlice (vs := [(.int .i64 v22)]) (enc := Z8) (l := [v22]) I el29 I I ⟨rfl, trivial⟩ I els_i64 I I I I) I ?_
       have ⟨hg27, h⟩ := Zi h
       refine Z1 I (st_append (m := 9) (enc := Z8) (l := v14) (l' := [v22]) (src := (.vs 68)) (rd := [(68, (.vec 1 (List.map Z8 [v22])))]) I I el29 I u29 I I I I (oneRead I) els_i64 hg27) I <| Z1 I (Zh (v := (.vs 9)) I I) I <| Zb <| Ze <| Zf <| Z6 <| Z1 I (Z9 (v := (.sl 1 (v2.map Zg) false)) I I) I <| Z1 I (Z9 (v := (.int .i64 v22)) I I) I ?_
       have ⟨hg28, h⟩ := Zi h
       refine Z1 I (st_index (k := .i64) (l := v2) (enc := Zg) (z := []) (n := v22) (cs := [(.sl 1 ((v2.getD v22.toNat []).map Z8) false)]) (full := false) I s46 I I hg28 I) I <| Z1 I (st_loadI (cs := [(.sl 1 ((v2.getD v22.toNat []).map Z8) false)]) (v := (.sl 1 ((v2.getD v22.toNat []).map Z8) false)) I o29 I I) I <| Z1 I (stx_len (l := (v2.getD v22.toNat [])) (enc := Z8) I s29 I) I <| Z1 I (Z9 (v := (.int .i64 0)) I I) I <| Zb <| Ze <| AWp.weaken (st' := ⟨[(1, (.ptr 1 0)), (4, (.sl 1 (v2.map Zg) false)), (5, (.vs 5)), (8, (.vs 8)), (9, (.vs 9)), (37, (.int .i64 a0.Count)), (38, (.int .i64 v11)), (73, (.sl 1 ((v2.getD v22.toNat []).map Z8) false)), (74, (.int .i64 ((v2.getD v22.toNat []).length : Int))), (75, (.int .i64 0))], [(1, (.box (Z4 a0).cells)), (5, (.vec 1 (List.map Z8 v12))), (8, (.vec 1 (List.map Zo (v13.set v22.toNat true)))), (9, (.vec 1 (List.map Z8 (v14 ++ [v22]))))]⟩) ⟨rfl, rfl, rfl, rfl, rfl, rfl, rfl, rfl, rfl, rfl, trivial⟩ ⟨rfl, rfl, rfl, rfl, trivial⟩ ?_
       refine Zw (V := Int × (List Int)) (X := (List Int)) (lp := fun k v => F19_l31 K v2 v22 (F19_c33 K (F19_l15 K a0 v2 (F19_c17 K) k15) v11 v13 v22 v14) k v.1 v.2 = some r) (sh := fun v => ⟨[(1, (.ptr 1 0)), (4, (.sl 1 (v2.map Zg) false)), (5, (.vs 5)), (8, (.vs 8)), (9, (.vs 9)), (37, (.int .i64 a0.Count)), (38, (.int .i64 v11)), (73, (.sl 1 ((v2.getD v22.toNat []).map Z8) false)), (74, (.int .i64 ((v2.getD v22.toNat []).length : Int))), (75, (.int .i64 v.1))], [(1, (.box (Z4 a0).cells)), (5, (.vec 1 (List.map Z8 v.2))), (8, (.vec 1 (List.map Zo (v13.set v22.toNat true)))), (9, (.vec 1 (List.map Z8 (v14 ++ [v22]))))]⟩) (x := fun v => F19_c33 K (F19_l15 K a0 v2 (F19_c17 K) k15) v11 v13 v22 v14 v = some r) (shx := fun v => ⟨[(1, (.ptr 1 0)), (4, (.sl 1 (v2.map Zg) false)), (5, (.vs 5)), (8, (.vs 8)), (9, (.vs 9)), (37, (.int .i64 a0.Count)), (38, (.int .i64 v11))], [(1, (.box (Z4 a0).cells)), (5, (.vec 1 (List.map Z8 v))), (8, (.vec 1 (List.map Zo (v13.set v22.toNat true)))), (9, (.vec 1 (List.map Z8 (v14 ++ [v22]))))]⟩) (k := K) (v := (0, v12)) h ?_ ?_
       ·intro v h
        revert h
        revert v
        intro v32 h
        try dsimp only at h ⊢
        unfold F19_c33 at h
        refine At.end <| Ze <| Z6 <| Z1 I (st_arith (k := .i64) (a := v11) (b := 1) (c := (IntKind.i64.wrap (v11 + 1))) I I I I) I <| Z1 I (Z9 (v := (.int .i64 (IntKind.i64.wrap (v11 + 1)))) I I) I <| Zb ?_
        exact Zl (st' := ⟨[(1, (.ptr 1 0)), (4, (.sl 1 (v2.map Zg) false)), (5, (.vs 5)), (8, (.vs 8)), (9, (.vs 9)), (37, (.int .i64 a0.Count)), (38, (.int .i64 (IntKind.i64.wrap (v11 + 1))))], [(1, (.box (Z4 a0).cells)), (5, (.vec 1 (List.map Z8 v32))), (8, (.vec 1 (List.map Zo (v13.set v22.toNat true)))), (9, (.vec 1 (List.map Z8 (v14 ++ [v22]))))]⟩) ⟨rfl, rfl, rfl, rfl, rfl, rfl, rfl, trivial⟩ ⟨rfl, rfl, rfl, rfl, trivial⟩ (IH15 _ ((IntKind.i64.wrap (v11 + 1)), v32, (v13.set v22.toNat true), (v14 ++ [v22])) (Nat.lt_succ_self _) h)
       ·intro N k31 v h IH31 J31
        obtain ⟨v29, v30⟩ := v
        try dsimp only at h IH31 J31 ⊢
        cases k31 with
        | zero => cases h
        | succ k31 =>
         rw [F19_l31] at h
         refine Zf <| Z6 <| Z1 I (st_cmp (k := .i64) (a := v29) (b := ((v2.getD v22.toNat []).length : Int)) (c := (decide (v29 < ((v2.getD v22.toNat []).length : Int)))) I I I I) I <| Zb <| Ze <| Zf ?_
         have hif := of_if h
         refine Zv I (fun hc => ?_) (fun hc => ?_)
         ·have h := hif.1 hc
          refine Zy <| Ze <| Zf <| AWp.block <| Zf <| Z6 ?_
          have ⟨hg36, h⟩ := Zi h
          refine Z1 I (st_index (k := .i64) (l := (v2.getD v22.toNat [])) (enc := Z8) (z := 0) (n := v29) (cs := [(.int .i64 ((v2.getD v22.toNat []).getD v29.toNat 0))]) (full := false) I s29 I I hg36 I) I <| Z1 I (st_loadI (cs := [(.int .i64 ((v2.getD v22.toNat []).getD v29.toNat 0))]) (v := (.int .i64 ((v2.getD v22.toNat []).getD v29.toNat 0))) I o3 I I) I <| Z1 I (Zh (v := (.int .i64 ((v2.getD v22.toNat []).getD v29.toNat 0))) I I) I <| Zb <| Ze <| Z6 <| Z1 I (Z9 (v := (.vs 5)) I I) I <| Z1 I (Z9 (v := (.int .i64 ((v2.getD v22.toNat []).getD v29.toNat 0))) I I) I ?_
          have ⟨hg37, h⟩ := Zi h
          refine Z1 I (st_indexV (k := .i64) (v := (.vs 5)) (n := 5) (off := 0) (len := v30.length) (es := (List.map Z8 v30)) (j := ((v2.getD v22.toNat []).getD v29.toNat 0)) (m := ((v2.getD v22.toNat []).getD v29.toNat 0).toNat) I s29 I I (vecR_map _ _ _) I hg37 (Nat.zero_add _)) I ?_
          have ⟨hg38, h⟩ := Zi h
          refine Z1 I (st_loadV (l := v30) (enc := Z8) (z := 0) (v := (.int .i64 (v30.getD ((v2.getD v22.toNat []).getD v29.toNat 0).toNat 0))) I o3 I I hg38 I) I <| Z1 I (st_arith (k := .i64) (a := (v30.getD ((v2.getD v22.toNat []).getD v29.toNat 0).toNat 0)) (b := 1) (c := (IntKind.i64.wrap ((v30.getD ((v2.getD v22.toNat []).getD v29.toNat 0).toNat 0) - 1))) I I I I) I ?_
          have ⟨hg39, h⟩ := Zi h
          refine Z1 I (st_indexV (k := .i64) (v := (.vs 5)) (n := 5) (off := 0) (len := v30.length) (es := (List.map Z8 v30)) (j := ((v2.getD v22.toNat []).getD v29.toNat 0)) (m := ((v2.getD v22.toNat []).getD v29.toNat 0).toNat) I s29 I I (vecR_map _ _ _) I hg39 (Nat.zero_add _)) I ?_
          have ⟨hg40, h⟩ := Zi h
          refine Z1 I (st_storeV (l := v30) (enc := Z8) (z := 0) (a := (IntKind.i64.wrap ((v30.getD ((v2.getD v22.toNat []).getD v29.toNat 0).toNat 0) - 1))) (v := (.int .i64 (IntKind.i64.wrap ((v30.getD ((v2.getD v22.toNat []).getD v29.toNat 0).toNat 0) - 1)))) sz3 I I hg40 I els_i64 I I I I) I <| Zb <| At.end <| Ze <| Z6 <| Z1 I (st_arith (k := .i64) (a := v29) (b := 1) (c := (IntKind.i64.wrap (v29 + 1))) I I I I) I <| Z1 I (Z9 (v := (.int .i64 (IntKind.i64.wrap (v29 + 1)))) I I) I <| Zb ?_
          exact Zl (st' := ⟨[(1, (.ptr 1 0)), (4, (.sl 1 (v2.map Zg) false)), (5, (.vs 5)), (8, (.vs 8)), (9, (.vs 9)), (37, (.int .i64 a0.Count)), (38, (.int .i64 v11)), (73, (.sl 1 ((v2.getD v22.toNat []).map Z8) false)), (74, (.int .i64 ((v2.getD v22.toNat []).length : Int))), (75, (.int .i64 (IntKind.i64.wrap (v29 + 1))))], [(1, (.box (Z4 a0).cells)), (5, (.vec 1 (List.map Z8 (v30.set ((v2.getD v22.toNat []).getD v29.toNat 0).toNat (IntKind.i64.wrap ((v30.getD ((v2.getD v22.toNat []).getD v29.toNat 0).toNat 0) - 1)))))), (8, (.vec 1 (List.map Zo (v13.set v22.toNat true)))), (9, (.vec 1 (List.map Z8 (v14 ++ [v22]))))]⟩) ⟨rfl, rfl, rfl, rfl, rfl, rfl, rfl, rfl, rfl, rfl, trivial⟩ ⟨rfl, rfl, rfl, rfl, trivial⟩ (IH31 _ ((IntKind.i64.wrap (v29 + 1)), (v30.set ((v2.getD v22.toNat []).getD v29.toNat 0).toNat (IntKind.i64.wrap ((v30.getD ((v2.getD v22.toNat []).getD v29.toNat 0).toNat 0) - 1)))) (Nat.lt_succ_self _) h)
         ·have h := hif.2 hc
          refine AWp.exit <| At.thru ?_
          exact Zl (st' := ⟨[(1, (.ptr 1 0)), (4, (.sl 1 (v2.map Zg) false)), (5, (.vs 5)), (8, (.vs 8)), (9, (.vs 9)), (37, (.int .i64 a0.Count)), (38, (.int .i64 v11))], [(1, (.box (Z4 a0).cells)), (5, (.vec 1 (List.map Z8 v30))), (8, (.vec 1 (List.map Zo (v13.set v22.toNat true)))), (9, (.vec 1 (List.map Z8 (v14 ++ [v22]))))]⟩) ⟨rfl, rfl, rfl, rfl, rfl, rfl, rfl, trivial⟩ ⟨rfl, rfl, rfl, rfl, trivial⟩ (J31 v30 h)
     ·intro N k21 v h IH21 J21
      revert h
      revert v
      intro v20 h
      try dsimp only at h IH21 J21 ⊢
      cases k21 with
      | zero => cases h
      | succ k21 =>
       rw [F19_l21] at h
       refine Zf <| Zf ?_
       refine AWp.join (V := Bool) (lp := fun v => F19_j43 K (F19_l21 K a0 v13 v12 (F19_c23 K a0 v13 v14 v2 (F19_l15 K a0 v2 (F19_c17 K) k15) v11 v12) k21) v20 (F19_c23 K a0 v13 v14 v2 (F19_l15 K a0 v2 (F19_c17 K) k15) v11 v12) v = some r) (sh := fun v => ⟨[(1, (.ptr 1 0)), (4, (.sl 1 (v2.map Zg) false)), (5, (.vs 5)), (8, (.vs 8)), (9, (.vs 9)), (10, (.int .i64 v20)), (37, (.int .i64 a0.Count)), (38, (.int .i64 v11)), (56, (.bool v))], [(1, (.box (Z4 a0).cells)), (5, (.vec 1 (List.map Z8 v12))), (8, (.vec 1 (List.map Zo v13))), (9, (.vec 1 (List.map Z8 v14)))]⟩) ?_ ?_
       ·intro v h
        revert h
        revert v
        intro v42 h
        try dsimp only at h ⊢
        unfold F19_j43 at h
        refine Ze ?_
        have hif := of_if h
        refine Zv I (fun hc => ?_) (fun hc => ?_)
        ·have h := hif.1 hc
         refine Zy <| Ze <| AWp.block <| Z6 <| Z1 I (Z9 (v := (.int .i64 v20)) I I) I <| Z1 I (st_arith (k := .i64) (a := v20) (b := 1) (c := (IntKind.i64.wrap (v20 + 1))) I I I I) I <| Z1 I (Zh (v := (.int .i64 (IntKind.i64.wrap (v20 + 1)))) I I) I <| Zb ?_
         refine At.end ?_
         exact Zl (st' := ⟨[(1, (.ptr 1 0)), (4, (.sl 1 (v2.map Zg) false)), (5, (.vs 5)), (8, (.vs 8)), (9, (.vs 9)), (10, (.int .i64 (IntKind.i64.wrap (v20 + 1)))), (37, (.int .i64 a0.Count)), (38, (.int .i64 v11))], [(1, (.box (Z4 a0).cells)), (5, (.vec 1 (List.map Z8 v12))), (8, (.vec 1 (List.map Zo v13))), (9, (.vec 1 (List.map Z8 v14)))]⟩) ⟨rfl, rfl, rfl, rfl, rfl, rfl, rfl, rfl, trivial⟩ ⟨rfl, rfl, rfl, rfl, trivial⟩ (IH21 _ (IntKind.i64.wrap (v20 + 1)) (Nat.lt_succ_self _) h)
        ·have h := hif.2 hc
         refine AWp.exit <| At.thru ?_
         exact Zl (st' := ⟨[(1, (.ptr 1 0)), (4, (.sl 1 (v2.map Zg) false)), (5, (.vs 5)), (8, (.vs 8)), (9, (.vs 9)), (10, (.int .i64 v20)), (37, (.int .i64 a0.Count)), (38, (.int .i64 v11))], [(1, (.box (Z4 a0).cells)), (5, (.vec 1 (List.map Z8 v12))), (8, (.vec 1 (List.map Zo v13))), (9, (.vec 1 (List.map Z8 v14)))]⟩) ⟨rfl, rfl, rfl, rfl, rfl, rfl, rfl, rfl, trivial⟩ ⟨rfl, rfl, rfl, rfl, trivial⟩ (J21 v20 h)
       ·intro J43
        refine Z6 <| Z1 I (Z9 (v := (.int .i64 v20)) I I) I <| Z1 I (Z10 (m := 1) (o := 0) I f35_0 I I) I <| Z1 I (Zu (cs := (Z4 a0).cells) (v := (.int .i64 a0.Count)) I o3 I I I) I <| Z1 I (st_cmp (k := .i64) (a := v20) (b := a0.Count) (c := (decide (v20 < a0.Count))) I I I I) I <| Z1 I (Z9 (v := (.bool (decide (v20 < a0.Count)))) I I) I ?_
        have hif := of_if h
        refine AOps.split (fun hc => ?_) (fun hc => ?_)
        ·have h := hif.1 hc
         refine Zj I I I I (Z9 (v := (.vs 8)) I I) I <| Zj I I I I (Z9 (v := (.int .i64 v20)) I I) I ?_
         have ⟨hg44, h⟩ := Zi h
         refine Zj I I I I (st_indexV (k := .i64) (v := (.vs 8)) (n := 8) (off := 0) (len := v13.length) (es := (List.map Zo v13)) (j := v20) (m := v20.toNat) I s49 I I (vecR_map _ _ _) I hg44 (Nat.zero_add _)) I ?_
         have ⟨hg45, h⟩ := Zi h
         refine Zj I I I I (st_loadV (l := v13) (enc := Zo) (z := false) (v := (.bool (v13.getD v20.toNat false))) I o4 I I hg45 I) I <| Zj I I I I (Z9 (v := (.bool (v13.getD v20.toNat false))) I I) I ?_
         have hif := of_if h
         refine AOps.split (fun hc => ?_) (fun hc => ?_)
         ·have h := hif.1 hc
          refine Z5 I I I I I I I <| Z5 I I I I I I I <| Z5 I I I I I I I <| Z5 I I I I I I I <| Z5 I I I I I I I <| Zj I I I I (Zz (v := (.bool true)) I I I) I <| Z1 I (Zz (v := (.bool true)) I I I) I <| Zb ?_
          exact Zl (st' := ⟨[(1, (.ptr 1 0)), (4, (.sl 1 (v2.map Zg) false)), (5, (.vs 5)), (8, (.vs 8)), (9, (.vs 9)), (10, (.int .i64 v20)), (37, (.int .i64 a0.Count)), (38, (.int .i64 v11)), (56, (.bool true))], [(1, (.box (Z4 a0).cells)), (5, (.vec 1 (List.map Z8 v12))), (8, (.vec 1 (List.map Zo v13))), (9, (.vec 1 (List.map Z8 v14)))]⟩) ⟨rfl, rfl, rfl, rfl, rfl, rfl, rfl, rfl, rfl, trivial⟩ ⟨rfl, rfl, rfl, rfl, trivial⟩ (J43 true h)
         ·have h := hif.2 hc
          refine Zj I I I I (Z9 (v := (.vs 5)) I I) I <| Zj I I I I (Z9 (v := (.int .i64 v20)) I I) I ?_
          have ⟨hg46, h⟩ := Zi h
          refine Zj I I I I (st_indexV (k := .i64) (v := (.vs 5)) (n := 5) (off := 0) (len := v12.length) (es := (List.map Z8 v12)) (j := v20) (m := v20.toNat) I s29 I I (vecR_map _ _ _) I hg46 (Nat.zero_add _)) I ?_
          have ⟨hg47, h⟩ := Zi h
          refine Zj I I I I (st_loadV (l := v12) (enc := Z8) (z := 0) (v := (.int .i64 (v12.getD v20.toNat 0))) I o3 I I hg47 I) I <| Zj I I I I (st_cmp (k := .i64) (a := (v12.getD v20.toNat 0)) (b := 0) (c := (decide ((v12.getD v20.toNat 0) > 0))) I I I I) I <| Zj I I I I (Zx (v := (.bool (decide ((v12.getD v20.toNat 0) > 0)))) I I I) I <| Z1 I (Zz (v := (.bool (decide ((v12.getD v20.toNat 0) > 0)))) I I I) I <| Zb ?_
          exact Zl (st' := ⟨[(1, (.ptr 1 0)), (4, (.sl 1 (v2.map Zg) false)), (5, (.vs 5)), (8, (.vs 8)), (9, (.vs 9)), (10, (.int .i64 v20)), (37, (.int .i64 a0.Count)), (38, (.int .i64 v11)), (56, (.bool (decide ((v12.getD v20.toNat 0) > 0))))], [(1, (.box (Z4 a0).cells)), (5, (.vec 1 (List.map Z8 v12))), (8, (.vec 1 (List.map Zo v13))), (9, (.vec 1 (List.map Z8 v14)))]⟩) ⟨rfl, rfl, rfl, rfl, rfl, rfl, rfl, rfl, rfl, trivial⟩ ⟨rfl, rfl, rfl, rfl, trivial⟩ (J43 (decide ((v12.getD v20.toNat 0) > 0)) h)
        ·have h := hif.2 hc
         refine Z5 I I I I I I I <| Z5 I I I I I I I <| Z5 I I I I I I I <| Z5 I I I I I I I <| Z5 I I I I I I I <| Z5 (u := .tup []) I I I I I I I <| Z5 (u := .tup []) I I I I I I I <| Z5 (u := .tup []) I I I I I I I ?_
         refine Z5 (u := .tup []) I I I I I I I <| Z5 (u := .tup []) I I I I I I I <| Z5 I I I I I I I <| Z1 I (Zx (v := (.bool false)) I I I) I <| Zb ?_
         exact Zl (st' := ⟨[(1, (.ptr 1 0)), (4, (.sl 1 (v2.map Zg) false)), (5, (.vs 5)), (8, (.vs 8)), (9, (.vs 9)), (10, (.int .i64 v20)), (37, (.int .i64 a0.Count)), (38, (.int .i64 v11)), (56, (.bool false))], [(1, (.box (Z4 a0).cells)), (5, (.vec 1 (List.map Z8 v12))), (8, (.vec 1 (List.map Zo v13))), (9, (.vec 1 (List.map Z8 v14)))]⟩) ⟨rfl, rfl, rfl, rfl, rfl, rfl, rfl, rfl, rfl, trivial⟩ ⟨rfl, rfl, rfl, rfl, trivial⟩ (J43 false h)
    ·have h := hif.2 hc
     refine AWp.exit <| At.thru ?_
     exact Zl (st' := ⟨[(9, (.vs 9))], [(9, (.vec 1 (List.map Z8 v14)))]⟩) ⟨rfl, trivial⟩ ⟨rfl, trivial⟩ (J15 v14 h)
 ·intro N k6 v h IH6 J6
  obtain ⟨v4, v5⟩ := v
  try dsimp only at h IH6 J6 ⊢
  cases k6 with
  | zero => cases h
  | succ k6 =>
   rw [F19_l6] at h
   refine Zf <| Z6 <| Z1 I (st_cmp (k := .i64) (a := v4) (b := (a0.Edges.length : Int)) (c := (decide (v4 < (a0.Edges.length : Int)))) I I I I) I <| Zb <| Ze <| Zf ?_
   have hif := of_if h
   refine Zv I (fun hc => ?_) (fun hc => ?_)
   ·have h := hif.1 hc
    refine Zy <| Ze <| Zf <| AWp.block <| Zf <| Z6 ?_
    have ⟨hg49, h⟩ := Zi h
    refine Z1 I (st_index (k := .i64) (l := a0.Edges) (enc := Z3) (z := Z2) (n := v4) (cs := (Z3 (a0.Edges.getD v4.toNat Z2)).cells) (full := false) I s33 I I hg49 I) I <| Z1 I (st_loadIA (cs := (Z3 (a0.Edges.getD v4.toNat Z2)).cells) (vs := (Z3 (a0.Edges.getD v4.toNat Z2)).cells) I a64 I I I) I <| Z1 I (st_alloc (cs := [(.int .i64 0), (.int .i64 0)]) I z64 I I I) I <| Z1 I (st_storeP (cs := [(.int .i64 0), (.int .i64 0)]) (vs := (Z3 (a0.Edges.getD v4.toNat Z2)).cells) (ds := (Z3 (a0.Edges.getD v4.toNat Z2)).cells) (v := (Z3 (a0.Edges.getD v4.toNat Z2))) sz64 I I I I I I I I) I <| Zb <| Ze <| Z6 <| Z1 I (Z9 (v := (.vs 5)) I I) I ?_
    refine Z1 I (Z10 (m := 7) (o := 0) I f64_1 I I) I <| Z1 I (Zu (cs := (Z3 (a0.Edges.getD v4.toNat Z2)).cells) (v := (.int .i64 (a0.Edges.getD v4.toNat Z2).To)) I o3 I I I) I ?_
    have ⟨hg50, h⟩ := Zi h
    refine Z1 I (st_indexV (k := .i64) (v := (.vs 5)) (n := 5) (off := 0) (len := v5.length) (es := (List.map Z8 v5)) (j := (a0.Edges.getD v4.toNat Z2).To) (m := (a0.Edges.getD v4.toNat Z2).To.toNat) I s29 I I (vecR_map _ _ _) I hg50 (Nat.zero_add _)) I ?_
    have ⟨hg51, h⟩ := Zi h
    refine Z1 I (st_loadV (l := v5) (enc := Z8) (z := 0) (v := (.int .i64 (v5.getD (a0.Edges.getD v4.toNat Z2).To.toNat 0))) I o3 I I hg51 I) I <| Z1 I (st_arith (k := .i64) (a := (v5.getD (a0.Edges.getD v4.toNat Z2).To.toNat 0)) (b := 1) (c := (IntKind.i64.wrap ((v5.getD (a0.Edges.getD v4.toNat Z2).To.toNat 0) + 1))) I I I I) I ?_
    have ⟨hg52, h⟩ := Zi h
    refine Z1 I (st_indexV (k := .i64) (v := (.vs 5)) (n := 5) (off := 0) (len := v5.length) (es := (List.map Z8 v5)) (j := (a0.Edges.getD v4.toNat Z2).To) (m := (a0.Edges.getD v4.toNat Z2).To.toNat) I s29 I I (vecR_map _ _ _) I hg52 (Nat.zero_add _)) I ?_
    have ⟨hg53, h⟩ := Zi h
    refine Z1 I (st_storeV (l := v5) (enc := Z8) (z := 0) (a := (IntKind.i64.wrap ((v5.getD (a0.Edges.getD v4.toNat Z2).To.toNat 0) + 1))) (v := (.int .i64 (IntKind.i64.wrap ((v5.getD (a0.Edges.getD v4.toNat Z2).To.toNat 0) + 1)))) sz3 I I hg53 I els_i64 I I I I) I <| Zb <| At.end <| Ze <| Z6 <| Z1 I (st_arith (k := .i64) (a := v4) (b := 1) (c := (IntKind.i64.wrap (v4 + 1))) I I I I) I <| Z1 I (Z9 (v := (.int .i64 (IntKind.i64.wrap (v4 + 1)))) I I) I <| Zb ?_
    exact Zl (st' := ⟨[(1, (.ptr 1 0)), (4, (.sl 1 (v2.map Zg) false)), (5, (.vs 5)), (19, (.sl 2 (a0.Edges.map Z3) false)), (20, (.int .i64 (a0.Edges.length : Int))), (21, (.int .i64 (IntKind.i64.wrap (v4 + 1))))], [(1, (.box (Z4 a0).cells)), (5, (.vec 1 (List.map Z8 (v5.set (a0.Edges.getD v4.toNat Z2).To.toNat (IntKind.i64.wrap ((v5.getD (a0.Edges.getD v4.toNat Z2).To.toNat 0) + 1))))))]⟩) ⟨rfl, rfl, rfl, rfl, rfl, rfl, trivial⟩ ⟨rfl, rfl, trivial⟩ (IH6 _ ((IntKind.i64.wrap (v4 + 1)), (v5.set (a0.Edges.getD v4.toNat Z2).To.toNat (IntKind.i64.wrap ((v5.getD (a0.Edges.getD v4.toNat Z2).To.toNat 0) + 1)))) (Nat.lt_succ_self _) h)
   ·have h := hif.2 hc
    refine AWp.exit <| At.thru ?_
    exact Zl (st' := ⟨[(1, (.ptr 1 0)), (4, (.sl 1 (v2.map Zg) false)), (5, (.vs 5))], [(1, (.box (Z4 a0).cells)), (5, (.vec 1 (List.map Z8 v5)))]⟩) ⟨rfl, rfl, rfl, trivial⟩ ⟨rfl, rfl, trivial⟩ (J6 v5 h)
def F45 (K : Nat) (a0 : Za) (a1 : Int) : Option (Bool) :=
 if (decide (a1 ≥ 0)) = true then
  some (decide (a1 < a0.Count))
 else
  some false
theorem F45_ok (K : Nat) (a0 : Za) (a1 : Int) (r : Bool) (h : F45 K a0 a1 = some r) : ACall P 45 ⟨[(Z4 a0), (.int .i64 a1)], [], (.bool r), [], []⟩ := by
 refine acall_of Try.func45 Try.results45 rfl Try.ntmps45 rfl rfl rfl ?_
 intro E Q hP hN hro hret
 obtain ⟨P', nt', w0, F0, p0, S0, β0, ro0⟩ := E
 simp only at hP hN
 subst hP hN
 dsimp only [argT]
 unfold F45 at h
 refine Zf <| Z6 <| Z1 I (st_box (v := (Z4 a0)) (cs := (Z4 a0).cells) I I I I I) I <| Z1 I (Zh (v := (.bool false)) I I) I <| Zb <| Ze <| Zf <| Z6 ?_
 refine Z1 I (Z9 (v := (.int .i64 a1)) I I) I <| Z1 I (st_cmp (k := .i64) (a := a1) (b := 0) (c := (decide (a1 ≥ 0))) I I I I) I <| Z1 I (Z9 (v := (.bool (decide (a1 ≥ 0)))) I I) I ?_
 have hif := of_if h
 refine AOps.split (fun hc => ?_) (fun hc => ?_)
 ·have h := hif.1 hc
  refine Zj I I I I (Z9 (v := (.int .i64 a1)) I I) I <| Zj I I I I (Z10 (m := 2) (o := 0) I f35_0 I I) I <| Zj I I I I (Zu (cs := (Z4 a0).cells) (v := (.int .i64 a0.Count)) I o3 I I I) I <| Zj I I I I (st_cmp (k := .i64) (a := a1) (b := a0.Count) (c := (decide (a1 < a0.Count))) I I I I) I <| Z1 I (Zz (v := (.bool (decide (a1 < a0.Count)))) I I I) I <| Z1 I (Zh (v := (.bool (decide (a1 < a0.Count)))) I I) I <| Zb <| Ze ?_
  refine AWp.ret ?_
  have h := Option.some.inj h
  subst h
  refine (hret _ ?_).1
  exact ⟨[(.bool (decide (a1 < a0.Count)))], ⟨rfl, trivial⟩, rfl, trivial⟩
 ·have h := hif.2 hc
  refine Z5 I I I I I I I <| Z5 I I I I I I I <| Z5 I I I I I I I <| Z5 I I I I I I I <| Z1 I (Zx (v := (.bool false)) I I I) I <| Z1 I (Zh (v := (.bool false)) I I) I <| Zb <| Ze ?_
  refine AWp.ret ?_
  have h := Option.some.inj h
  subst h
  refine (hret _ ?_).1
  exact ⟨[(.bool false)], ⟨rfl, trivial⟩, rfl, trivial⟩
def F48_c4 (K : Nat) (v3 : (List Int)) : Option ((List Int)) :=
 some v3
def F48_c13 (K : Nat) (b6 : (List Int) → Option ((List Int))) (v12 : (List Int)) : Option ((List Int)) :=
 b6 v12
def F48_l11 (K : Nat) (a0 : (List (List Int))) (v1 : (List Int)) (a1 : (List Int)) (a3 : Int) (c14 : (List Int) → Option ((List Int))) : Nat → Int → Option ((List Int))
 | 0, _ => none
 | k11 + 1, v10 =>
  if (decide (v10 < ((a0.getD (v1.getD (IntKind.i64.wrap ((v1.length : Int) - 1)).toNat 0).toNat []).length : Int))) = true then
   if (0 : Int) ≤ v10 ∧ v10 < (a0.getD (v1.getD (IntKind.i64.wrap ((v1.length : Int) - 1)).toNat 0).toNat []).length then
    if (0 : Int) ≤ ((a0.getD (v1.getD (IntKind.i64.wrap ((v1.length : Int) - 1)).toNat 0).toNat []).getD v10.toNat 0) ∧ ((a0.getD (v1.getD (IntKind.i64.wrap ((v1.length : Int) - 1)).toNat 0).toNat []).getD v10.toNat 0) < a1.length then
     if ((a1.getD ((a0.getD (v1.getD (IntKind.i64.wrap ((v1.length : Int) - 1)).toNat 0).toNat []).getD v10.toNat 0).toNat 0) == (IntKind.i64.wrap ((IntKind.i64.wrap (a3 - (v1.length : Int))) - 1))) = true then
      if v1.length + ([((a0.getD (v1.getD (IntKind.i64.wrap ((v1.length : Int) - 1)).toNat 0).toNat []).getD v10.toNat 0)]).length ≤ 1073741824 then
       c14 (v1 ++ ([((a0.getD (v1.getD (IntKind.i64.wrap ((v1.length : Int) - 1)).toNat 0).toNat []).getD v10.toNat 0)]))
      else none
     else
      (F48_l11 K a0 v1 a1 a3 c14 k11) (IntKind.i64.wrap (v10 + 1))
    else none
   else none
  else
   c14 v1
def F48_l2 (K : Nat) (a3 : Int) (a0 : (List (List Int))) (a1 : (List Int)) (c5 : (List Int) → Option ((List Int))) : Nat → (List Int) → Option ((List Int))
 | 0, _ => none
 | k2 + 1, v1 =>
  if (decide ((v1.length : Int) < a3)) = true then
   if (0 : Int) ≤ (IntKind.i64.wrap ((v1.length : Int) - 1)) ∧ (IntKind.i64.wrap ((v1.length : Int) - 1)) < (v1.length : Nat) then
    if (IntKind.i64.wrap ((v1.length : Int) - 1)).toNat < v1.length then
     if (0 : Int) ≤ (v1.getD (IntKind.i64.wrap ((v1.length : Int) - 1)).toNat 0) ∧ (v1.getD (IntKind.i64.wrap ((v1.length : Int) - 1)).toNat 0) < a0.length then
      F48_l11 K a0 v1 a1 a3 (F48_c13 K (F48_l2 K a3 a0 a1 c5 k2)) K 0
     else none
    else none
   else none
  else
   c5 v1
def F48 (K : Nat) (a0 : (List (List Int))) (a1 : (List Int)) (a2 : Int) (a3 : Int) : Option ((List Int)) :=
 F48_l2 K a3 a0 a1 (F48_c4 K) K [a2]
theorem F48_ok (K : Nat) (a0 : (List (List Int))) (a1 : (List Int)) (a2 : Int) (a3 : Int) (r : (List Int)) (h : F48 K a0 a1 a2 a3 = some r) : ACall P 48 ⟨[(.sl 1 (a0.map Zg) false), (.sl 1 (a1.map Z8) false), (.int .i64 a2), (.int .i64 a3)], [], (.sl 1 (r.map Z8) false), [], []⟩ := by
 refine acall_of Try.func48 Try.results48 rfl Try.ntmps48 rfl rfl rfl ?_
 intro E Q hP hN hro hret
 obtain ⟨P', nt', w0, F0, p0, S0, β0, ro0⟩ := E
 simp only at hP hN
 subst hP hN
 dsimp only [argT]
 unfold F48 at h
 refine Zf <| Z6 <| Z1 I (Zh (v := (.sl 1 [] false)) I I) I <| Zb <| Ze <| Zf <| Z6 <| Z1 I (Z9 (v := (.int .i64 a2)) I I) I ?_
 refine Z1 I (stx_buildSlice (vs := [(.int .i64 a2)]) (enc := Z8) (l := [a2]) I el29 I I ⟨rfl, trivial⟩ I els_i64 I I I I) I <| Z1 I (Zh (v := (.vs 13)) I I) I <| Zb <| Ze <| Zf <| AWp.ghost (st' := ⟨[(0, (.sl 1 (a0.map Zg) false)), (1, (.sl 1 (a1.map Z8) false)), (3, (.int .i64 a3)), (9, (.vs 9))], [(9, (.vec 1 (List.map Z8 [a2])))]⟩) (fun a w h => (Zp ⟨[(0, (.sl 1 (a0.map Zg) false)), (1, (.sl 1 (a1.map Z8) false)), (3, (.int .i64 a3)), (9, (.vs 9))], [(9, (.vec 1 (List.map Z8 [a2])))]⟩ (ghost_sw (a := 13) (b := 9) I I a w (Zp ⟨[(0, (.sl 1 (a0.map Zg) false)), (1, (.sl 1 (a1.map Z8) false)), (3, (.int .i64 a3)), (9, (.vs 13))], [(13, (.vec 1 (List.map Z8 [a2])))]⟩ h ⟨rfl, rfl, rfl, rfl, trivial⟩ ⟨rfl, trivial⟩)) ⟨rfl, rfl, rfl, rfl, trivial⟩ ⟨rfl, trivial⟩)) <| AWp.weaken (st' := ⟨[(0, (.sl 1 (a0.map Zg) false)), (1, (.sl 1 (a1.map Z8) false)), (3, (.int .i64 a3)), (9, (.vs 9))], [(9, (.vec 1 (List.map Z8 [a2])))]⟩) ⟨rfl, rfl, rfl, rfl, trivial⟩ ⟨rfl, trivial⟩ ?_
 refine Zw (V := (List Int)) (X := (List Int)) (lp := fun k v => F48_l2 K a3 a0 a1 (F48_c4 K) k v = some r) (sh := fun v => ⟨[(0, (.sl 1 (a0.map Zg) false)), (1, (.sl 1 (a1.map Z8) false)), (3, (.int .i64 a3)), (9, (.vs 9))], [(9, (.vec 1 (List.map Z8 v)))]⟩) (x := fun v => F48_c4 K v = some r) (shx := fun v => ⟨[(9, (.vs 9))], [(9, (.vec 1 (List.map Z8 v)))]⟩) (k := K) (v := [a2]) h ?_ ?_
 ·intro v h
  revert h
  revert v
  intro v3 h
  try dsimp only at h ⊢
  unfold F48_c4 at h
  refine Ze <| Zf <| Z6 <| Z1 I (Z9 (v := (.vs 9)) I I) I <| Z1 I (Zh (v := (.vs 9)) I I) I <| Zb <| Ze <| AWp.ret ?_
  refine At.ghost (st' := ⟨[(8, (.sl 1 (v3.map Z8) false))], []⟩) (fun a w h => (Zp ⟨[(8, (.sl 1 (v3.map Z8) false))], []⟩ (ghost_freeze (m := 9) (sz := 1) (es := (List.map Z8 v3)) a w (Zp ⟨[(8, (.vs 9))], [(9, (.vec 1 (List.map Z8 v3)))]⟩ h ⟨rfl, trivial⟩ ⟨rfl, trivial⟩)) ⟨rfl, trivial⟩ trivial)) ?_
  have h := Option.some.inj h
  subst h
  refine (hret _ ?_).1
  exact ⟨[(.sl 1 (v3.map Z8) false)], ⟨rfl, trivial⟩, rfl, trivial⟩
 ·intro N k2 v h IH2 J2
  revert h
  revert v
  intro v1 h
  try dsimp only at h IH2 J2 ⊢
  cases k2 with
  | zero => cases h
  | succ k2 =>
   rw [F48_l2] at h
   refine Zf <| Zf <| Z6 <| Z1 I (Z9 (v := (.vs 9)) I I) I <| Z1 I (stx_lenV (l := v1) (enc := Z8) I u29 I I) I <| Z1 I (Z9 (v := (.int .i64 a3)) I I) I <| Z1 I (st_cmp (k := .i64) (a := (v1.length : Int)) (b := a3) (c := (decide ((v1.length : Int) < a3))) I I I I) I <| Zb ?_
   refine Ze ?_
   have hif := of_if h
   refine Zv I (fun hc => ?_) (fun hc => ?_)
   ·have h := hif.1 hc
    refine Zy <| Ze <| AWp.block <| Zf <| Z6 <| Z1 I (Z9 (v := (.sl 1 (a0.map Zg) false)) I I) I <| Z1 I (Z9 (v := (.vs 9)) I I) I <| Z1 I (Z9 (v := (.vs 9)) I I) I ?_
    refine Z1 I (stx_lenV (l := v1) (enc := Z8) I u29 I I) I <| Z1 I (st_arith (k := .i64) (a := (v1.length : Int)) (b := 1) (c := (IntKind.i64.wrap ((v1.length : Int) - 1))) I I I I) I ?_
    have ⟨hg7, h⟩ := Zi h
    refine Z1 I (st_indexV (k := .i64) (v := (.vs 9)) (n := 9) (off := 0) (len := v1.length) (es := (List.map Z8 v1)) (j := (IntKind.i64.wrap ((v1.length : Int) - 1))) (m := (IntKind.i64.wrap ((v1.length : Int) - 1)).toNat) I s29 I I (vecR_map _ _ _) I hg7 (Nat.zero_add _)) I ?_
    have ⟨hg8, h⟩ := Zi h
    refine Z1 I (st_loadV (l := v1) (enc := Z8) (z := 0) (v := (.int .i64 (v1.getD (IntKind.i64.wrap ((v1.length : Int) - 1)).toNat 0))) I o3 I I hg8 I) I ?_
    have ⟨hg9, h⟩ := Zi h
    refine Z1 I (st_index (k := .i64) (l := a0) (enc := Zg) (z := []) (n := (v1.getD (IntKind.i64.wrap ((v1.length : Int) - 1)).toNat 0)) (cs := [(.sl 1 ((a0.getD (v1.getD (IntKind.i64.wrap ((v1.length : Int) - 1)).toNat 0).toNat []).map Z8) false)]) (full := false) I s46 I I hg9 I) I <| Z1 I (st_loadI (cs := [(.sl 1 ((a0.getD (v1.getD (IntKind.i64.wrap ((v1.length : Int) - 1)).toNat 0).toNat []).map Z8) false)]) (v := (.sl 1 ((a0.getD (v1.getD (IntKind.i64.wrap ((v1.length : Int) - 1)).toNat 0).toNat []).map Z8) false)) I o29 I I) I <| Z1 I (stx_len (l := (a0.getD (v1.getD (IntKind.i64.wrap ((v1.length : Int) - 1)).toNat 0).toNat [])) (enc := Z8) I s29 I) I <| Z1 I (Z9 (v := (.int .i64 0)) I I) I <| Zb <| Ze <| AWp.weaken (st' := ⟨[(0, (.sl 1 (a0.map Zg) false)), (1, (.sl 1 (a1.map Z8) false)), (3, (.int .i64 a3)), (9, (.vs 9)), (26, (.sl 1 ((a0.getD (v1.getD (IntKind.i64.wrap ((v1.length : Int) - 1)).toNat 0).toNat []).map Z8) false)), (27, (.int .i64 ((a0.getD (v1.getD (IntKind.i64.wrap ((v1.length : Int) - 1)).toNat 0).toNat []).length : Int))), (28, (.int .i64 0))], [(9, (.vec 1 (List.map Z8 v1)))]⟩) ⟨rfl, rfl, rfl, rfl, rfl, rfl, rfl, trivial⟩ ⟨rfl, trivial⟩ ?_
    refine Zw (V := Int) (X := (List Int)) (lp := fun k v => F48_l11 K a0 v1 a1 a3 (F48_c13 K (F48_l2 K a3 a0 a1 (F48_c4 K) k2)) k v = some r) (sh := fun v => ⟨[(0, (.sl 1 (a0.map Zg) false)), (1, (.sl 1 (a1.map Z8) false)), (3, (.int .i64 a3)), (9, (.vs 9)), (26, (.sl 1 ((a0.getD (v1.getD (IntKind.i64.wrap ((v1.length : Int) - 1)).toNat 0).toNat []).map Z8) false)), (27, (.int .i64 ((a0.getD (v1.getD (IntKind.i64.wrap ((v1.length : Int) - 1)).toNat 0).toNat []).length : Int))), (28, (.int .i64 v))], [(9, (.vec 1 (List.map Z8 v1)))]⟩) (x := fun v => F48_c13 K (F48_l2 K a3 a0 a1 (F48_c4 K) k2) v = some r) (shx := fun v => ⟨[(0, (.sl 1 (a0.map Zg) false)), (1, (.sl 1 (a1.map Z8) false)), (3, (.int .i64 a3)), (9, (.vs 9))], [(9, (.vec 1 (List.map Z8 v)))]⟩) (k := K) (v := 0) h ?_ ?_
    ·intro v h
     revert h
     revert v
     intro v12 h
     try dsimp only at h ⊢
     unfold F48_c13 at h
     refine At.end ?_
     exact Zl (st' := ⟨[(0, (.sl 1 (a0.map Zg) false)), (1, (.sl 1 (a1.map Z8) false)), (3, (.int .i64 a3)), (9, (.vs 9))], [(9, (.vec 1 (List.map Z8 v12)))]⟩) ⟨rfl, rfl, rfl, rfl, trivial⟩ ⟨rfl, trivial⟩ (IH2 _ v12 (Nat.lt_succ_self _) h)
    ·intro N k11 v h IH11 J11
     revert h
     revert v
     intro v10 h
     try dsimp only at h IH11 J11 ⊢
     cases k11 with
     | zero => cases h
     | succ k11 =>
      rw [F48_l11] at h
      refine Zf <| Z6 <| Z1 I (st_cmp (k := .i64) (a := v10) (b := ((a0.getD (v1.getD (IntKind.i64.wrap ((v1.length : Int) - 1)).toNat 0).toNat []).length : Int)) (c := (decide (v10 < ((a0.getD (v1.getD (IntKind.i64.wrap ((v1.length : Int) - 1)).toNat 0).toNat []).length : Int)))) I I I I) I <| Zb <| Ze <| Zf ?_
      have hif := of_if h
      refine Zv I (fun hc => ?_) (fun hc => ?_)
      ·have h := hif.1 hc
       refine Zy <| Ze <| Zf <| AWp.block <| Zf <| Z6 ?_
       have ⟨hg16, h⟩ := Zi h
       refine Z1 I (st_index (k := .i64) (l := (a0.getD (v1.getD (IntKind.i64.wrap ((v1.length : Int) - 1)).toNat 0).toNat [])) (enc := Z8) (z := 0) (n := v10) (cs := [(.int .i64 ((a0.getD (v1.getD (IntKind.i64.wrap ((v1.length : Int) - 1)).toNat 0).toNat []).getD v10.toNat 0))]) (full := false) I s29 I I hg16 I) I <| Z1 I (st_loadI (cs := [(.int .i64 ((a0.getD (v1.getD (IntKind.i64.wrap ((v1.length : Int) - 1)).toNat 0).toNat []).getD v10.toNat 0))]) (v := (.int .i64 ((a0.getD (v1.getD (IntKind.i64.wrap ((v1.length : Int) - 1)).toNat 0).toNat []).getD v10.toNat 0))) I o3 I I) I <| Z1 I (Zh (v := (.int .i64 ((a0.getD (v1.getD (IntKind.i64.wrap ((v1.length : Int) - 1)).toNat 0).toNat []).getD v10.toNat 0))) I I) I <| Zb <| Ze <| Zf <| Z6 <| Z1 I (Z9 (v := (.sl 1 (a1.map Z8) false)) I I) I ?_
       refine Z1 I (Z9 (v := (.int .i64 ((a0.getD (v1.getD (IntKind.i64.wrap ((v1.length : Int) - 1)).toNat 0).toNat []).getD v10.toNat 0))) I I) I ?_
       have ⟨hg17, h⟩ := Zi h
       refine Z1 I (st_index (k := .i64) (l := a1) (enc := Z8) (z := 0) (n := ((a0.getD (v1.getD (IntKind.i64.wrap ((v1.length : Int) - 1)).toNat 0).toNat []).getD v10.toNat 0)) (cs := [(.int .i64 (a1.getD ((a0.getD (v1.getD (IntKind.i64.wrap ((v1.length : Int) - 1)).toNat 0).toNat []).getD v10.toNat 0).toNat 0))]) (full := false) I s29 I I hg17 I) I <| Z1 I (st_loadI (cs := [(.int .i64 (a1.getD ((a0.getD (v1.getD (IntKind.i64.wrap ((v1.length : Int) - 1)).toNat 0).toNat []).getD v10.toNat 0).toNat 0))]) (v := (.int .i64 (a1.getD ((a0.getD (v1.getD (IntKind.i64.wrap ((v1.length : Int) - 1)).toNat 0).toNat []).getD v10.toNat 0).toNat 0))) I o3 I I) I <| Z1 I (Z9 (v := (.int .i64 a3)) I I) I <| Z1 I (Z9 (v := (.vs 9)) I I) I <| Z1 I (stx_lenV (l := v1) (enc := Z8) I u29 I I) I <| Z1 I (st_arith (k := .i64) (a := a3) (b := (v1.length : Int)) (c := (IntKind.i64.wrap (a3 - (v1.length : Int)))) I I I I) I <| Z1 I (st_arith (k := .i64) (a := (IntKind.i64.wrap (a3 - (v1.length : Int)))) (b := 1) (c := (IntKind.i64.wrap ((IntKind.i64.wrap (a3 - (v1.length : Int))) - 1))) I I I I) I <| Z1 I (st_cmp (k := .i64) (a := (a1.getD ((a0.getD (v1.getD (IntKind.i64.wrap ((v1.length : Int) - 1)).toNat 0).toNat []).getD v10.toNat 0).toNat 0)) (b := (IntKind.i64.wrap ((IntKind.i64.wrap (a3 - (v1.length : Int))) - 1))) (c := ((a1.getD ((a0.getD (v1.getD (IntKind.i64.wrap ((v1.length : Int) - 1)).toNat 0).toNat []).getD v10.toNat 0).toNat 0) == (IntKind.i64.wrap ((IntKind.i64.wrap (a3 - (v1.length : Int))) - 1)))) I I I I) I ?_
       refine Zb <| Ze ?_
       have hif := of_if h
       refine Zv I (fun hc => ?_) (fun hc => ?_)
       ·have h := hif.1 hc
        refine Zf <| Z6 <| Z1 I (Z9 (v := (.vs 9)) I I) I <| Z1 I (Z9 (v := (.int .i64 ((a0.getD (v1.getD (IntKind.i64.wrap ((v1.length : Int) - 1)).toNat 0).toNat []).getD v10.toNat 0))) I I) I <| Z1 I (stx_buildSlice (vs := [(.int .i64 ((a0.getD (v1.getD (IntKind.i64.wrap ((v1.length : Int) - 1)).toNat 0).toNat []).getD v10.toNat 0))]) (enc := Z8) (l := [((a0.getD (v1.getD (IntKind.i64.wrap ((v1.length : Int) - 1)).toNat 0).toNat []).getD v10.toNat 0)]) I el29 I I ⟨rfl, trivial⟩ I els_i64 I I I I) I ?_
        have ⟨hg18, h⟩ := Zi h
        refine Z1 I (st_append (m := 9) (enc := Z8) (l := v1) (l' := ([((a0.getD (v1.getD (IntKind.i64.wrap ((v1.length : Int) - 1)).toNat 0).toNat []).getD v10.toNat 0)])) (src := (.vs 44)) (rd := [(44, (.vec 1 (List.map Z8 ([((a0.getD (v1.getD (IntKind.i64.wrap ((v1.length : Int) - 1)).toNat 0).toNat []).getD v10.toNat 0)]))))]) I I el29 I u29 I I I I (oneRead I) els_i64 hg18) I <| Z1 I (Zh (v := (.vs 9)) I I) I <| Zb <| Ze <| AWp.exit <| At.over I <| At.thru ?_
        exact Zl (st' := ⟨[(0, (.sl 1 (a0.map Zg) false)), (1, (.sl 1 (a1.map Z8) false)), (3, (.int .i64 a3)), (9, (.vs 9))], [(9, (.vec 1 (List.map Z8 (v1 ++ ([((a0.getD (v1.getD (IntKind.i64.wrap ((v1.length : Int) - 1)).toNat 0).toNat []).getD v10.toNat 0)])))))]⟩) ⟨rfl, rfl, rfl, rfl, trivial⟩ ⟨rfl, trivial⟩ (J11 (v1 ++ ([((a0.getD (v1.getD (IntKind.i64.wrap ((v1.length : Int) - 1)).toNat 0).toNat []).getD v10.toNat 0)])) h)
       ·have h := hif.2 hc
        refine Zy <| At.end <| Ze <| Z6 <| Z1 I (st_arith (k := .i64) (a := v10) (b := 1) (c := (IntKind.i64.wrap (v10 + 1))) I I I I) I <| Z1 I (Z9 (v := (.int .i64 (IntKind.i64.wrap (v10 + 1)))) I I) I <| Zb ?_
        exact Zl (st' := ⟨[(0, (.sl 1 (a0.map Zg) false)), (1, (.sl 1 (a1.map Z8) false)), (3, (.int .i64 a3)), (9, (.vs 9)), (26, (.sl 1 ((a0.getD (v1.getD (IntKind.i64.wrap ((v1.length : Int) - 1)).toNat 0).toNat []).map Z8) false)), (27, (.int .i64 ((a0.getD (v1.getD (IntKind.i64.wrap ((v1.length : Int) - 1)).toNat 0).toNat []).length : Int))), (28, (.int .i64 (IntKind.i64.wrap (v10 + 1))))], [(9, (.vec 1 (List.map Z8 v1)))]⟩) ⟨rfl, rfl, rfl, rfl, rfl, rfl, rfl, trivial⟩ ⟨rfl, trivial⟩ (IH11 _ (IntKind.i64.wrap (v10 + 1)) (Nat.lt_succ_self _) h)
      ·have h := hif.2 hc
       refine AWp.exit <| At.thru ?_
       exact Zl (st' := ⟨[(0, (.sl 1 (a0.map Zg) false)), (1, (.sl 1 (a1.map Z8) false)), (3, (.int .i64 a3)), (9, (.vs 9))], [(9, (.vec 1 (List.map Z8 v1)))]⟩) ⟨rfl, rfl, rfl, rfl, trivial⟩ ⟨rfl, trivial⟩ (J11 v1 h)
   ·have h := hif.2 hc
    refine AWp.exit <| At.thru ?_
    exact Zl (st' := ⟨[(9, (.vs 9))], [(9, (.vec 1 (List.map Z8 v1)))]⟩) ⟨rfl, trivial⟩ ⟨rfl, trivial⟩ (J2 v1 h)
def F15 (K : Nat) (a0 : Za) (a1 : Int) (a2 : Int) : Option ((List Int) × Int) :=
 (F45 K a0 a1).bind fun v2 =>
  if (!v2) = true then
   some ([], 10)
  else
   (F45 K a0 a2).bind fun v4 =>
    if (!v4) = true then
     some ([], 10)
    else
     (F30 K a0).bind fun v6 =>
      (F47 K v6).bind fun v8 =>
       (F46 K v8 [a2] (Int.negSucc 0)).bind fun v10 =>
        if (0 : Int) ≤ a1 ∧ a1 < v10.length then
         if (decide ((v10.getD a1.toNat 0) < 0)) = true then
          some ([], 22)
         else
          (F47 K a0).bind fun v13 =>
           if (0 : Int) ≤ a1 ∧ a1 < v10.length then
            (F48 K v13 v10 a1 (IntKind.i64.wrap ((v10.getD a1.toNat 0) + 1))).bind fun v16 =>
             some (v16, 0)
           else none
        else none
theorem F15_ok (K : Nat) (a0 : Za) (a1 : Int) (a2 : Int) (r : (List Int) × Int) (h : F15 K a0 a1 a2 = some r) : ACall P 15 ⟨[(Z4 a0), (.int .i64 a1), (.int .i64 a2)], [], (.tup [(.sl 1 (r.1.map Z8) false), (.int .i64 r.2)]), [], []⟩ := by
 refine acall_of Try.func15 Try.results15 rfl Try.ntmps15 rfl rfl rfl ?_
 intro E Q hP hN hro hret
 obtain ⟨P', nt', w0, F0, p0, S0, β0, ro0⟩ := E
 simp only at hP hN
 subst hP hN
 dsimp only [argT]
 unfold F15 at h
 refine Zf <| Z6 <| Z1 I (st_box (v := (Z4 a0)) (cs := (Z4 a0).cells) I I I I I) I <| Z1 I (Zh (v := (.sl 1 [] false)) I I) I <| Z1 I (Zh (v := (.int .i64 0)) I I) I <| Zb <| Ze <| Zf ?_
 refine Zf <| Z6 <| Z1 I (st_loadPA (cs := (Z4 a0).cells) (vs := (Z4 a0).cells) I a35 I I I I) I <| Z1 I (Z9 (v := (.int .i64 a1)) I I) I ?_
 have ⟨v2, hv2, h⟩ := of_bind h
 refine Z1 I (st_call0 (ar := [(Z4 a0), (.int .i64 a1)]) (caps := []) Try.call45 (F45_ok K a0 a1 v2 hv2) I I ⟨rfl, rfl, trivial⟩ I) I <| Z1 I (st_not (b := v2) I I) I <| Z1 I (Z9 (v := (.bool (!v2))) I I) I ?_
 have hif := of_if h
 refine AOps.split (fun hc => ?_) (fun hc => ?_)
 ·have h := hif.1 hc
  refine Z5 I I I I I I I <| Z5 I I I I I I I <| Z5 I I I I I I I <| Z5 I I I I I I I <| Z1 I (Zz (v := (.bool true)) I I I) I <| Zb <| Ze ?_
  refine Zv (b := true) I (fun hc => ?_) (fun hc => ?_)
  rotate_left
  ·cases hc
  refine Zf <| Z6 <| Z1 I (Zh (v := (.sl 1 [] false)) I I) I <| Z1 I (Zh (v := (.int .i64 10)) I I) I <| Zb <| Ze <| AWp.ret <| At.thruR ?_
  have h := Option.some.inj h
  subst h
  refine (hret _ ?_).1
  exact ⟨[(.sl 1 [] false), (.int .i64 10)], ⟨rfl, rfl, trivial⟩, rfl, trivial⟩
 ·have h := hif.2 hc
  refine Zj I I I I (st_loadPA (cs := (Z4 a0).cells) (vs := (Z4 a0).cells) I a35 I I I I) I <| Zj I I I I (Z9 (v := (.int .i64 a2)) I I) I ?_
  have ⟨v4, hv4, h⟩ := of_bind h
  refine Zj I I I I (st_call0 (ar := [(Z4 a0), (.int .i64 a2)]) (caps := []) Try.call45 (F45_ok K a0 a2 v4 hv4) I I ⟨rfl, rfl, trivial⟩ I) I <| Zj I I I I (st_not (b := v4) I I) I <| Z1 I (Zx (v := (.bool (!v4))) I I I) I <| Zb <| Ze ?_
  have hif := of_if h
  refine Zv I (fun hc => ?_) (fun hc => ?_)
  ·have h := hif.1 hc
   refine Zf <| Z6 <| Z1 I (Zh (v := (.sl 1 [] false)) I I) I <| Z1 I (Zh (v := (.int .i64 10)) I I) I <| Zb <| Ze <| AWp.ret <| At.thruR ?_
   have h := Option.some.inj h
   subst h
   refine (hret _ ?_).1
   exact ⟨[(.sl 1 [] false), (.int .i64 10)], ⟨rfl, rfl, trivial⟩, rfl, trivial⟩
  ·have h := hif.2 hc
   refine Zy <| Ze <| Zf <| Z6 <| Z1 I (st_loadPA (cs := (Z4 a0).cells) (vs := (Z4 a0).cells) I a35 I I I I) I ?_
   have ⟨v6, hv6, h⟩ := of_bind h
   refine Z1 I (st_call0 (ar := [(Z4 a0)]) (caps := []) Try.call30 (F30_ok K a0 v6 hv6) I I ⟨rfl, trivial⟩ I) I ?_
   have ⟨v8, hv8, h⟩ := of_bind h
   refine Z1 I (st_call0 (ar := [(Z4 v6)]) (caps := []) Try.call47 (F47_ok K v6 v8 hv8) I I ⟨rfl, trivial⟩ I) I <| Z1 I (Z9 (v := (.int .i64 a2)) I I) I <| Z1 I (stx_buildSlice (vs := [(.int .i64 a2)]) (enc := Z8) (l := [a2]) I el29 I I ⟨rfl, trivial⟩ I els_i64 I I I I) I <| AOps.ghost (st' := ⟨[(1, (.int .i64 a1)), (3, (.ptr 3 0)), (21, (.sl 1 (v8.map Zg) false)), (23, (.sl 1 ([a2].map Z8) false))], [(3, (.box (Z4 a0).cells))]⟩) (fun a w h => (Zp ⟨[(1, (.int .i64 a1)), (3, (.ptr 3 0)), (21, (.sl 1 (v8.map Zg) false)), (23, (.sl 1 ([a2].map Z8) false))], [(3, (.box (Z4 a0).cells))]⟩ (ghost_freeze (m := 23) (sz := 1) (es := (List.map Z8 [a2])) a w (Zp ⟨[(1, (.int .i64 a1)), (3, (.ptr 3 0)), (21, (.sl 1 (v8.map Zg) false)), (23, (.vs 23))], [(23, (.vec 1 (List.map Z8 [a2]))), (3, (.box (Z4 a0).cells))]⟩ h ⟨rfl, rfl, rfl, rfl, trivial⟩ ⟨rfl, rfl, trivial⟩)) ⟨rfl, rfl, rfl, rfl, trivial⟩ ⟨rfl, trivial⟩)) ?_
   have ⟨v10, hv10, h⟩ := of_bind h
   refine Z1 I (st_call0 (ar := [(.sl 1 (v8.map Zg) false), (.sl 1 ([a2].map Z8) false), (.int .i64 (Int.negSucc 0))]) (caps := []) Try.call46 (F46_ok K v8 [a2] (Int.negSucc 0) v10 hv10) I I ⟨rfl, rfl, rfl, trivial⟩ I) I <| Z1 I (Zh (v := (.sl 1 (v10.map Z8) false)) I I) I <| Zb <| Ze <| Zf <| Zf <| Z6 <| Z1 I (Z9 (v := (.sl 1 (v10.map Z8) false)) I I) I ?_
   refine Z1 I (Z9 (v := (.int .i64 a1)) I I) I ?_
   have ⟨hg11, h⟩ := Zi h
   refine Z1 I (st_index (k := .i64) (l := v10) (enc := Z8) (z := 0) (n := a1) (cs := [(.int .i64 (v10.getD a1.toNat 0))]) (full := false) I s29 I I hg11 I) I <| Z1 I (st_loadI (cs := [(.int .i64 (v10.getD a1.toNat 0))]) (v := (.int .i64 (v10.getD a1.toNat 0))) I o3 I I) I <| Z1 I (st_cmp (k := .i64) (a := (v10.getD a1.toNat 0)) (b := 0) (c := (decide ((v10.getD a1.toNat 0) < 0))) I I I I) I <| Zb <| Ze ?_
   have hif := of_if h
   refine Zv I (fun hc => ?_) (fun hc => ?_)
   ·have h := hif.1 hc
    refine Zf <| Z6 <| Z1 I (Zh (v := (.sl 1 [] false)) I I) I <| Z1 I (Zh (v := (.int .i64 22)) I I) I <| Zb <| Ze <| AWp.ret <| At.thruR ?_
    have h := Option.some.inj h
    subst h
    refine (hret _ ?_).1
    exact ⟨[(.sl 1 [] false), (.int .i64 22)], ⟨rfl, rfl, trivial⟩, rfl, trivial⟩
   ·have h := hif.2 hc
    refine Zy <| Ze <| Zf <| AWp.regionD mixed <| Zd 0 I (st_loadPA (cs := (Z4 a0).cells) (vs := (Z4 a0).cells) I a35 I I I I) ?_
    have ⟨v13, hv13, h⟩ := of_bind h
    refine Zd 1 I (st_call0 (ar := [(Z4 a0)]) (caps := []) Try.call47 (F47_ok K a0 v13 hv13) I I ⟨rfl, trivial⟩ I) <| Zd 2 I (Z9 (v := (.sl 1 (v10.map Z8) false)) I I) <| Zd 3 I (Z9 (v := (.int .i64 a1)) I I) <| Zd 4 I (Z9 (v := (.sl 1 (v10.map Z8) false)) I I) <| Zd 5 I (Z9 (v := (.int .i64 a1)) I I) ?_
    have ⟨hg14, h⟩ := Zi h
    refine Zd 6 I (st_index (k := .i64) (l := v10) (enc := Z8) (z := 0) (n := a1) (cs := [(.int .i64 (v10.getD a1.toNat 0))]) (full := false) I s29 I I hg14 I) <| Zd 7 I (st_loadI (cs := [(.int .i64 (v10.getD a1.toNat 0))]) (v := (.int .i64 (v10.getD a1.toNat 0))) I o3 I I) <| Zd 8 I (st_arith (k := .i64) (a := (v10.getD a1.toNat 0)) (b := 1) (c := (IntKind.i64.wrap ((v10.getD a1.toNat 0) + 1))) I I I I) ?_
    have ⟨v16, hv16, h⟩ := of_bind h
    refine Zd 9 I (st_call0 (ar := [(.sl 1 (v13.map Zg) false), (.sl 1 (v10.map Z8) false), (.int .i64 a1), (.int .i64 (IntKind.i64.wrap ((v10.getD a1.toNat 0) + 1)))]) (caps := []) Try.call48 (F48_ok K v13 v10 a1 (IntKind.i64.wrap ((v10.getD a1.toNat 0) + 1)) v16 hv16) I I ⟨rfl, rfl, rfl, rfl, trivial⟩ I) <| Zd 10 I (Zh (v := (.sl 1 (v16.map Z8) false)) I I) <| Zd 11 I (Zh (v := (.int .i64 0)) I I) <| AOpsD.nil (by kernel_rfl) I <| Ze <| AWp.ret ?_
    have h := Option.some.inj h
    subst h
    refine (hret _ ?_).1
    exact ⟨[(.sl 1 (v16.map Z8) false), (.int .i64 0)], ⟨rfl, rfl, trivial⟩, rfl, trivial⟩
def F18_c3 (K : Nat) : Option (Bool) :=
 some true
def F18_l2 (K : Nat) (a0 : (List Int)) (a1 : (List Int)) (c4 : Option (Bool)) : Nat → Int → Option (Bool)
 | 0, _ => none
 | k2 + 1, v1 =>
  if (decide (v1 < (a0.length : Int))) = true then
   if (0 : Int) ≤ v1 ∧ v1 < a0.length then
    if (0 : Int) ≤ v1 ∧ v1 < a1.length then
     if ((a0.getD v1.toNat 0) != (a1.getD v1.toNat 0)) = true then
      some false
     else
      (F18_l2 K a0 a1 c4 k2) (IntKind.i64.wrap (v1 + 1))
    else none
   else none
  else
   c4
def F18 (K : Nat) (a0 : (List Int)) (a1 : (List Int)) : Option (Bool) :=
 if ((a0.length : Int) != (a1.length : Int)) = true then
  some false
 else
  F18_l2 K a0 a1 (F18_c3 K) K 0
theorem F18_ok (K : Nat) (a0 : (List Int)) (a1 : (List Int)) (r : Bool) (h : F18 K a0 a1 = some r) : ACall P 18 ⟨[(.sl 1 (a0.map Z8) false), (.sl 1 (a1.map Z8) false)], [], (.bool r), [], []⟩ := by
 refine acall_of Try.func18 Try.results18 rfl Try.ntmps18 rfl rfl rfl ?_
 intro E Q hP hN hro hret
 obtain ⟨P', nt', w0, F0, p0, S0, β0, ro0⟩ := E
 simp only at hP hN
 subst hP hN
 dsimp only [argT]
 unfold F18 at h
 refine Zf <| Z6 <| Z1 I (Zh (v := (.bool false)) I I) I <| Zb <| Ze <| Zf <| Zf <| Z6 ?_
 refine Z1 I (Z9 (v := (.sl 1 (a0.map Z8) false)) I I) I <| Z1 I (stx_len (l := a0) (enc := Z8) I s29 I) I <| Z1 I (Z9 (v := (.sl 1 (a1.map Z8) false)) I I) I <| Z1 I (stx_len (l := a1) (enc := Z8) I s29 I) I <| Z1 I (st_cmp (k := .i64) (a := (a0.length : Int)) (b := (a1.length : Int)) (c := ((a0.length : Int) != (a1.length : Int))) I I I I) I <| Zb <| Ze ?_
 have hif := of_if h
 refine Zv I (fun hc => ?_) (fun hc => ?_)
 ·have h := hif.1 hc
  refine Zf <| Z6 <| Z1 I (Zh (v := (.bool false)) I I) I <| Zb <| Ze <| AWp.ret <| At.thruR ?_
  have h := Option.some.inj h
  subst h
  refine (hret _ ?_).1
  exact ⟨[(.bool false)], ⟨rfl, trivial⟩, rfl, trivial⟩
 ·have h := hif.2 hc
  refine Zy <| Ze <| Zf <| Zf <| Z6 <| Z1 I (Zh (v := (.int .i64 0)) I I) I <| Zb <| Ze ?_
  refine AWp.weaken (st' := ⟨[(0, (.sl 1 (a0.map Z8) false)), (1, (.sl 1 (a1.map Z8) false)), (5, (.int .i64 0))], []⟩) ⟨rfl, rfl, rfl, trivial⟩ trivial ?_
  refine Zw (V := Int) (X := Unit) (lp := fun k v => F18_l2 K a0 a1 (F18_c3 K) k v = some r) (sh := fun v => ⟨[(0, (.sl 1 (a0.map Z8) false)), (1, (.sl 1 (a1.map Z8) false)), (5, (.int .i64 v))], []⟩) (x := fun v => F18_c3 K = some r) (shx := fun v => ⟨[], []⟩) (k := K) (v := 0) h ?_ ?_
  ·intro v h
   try dsimp only at h ⊢
   unfold F18_c3 at h
   refine Ze <| Zf <| Z6 <| Z1 I (Zh (v := (.bool true)) I I) I <| Zb <| Ze <| AWp.ret ?_
   have h := Option.some.inj h
   subst h
   refine (hret _ ?_).1
   exact ⟨[(.bool true)], ⟨rfl, trivial⟩, rfl, trivial⟩
  ·intro N k2 v h IH2 J2
   revert h
   revert v
   intro v1 h
   try dsimp only at h IH2 J2 ⊢
   cases k2 with
   | zero => cases h
   | succ k2 =>
    rw [F18_l2] at h
    refine Zf <| Zf <| Z6 <| Z1 I (Z9 (v := (.int .i64 v1)) I I) I <| Z1 I (Z9 (v := (.sl 1 (a0.map Z8) false)) I I) I <| Z1 I (stx_len (l := a0) (enc := Z8) I s29 I) I <| Z1 I (st_cmp (k := .i64) (a := v1) (b := (a0.length : Int)) (c := (decide (v1 < (a0.length : Int)))) I I I I) I <| Zb ?_
    refine Ze ?_
    have hif := of_if h
    refine Zv I (fun hc => ?_) (fun hc => ?_)
    ·have h := hif.1 hc
     refine Zy <| Ze <| Zf <| AWp.block <| Zf <| AWp.regionD mixed <| Zd 0 I (Z9 (v := (.sl 1 (a0.map Z8) false)) I I) <| Zd 1 I (Z9 (v := (.int .i64 v1)) I I) ?_
     have ⟨hg6, h⟩ := Zi h
     refine Zd 2 I (st_index (k := .i64) (l := a0) (enc := Z8) (z := 0) (n := v1) (cs := [(.int .i64 (a0.getD v1.toNat 0))]) (full := false) I s29 I I hg6 I) <| Zd 3 I (st_loadI (cs := [(.int .i64 (a0.getD v1.toNat 0))]) (v := (.int .i64 (a0.getD v1.toNat 0))) I o3 I I) <| Zd 4 I (Z9 (v := (.sl 1 (a1.map Z8) false)) I I) <| Zd 5 I (Z9 (v := (.int .i64 v1)) I I) ?_
     have ⟨hg7, h⟩ := Zi h
     refine Zd 6 I (st_index (k := .i64) (l := a1) (enc := Z8) (z := 0) (n := v1) (cs := [(.int .i64 (a1.getD v1.toNat 0))]) (full := false) I s29 I I hg7 I) <| Zd 7 I (st_loadI (cs := [(.int .i64 (a1.getD v1.toNat 0))]) (v := (.int .i64 (a1.getD v1.toNat 0))) I o3 I I) <| Zd 8 I (st_cmp (k := .i64) (a := (a0.getD v1.toNat 0)) (b := (a1.getD v1.toNat 0)) (c := ((a0.getD v1.toNat 0) != (a1.getD v1.toNat 0))) I I I I) <| AOpsD.nil (by kernel_rfl) I <| Ze ?_
     have hif := of_if h
     refine Zv I (fun hc => ?_) (fun hc => ?_)
     ·have h := hif.1 hc
      refine Zf <| Z6 <| Z1 I (Zh (v := (.bool false)) I I) I <| Zb <| Ze <| AWp.ret <| At.overR <| At.thruR ?_
      refine At.thruR (At.overR ?_)
      refine At.thruR ?_
      have h := Option.some.inj h
      subst h
      refine (hret _ ?_).1
      exact ⟨[(.bool false)], ⟨rfl, trivial⟩, rfl, trivial⟩
     ·have h := hif.2 hc
      refine Zy <| At.end <| Ze <| Z6 <| Z1 I (Z9 (v := (.int .i64 v1)) I I) I <| Z1 I (st_arith (k := .i64) (a := v1) (b := 1) (c := (IntKind.i64.wrap (v1 + 1))) I I I I) I <| Z1 I (Zh (v := (.int .i64 (IntKind.i64.wrap (v1 + 1)))) I I) I <| Zb ?_
      exact Zl (st' := ⟨[(0, (.sl 1 (a0.map Z8) false)), (1, (.sl 1 (a1.map Z8) false)), (5, (.int .i64 (IntKind.i64.wrap (v1 + 1))))], []⟩) ⟨rfl, rfl, rfl, trivial⟩ trivial (IH2 _ (IntKind.i64.wrap (v1 + 1)) (Nat.lt_succ_self _) h)
    ·have h := hif.2 hc
     refine AWp.exit <| At.thru ?_
     exact Zl (st' := ⟨[], []⟩) trivial trivial (J2 () h)
def F13_j12 (K : Nat) (v11 : Bool) : Option (Bool) :=
 some v11
def F13 (K : Nat) : Option (Bool) :=
 (F35 K 5 [(⟨0, 1⟩ : Z7), (⟨1, 2⟩ : Z7), (⟨2, 0⟩ : Z7), (⟨2, 3⟩ : Z7), (⟨3, 4⟩ : Z7)]).bind fun v2 =>
  (F24 K v2.1).bind fun v4 =>
   (F20 K v2.1).bind fun v6 =>
    (F19 K v2.1).bind fun v8 =>
     (F15 K v2.1 1 4).bind fun v10 =>
      if (v2.2 == 0) = true then
       if ((v4.length : Int) == 3) = true then
        if (0 : Int) ≤ 0 ∧ (0 : Int) < v4.length then
         (F18 K (v4.getD (0 : Int).toNat []) [0, 1, 2]).bind fun v15 =>
          if v15 = true then
           if (0 : Int) ≤ 2 ∧ (2 : Int) < v4.length then
            (F18 K (v4.getD (2 : Int).toNat []) [4]).bind fun v18 =>
             if v18 = true then
              (F18 K v6.1 [0, 1, 2]).bind fun v20 =>
               if v20 = true then
                if v6.2 = true then
                 if (v8.2 == 35) = true then
                  (F18 K v10.1 [1, 2, 3, 4]).bind fun v22 =>
                   if v22 = true then
                    F13_j12 K (v10.2 == 0)
                   else
                    F13_j12 K false
                 else
                  F13_j12 K false
                else
                 F13_j12 K false
               else
                F13_j12 K false
             else
              F13_j12 K false
           else none
          else
           F13_j12 K false
        else none
       else
        F13_j12 K false
      else
       F13_j12 K false
theorem F13_ok (K : Nat) (r : Bool) (h : F13 K = some r) : ACall P 13 ⟨[], [], (.bool r), [], []⟩ := by
 refine acall_of Try.func13 Try.results13 rfl Try.ntmps13 rfl rfl rfl ?_
 intro E Q hP hN hro hret
 obtain ⟨P', nt', w0, F0, p0, S0, β0, ro0⟩ := E
 simp only at hP hN
 subst hP hN
 dsimp only [argT]
 unfold F13 at h
 refine Zf <| Z6 <| Z1 I (Zh (v := (.bool false)) I I) I <| Zb <| Ze <| Zf <| Z6 <| Z1 I (stx_build (vs := [(0, (.int .i64 0)), (1, (.int .i64 1))]) (cs := [(.int .i64 0), (.int .i64 1)]) I st64 ⟨rfl, rfl, rfl, rfl, trivial⟩ I) I ?_
 refine Z1 I (stx_build (vs := [(0, (.int .i64 1)), (1, (.int .i64 2))]) (cs := [(.int .i64 1), (.int .i64 2)]) I st64 ⟨rfl, rfl, rfl, rfl, trivial⟩ I) I <| Z1 I (stx_build (vs := [(0, (.int .i64 2)), (1, (.int .i64 0))]) (cs := [(.int .i64 2), (.int .i64 0)]) I st64 ⟨rfl, rfl, rfl, rfl, trivial⟩ I) I <| Z1 I (stx_build (vs := [(0, (.int .i64 2)), (1, (.int .i64 3))]) (cs := [(.int .i64 2), (.int .i64 3)]) I st64 ⟨rfl, rfl, rfl, rfl, trivial⟩ I) I <| Z1 I (stx_build (vs := [(0, (.int .i64 3)), (1, (.int .i64 4))]) (cs := [(.int .i64 3), (.int .i64 4)]) I st64 ⟨rfl, rfl, rfl, rfl, trivial⟩ I) I <| Z1 I (stx_buildSlice (vs := [(.ag [(.int .i64 0), (.int .i64 1)]), (.ag [(.int .i64 1), (.int .i64 2)]), (.ag [(.int .i64 2), (.int .i64 0)]), (.ag [(.int .i64 2), (.int .i64 3)]), (.ag [(.int .i64 3), (.int .i64 4)])]) (enc := Z3) (l := [(⟨0, 1⟩ : Z7), (⟨1, 2⟩ : Z7), (⟨2, 0⟩ : Z7), (⟨2, 3⟩ : Z7), (⟨3, 4⟩ : Z7)]) I el33 I I ⟨rfl, rfl, rfl, rfl, rfl, trivial⟩ I els_Tgraph_Edge I I I I) I <| AOps.ghost (st' := ⟨[(16, (.sl 2 ([(⟨0, 1⟩ : Z7), (⟨1, 2⟩ : Z7), (⟨2, 0⟩ : Z7), (⟨2, 3⟩ : Z7), (⟨3, 4⟩ : Z7)].map Z3) false))], []⟩) (fun a w h => (Zp ⟨[(16, (.sl 2 ([(⟨0, 1⟩ : Z7), (⟨1, 2⟩ : Z7), (⟨2, 0⟩ : Z7), (⟨2, 3⟩ : Z7), (⟨3, 4⟩ : Z7)].map Z3) false))], []⟩ (ghost_freeze (m := 16) (sz := 2) (es := (List.map Z3 [(⟨0, 1⟩ : Z7), (⟨1, 2⟩ : Z7), (⟨2, 0⟩ : Z7), (⟨2, 3⟩ : Z7), (⟨3, 4⟩ : Z7)])) a w (Zp ⟨[(16, (.vs 16))], [(16, (.vec 2 (List.map Z3 [(⟨0, 1⟩ : Z7), (⟨1, 2⟩ : Z7), (⟨2, 0⟩ : Z7), (⟨2, 3⟩ : Z7), (⟨3, 4⟩ : Z7)])))]⟩ h ⟨rfl, trivial⟩ ⟨rfl, trivial⟩)) ⟨rfl, trivial⟩ trivial)) ?_
 have ⟨v2, hv2, h⟩ := of_bind h
 refine Z1 I (st_call0 (ar := [(.int .i64 5), (.sl 2 ([(⟨0, 1⟩ : Z7), (⟨1, 2⟩ : Z7), (⟨2, 0⟩ : Z7), (⟨2, 3⟩ : Z7), (⟨3, 4⟩ : Z7)].map Z3) false)]) (caps := []) Try.call35 (F35_ok K 5 [(⟨0, 1⟩ : Z7), (⟨1, 2⟩ : Z7), (⟨2, 0⟩ : Z7), (⟨2, 3⟩ : Z7), (⟨3, 4⟩ : Z7)] v2 hv2) I I ⟨rfl, rfl, trivial⟩ I) I <| Z1 I (Z9 (v := (.tup [(Z4 v2.1), (.int .i64 v2.2)])) I I) I <| Z1 I (st_extract (vs := [(Z4 v2.1), (.int .i64 v2.2)]) (v := (Z4 v2.1)) I I I) I <| Z1 I (st_extract (vs := [(Z4 v2.1), (.int .i64 v2.2)]) (v := (.int .i64 v2.2)) I I I) I <| Z1 I (st_alloc (cs := [(.int .i64 0), (.sl 2 [] false)]) I z35 I I I) I <| Z1 I (st_storeP (cs := [(.int .i64 0), (.sl 2 [] false)]) (vs := (Z4 v2.1).cells) (ds := (Z4 v2.1).cells) (v := (Z4 v2.1)) sz35 I I I I I I I I) I <| Z1 I (Zh (v := (.int .i64 v2.2)) I I) I <| Zb ?_
 refine Ze <| Zf <| Z6 <| Z1 I (st_loadPA (cs := (Z4 v2.1).cells) (vs := (Z4 v2.1).cells) I a35 I I I I) I ?_
 have ⟨v4, hv4, h⟩ := of_bind h
 refine Z1 I (st_call0 (ar := [(Z4 v2.1)]) (caps := []) Try.call24 (F24_ok K v2.1 v4 hv4) I I ⟨rfl, trivial⟩ I) I <| Z1 I (Zh (v := (.sl 1 (v4.map Zg) false)) I I) I <| Zb <| Ze <| Zf <| Z6 <| Z1 I (st_loadPA (cs := (Z4 v2.1).cells) (vs := (Z4 v2.1).cells) I a35 I I I I) I ?_
 have ⟨v6, hv6, h⟩ := of_bind h
 refine Z1 I (st_call0 (ar := [(Z4 v2.1)]) (caps := []) Try.call20 (F20_ok K v2.1 v6 hv6) I I ⟨rfl, trivial⟩ I) I <| Z1 I (Z9 (v := (.tup [(.sl 1 (v6.1.map Z8) false), (.bool v6.2)])) I I) I <| Z1 I (st_extract (vs := [(.sl 1 (v6.1.map Z8) false), (.bool v6.2)]) (v := (.sl 1 (v6.1.map Z8) false)) I I I) I <| Z1 I (st_extract (vs := [(.sl 1 (v6.1.map Z8) false), (.bool v6.2)]) (v := (.bool v6.2)) I I I) I <| Z1 I (Zh (v := (.sl 1 (v6.1.map Z8) false)) I I) I <| Z1 I (Zh (v := (.bool v6.2)) I I) I <| Zb <| Ze ?_
 refine Zf <| Z6 <| Z1 I (st_loadPA (cs := (Z4 v2.1).cells) (vs := (Z4 v2.1).cells) I a35 I I I I) I ?_
 have ⟨v8, hv8, h⟩ := of_bind h
 refine Z1 I (st_call0 (ar := [(Z4 v2.1)]) (caps := []) Try.call19 (F19_ok K v2.1 v8 hv8) I I ⟨rfl, trivial⟩ I) I <| Z1 I (Z9 (v := (.tup [(.sl 1 (v8.1.map Z8) false), (.int .i64 v8.2)])) I I) I <| Z1 I (st_extract (vs := [(.sl 1 (v8.1.map Z8) false), (.int .i64 v8.2)]) (v := (.sl 1 (v8.1.map Z8) false)) I I I) I <| Z1 I (st_extract (vs := [(.sl 1 (v8.1.map Z8) false), (.int .i64 v8.2)]) (v := (.int .i64 v8.2)) I I I) I <| Z1 I (Zh (v := (.sl 1 (v8.1.map Z8) false)) I I) I <| Z1 I (Zh (v := (.int .i64 v8.2)) I I) I <| Zb <| Ze ?_
 refine Zf <| Z6 <| Z1 I (st_loadPA (cs := (Z4 v2.1).cells) (vs := (Z4 v2.1).cells) I a35 I I I I) I ?_
 have ⟨v10, hv10, h⟩ := of_bind h
 refine Z1 I (st_call0 (ar := [(Z4 v2.1), (.int .i64 1), (.int .i64 4)]) (caps := []) Try.call15 (F15_ok K v2.1 1 4 v10 hv10) I I ⟨rfl, rfl, rfl, trivial⟩ I) I <| Z1 I (Z9 (v := (.tup [(.sl 1 (v10.1.map Z8) false), (.int .i64 v10.2)])) I I) I <| Z1 I (st_extract (vs := [(.sl 1 (v10.1.map Z8) false), (.int .i64 v10.2)]) (v := (.sl 1 (v10.1.map Z8) false)) I I I) I <| Z1 I (st_extract (vs := [(.sl 1 (v10.1.map Z8) false), (.int .i64 v10.2)]) (v := (.int .i64 v10.2)) I I I) I <| Z1 I (Zh (v := (.sl 1 (v10.1.map Z8) false)) I I) I <| Z1 I (Zh (v := (.int .i64 v10.2)) I I) I <| Zb <| Ze ?_
 refine Zf ?_
 refine AWp.join (V := Bool) (lp := fun v => F13_j12 K v = some r) (sh := fun v => ⟨[(0, (.bool v))], []⟩) ?_ ?_
 ·intro v h
  revert h
  revert v
  intro v11 h
  try dsimp only at h ⊢
  unfold F13_j12 at h
  refine Ze <| AWp.ret ?_
  have h := Option.some.inj h
  subst h
  refine (hret _ ?_).1
  exact ⟨[(.bool v11)], ⟨rfl, trivial⟩, rfl, trivial⟩
 ·intro J12
  refine Z6 <| Z1 I (Z9 (v := (.int .i64 v2.2)) I I) I <| Z1 I (st_cmp (k := .i64) (a := v2.2) (b := 0) (c := (v2.2 == 0)) I I I I) I <| Z1 I (Z9 (v := (.bool (v2.2 == 0))) I I) I ?_
  have hif := of_if h
  refine AOps.split (fun hc => ?_) (fun hc => ?_)
  ·have h := hif.1 hc
   refine Zj I I I I (Z9 (v := (.sl 1 (v4.map Zg) false)) I I) I <| Zj I I I I (stx_len (l := v4) (enc := Zg) I s46 I) I <| Zj I I I I (st_cmp (k := .i64) (a := (v4.length : Int)) (b := 3) (c := ((v4.length : Int) == 3)) I I I I) I <| Z1 I (Zz (v := (.bool ((v4.length : Int) == 3))) I I I) I <| Z1 I (Z9 (v := (.bool ((v4.length : Int) == 3))) I I) I ?_
   have hif := of_if h
   refine AOps.split (fun hc => ?_) (fun hc => ?_)
   ·have h := hif.1 hc
    refine Zj I I I I (Z9 (v := (.sl 1 (v4.map Zg) false)) I I) I ?_
    have ⟨hg13, h⟩ := Zi h
    refine Zj I I I I (st_index (k := .i64) (l := v4) (enc := Zg) (z := []) (n := 0) (cs := [(.sl 1 ((v4.getD (0 : Int).toNat []).map Z8) false)]) (full := false) I s46 I I hg13 I) I <| Zj I I I I (st_loadI (cs := [(.sl 1 ((v4.getD (0 : Int).toNat []).map Z8) false)]) (v := (.sl 1 ((v4.getD (0 : Int).toNat []).map Z8) false)) I o29 I I) I <| Zj I I I I (stx_buildSlice (vs := [(.int .i64 0), (.int .i64 1), (.int .i64 2)]) (enc := Z8) (l := [0, 1, 2]) I el29 I I ⟨rfl, rfl, rfl, trivial⟩ I els_i64 I I I I) I ?_
    have ⟨v15, hv15, h⟩ := of_bind h
    refine Zj I I I I (st_callB (rd := [(48, (.vec 1 (List.map Z8 [0, 1, 2])))]) (ar := [(.sl 1 ((v4.getD (0 : Int).toNat []).map Z8) false), (.vs 48)]) (caps := []) Try.call18 (F18_ok K (v4.getD (0 : Int).toNat []) [0, 1, 2] v15 hv15) I I ⟨rfl, rfl, trivial⟩ (subS_mem ⟨rfl, trivial⟩) I I I) I <| Z1 I (Zz (v := (.bool v15)) I I I) I <| Z1 I (Z9 (v := (.bool v15)) I I) I ?_
    have hif := of_if h
    refine AOps.split (fun hc => ?_) (fun hc => ?_)
    ·have h := hif.1 hc
     refine Zj I I I I (Z9 (v := (.sl 1 (v4.map Zg) false)) I I) I ?_
     have ⟨hg16, h⟩ := Zi h
     refine Zj I I I I (st_index (k := .i64) (l := v4) (enc := Zg) (z := []) (n := 2) (cs := [(.sl 1 ((v4.getD (2 : Int).toNat []).map Z8) false)]) (full := false) I s46 I I hg16 I) I <| Zj I I I I (st_loadI (cs := [(.sl 1 ((v4.getD (2 : Int).toNat []).map Z8) false)]) (v := (.sl 1 ((v4.getD (2 : Int).toNat []).map Z8) false)) I o29 I I) I <| Zj I I I I (stx_buildSlice (vs := [(.int .i64 4)]) (enc := Z8) (l := [4]) I el29 I I ⟨rfl, trivial⟩ I els_i64 I I I I) I ?_
     have ⟨v18, hv18, h⟩ := of_bind h
     refine Zj I I I I (st_callB (rd := [(55, (.vec 1 (List.map Z8 [4])))]) (ar := [(.sl 1 ((v4.getD (2 : Int).toNat []).map Z8) false), (.vs 55)]) (caps := []) Try.call18 (F18_ok K (v4.getD (2 : Int).toNat []) [4] v18 hv18) I I ⟨rfl, rfl, trivial⟩ (subS_mem ⟨rfl, trivial⟩) I I I) I <| Z1 I (Zz (v := (.bool v18)) I I I) I <| Z1 I (Z9 (v := (.bool v18)) I I) I ?_
     have hif := of_if h
     refine AOps.split (fun hc => ?_) (fun hc => ?_)
     ·have h := hif.1 hc
      refine Zj I I I I (Z9 (v := (.sl 1 (v6.1.map Z8) false)) I I) I <| Zj I I I I (stx_buildSlice (vs := [(.int .i64 0), (.int .i64 1), (.int .i64 2)]) (enc := Z8) (l := [0, 1, 2]) I el29 I I ⟨rfl, rfl, rfl, trivial⟩ I els_i64 I I I I) I ?_
      have ⟨v20, hv20, h⟩ := of_bind h
      refine Zj I I I I (st_callB (rd := [(60, (.vec 1 (List.map Z8 [0, 1, 2])))]) (ar := [(.sl 1 (v6.1.map Z8) false), (.vs 60)]) (caps := []) Try.call18 (F18_ok K v6.1 [0, 1, 2] v20 hv20) I I ⟨rfl, rfl, trivial⟩ (subS_mem ⟨rfl, trivial⟩) I I I) I <| Z1 I (Zz (v := (.bool v20)) I I I) I <| Z1 I (Z9 (v := (.bool v20)) I I) I ?_
      have hif := of_if h
      refine AOps.split (fun hc => ?_) (fun hc => ?_)
      ·have h := hif.1 hc
       refine Zj I I I I (Z9 (v := (.bool v6.2)) I I) I <| Z1 I (Zz (v := (.bool v6.2)) I I I) I <| Z1 I (Z9 (v := (.bool v6.2)) I I) I ?_
       have hif := of_if h
       refine AOps.split (fun hc => ?_) (fun hc => ?_)
       ·have h := hif.1 hc
        refine Zj I I I I (Z9 (v := (.int .i64 v8.2)) I I) I <| Zj I I I I (st_cmp (k := .i64) (a := v8.2) (b := 35) (c := (v8.2 == 35)) I I I I) I <| Z1 I (Zz (v := (.bool (v8.2 == 35))) I I I) I <| Z1 I (Z9 (v := (.bool (v8.2 == 35))) I I) I ?_
        have hif := of_if h
        refine AOps.split (fun hc => ?_) (fun hc => ?_)
        ·have h := hif.1 hc
         refine Zj I I I I (Z9 (v := (.sl 1 (v10.1.map Z8) false)) I I) I <| Zj I I I I (stx_buildSlice (vs := [(.int .i64 1), (.int .i64 2), (.int .i64 3), (.int .i64 4)]) (enc := Z8) (l := [1, 2, 3, 4]) I el29 I I ⟨rfl, rfl, rfl, rfl, trivial⟩ I els_i64 I I I I) I ?_
         have ⟨v22, hv22, h⟩ := of_bind h
         refine Zj I I I I (st_callB (rd := [(72, (.vec 1 (List.map Z8 [1, 2, 3, 4])))]) (ar := [(.sl 1 (v10.1.map Z8) false), (.vs 72)]) (caps := []) Try.call18 (F18_ok K v10.1 [1, 2, 3, 4] v22 hv22) I I ⟨rfl, rfl, trivial⟩ (subS_mem ⟨rfl, trivial⟩) I I I) I <| Z1 I (Zz (v := (.bool v22)) I I I) I <| Z1 I (Z9 (v := (.bool v22)) I I) I ?_
         have hif := of_if h
         refine AOps.split (fun hc => ?_) (fun hc => ?_)
         ·have h := hif.1 hc
          refine Zj I I I I (Z9 (v := (.int .i64 v10.2)) I I) I <| Zj I I I I (st_cmp (k := .i64) (a := v10.2) (b := 0) (c := (v10.2 == 0)) I I I I) I <| Z1 I (Zz (v := (.bool (v10.2 == 0))) I I I) I <| Z1 I (Zh (v := (.bool (v10.2 == 0))) I I) I <| Zb ?_
          exact Zl (st' := ⟨[(0, (.bool (v10.2 == 0)))], []⟩) ⟨rfl, trivial⟩ trivial (J12 (v10.2 == 0) h)
         ·have h := hif.2 hc
          refine Z5 I I I I I I I <| Z5 I I I I I I I <| Z1 I (Zx (v := (.bool false)) I I I) I <| Z1 I (Zh (v := (.bool false)) I I) I <| Zb ?_
          exact Zl (st' := ⟨[(0, (.bool false))], []⟩) ⟨rfl, trivial⟩ trivial (J12 false h)
        ·have h := hif.2 hc
         refine Z5 I I I I I I I <| Z5 I I I I I I I <| Z5 I I I I I I I <| Z1 I (Zx (v := (.bool false)) I I I) I <| Z1 I (Z9 (v := (.bool false)) I I) I <| Z5 I I I I I I I <| Z5 I I I I I I I <| Z1 I (Zx (v := (.bool false)) I I I) I ?_
         refine Z1 I (Zh (v := (.bool false)) I I) I <| Zb ?_
         exact Zl (st' := ⟨[(0, (.bool false))], []⟩) ⟨rfl, trivial⟩ trivial (J12 false h)
       ·have h := hif.2 hc
        refine Z5 I I I I I I I <| Z5 I I I I I I I <| Z1 I (Zx (v := (.bool false)) I I I) I <| Z1 I (Z9 (v := (.bool false)) I I) I <| Z5 I I I I I I I <| Z5 I I I I I I I <| Z5 I I I I I I I <| Z1 I (Zx (v := (.bool false)) I I I) I ?_
        refine Z1 I (Z9 (v := (.bool false)) I I) I <| Z5 I I I I I I I <| Z5 I I I I I I I <| Z1 I (Zx (v := (.bool false)) I I I) I <| Z1 I (Zh (v := (.bool false)) I I) I <| Zb ?_
        exact Zl (st' := ⟨[(0, (.bool false))], []⟩) ⟨rfl, trivial⟩ trivial (J12 false h)
      ·have h := hif.2 hc
       refine Z5 I I I I I I I <| Z1 I (Zx (v := (.bool false)) I I I) I <| Z1 I (Z9 (v := (.bool false)) I I) I <| Z5 I I I I I I I <| Z5 I I I I I I I <| Z1 I (Zx (v := (.bool false)) I I I) I <| Z1 I (Z9 (v := (.bool false)) I I) I <| Z5 I I I I I I I ?_
       refine Z5 I I I I I I I <| Z5 I I I I I I I <| Z1 I (Zx (v := (.bool false)) I I I) I <| Z1 I (Z9 (v := (.bool false)) I I) I <| Z5 I I I I I I I <| Z5 I I I I I I I <| Z1 I (Zx (v := (.bool false)) I I I) I <| Z1 I (Zh (v := (.bool false)) I I) I ?_
       refine Zb ?_
       exact Zl (st' := ⟨[(0, (.bool false))], []⟩) ⟨rfl, trivial⟩ trivial (J12 false h)
     ·have h := hif.2 hc
      refine Z5 I I I I I I I <| Z5 I I I I I I I <| Z5 I I I I I I I <| Z1 I (Zx (v := (.bool false)) I I I) I <| Z1 I (Z9 (v := (.bool false)) I I) I <| Z5 I I I I I I I <| Z1 I (Zx (v := (.bool false)) I I I) I <| Z1 I (Z9 (v := (.bool false)) I I) I ?_
      refine Z5 I I I I I I I <| Z5 I I I I I I I <| Z1 I (Zx (v := (.bool false)) I I I) I <| Z1 I (Z9 (v := (.bool false)) I I) I <| Z5 I I I I I I I <| Z5 I I I I I I I <| Z5 I I I I I I I <| Z1 I (Zx (v := (.bool false)) I I I) I ?_
      refine Z1 I (Z9 (v := (.bool false)) I I) I <| Z5 I I I I I I I <| Z5 I I I I I I I <| Z1 I (Zx (v := (.bool false)) I I I) I <| Z1 I (Zh (v := (.bool false)) I I) I <| Zb ?_
      exact Zl (st' := ⟨[(0, (.bool false))], []⟩) ⟨rfl, trivial⟩ trivial (J12 false h)
    ·have h := hif.2 hc
     refine Z5 I I I I I I I <| Z5 I I I I I I I <| Z5 I I I I I I I <| Z5 I I I I I I I <| Z5 I I I I I I I <| Z1 I (Zx (v := (.bool false)) I I I) I <| Z1 I (Z9 (v := (.bool false)) I I) I <| Z5 I I I I I I I ?_
     refine Z5 I I I I I I I <| Z5 I I I I I I I <| Z1 I (Zx (v := (.bool false)) I I I) I <| Z1 I (Z9 (v := (.bool false)) I I) I <| Z5 I I I I I I I <| Z1 I (Zx (v := (.bool false)) I I I) I <| Z1 I (Z9 (v := (.bool false)) I I) I <| Z5 I I I I I I I ?_
     refine Z5 I I I I I I I <| Z1 I (Zx (v := (.bool false)) I I I) I <| Z1 I (Z9 (v := (.bool false)) I I) I <| Z5 I I I I I I I <| Z5 I I I I I I I <| Z5 I I I I I I I <| Z1 I (Zx (v := (.bool false)) I I I) I <| Z1 I (Z9 (v := (.bool false)) I I) I ?_
     refine Z5 I I I I I I I <| Z5 I I I I I I I <| Z1 I (Zx (v := (.bool false)) I I I) I <| Z1 I (Zh (v := (.bool false)) I I) I <| Zb ?_
     exact Zl (st' := ⟨[(0, (.bool false))], []⟩) ⟨rfl, trivial⟩ trivial (J12 false h)
   ·have h := hif.2 hc
    refine Z5 I I I I I I I <| Z5 I I I I I I I <| Z5 I I I I I I I <| Z5 I I I I I I I <| Z5 I I I I I I I <| Z1 I (Zx (v := (.bool false)) I I I) I <| Z1 I (Z9 (v := (.bool false)) I I) I <| Z5 I I I I I I I ?_
    refine Z5 I I I I I I I <| Z5 I I I I I I I <| Z5 I I I I I I I <| Z5 I I I I I I I <| Z1 I (Zx (v := (.bool false)) I I I) I <| Z1 I (Z9 (v := (.bool false)) I I) I <| Z5 I I I I I I I <| Z5 I I I I I I I ?_
    refine Z5 I I I I I I I <| Z1 I (Zx (v := (.bool false)) I I I) I <| Z1 I (Z9 (v := (.bool false)) I I) I <| Z5 I I I I I I I <| Z1 I (Zx (v := (.bool false)) I I I) I <| Z1 I (Z9 (v := (.bool false)) I I) I <| Z5 I I I I I I I <| Z5 I I I I I I I ?_
    refine Z1 I (Zx (v := (.bool false)) I I I) I <| Z1 I (Z9 (v := (.bool false)) I I) I <| Z5 I I I I I I I <| Z5 I I I I I I I <| Z5 I I I I I I I <| Z1 I (Zx (v := (.bool false)) I I I) I <| Z1 I (Z9 (v := (.bool false)) I I) I <| Z5 I I I I I I I ?_
    refine Z5 I I I I I I I <| Z1 I (Zx (v := (.bool false)) I I I) I <| Z1 I (Zh (v := (.bool false)) I I) I <| Zb ?_
    exact Zl (st' := ⟨[(0, (.bool false))], []⟩) ⟨rfl, trivial⟩ trivial (J12 false h)
  ·have h := hif.2 hc
   refine Z5 I I I I I I I <| Z5 I I I I I I I <| Z5 I I I I I I I <| Z1 I (Zx (v := (.bool false)) I I I) I <| Z1 I (Z9 (v := (.bool false)) I I) I <| Z5 I I I I I I I <| Z5 I I I I I I I <| Z5 I I I I I I I ?_
   refine Z5 I I I I I I I <| Z5 I I I I I I I <| Z1 I (Zx (v := (.bool false)) I I I) I <| Z1 I (Z9 (v := (.bool false)) I I) I <| Z5 I I I I I I I <| Z5 I I I I I I I <| Z5 I I I I I I I <| Z5 I I I I I I I ?_
   refine Z5 I I I I I I I <| Z1 I (Zx (v := (.bool false)) I I I) I <| Z1 I (Z9 (v := (.bool false)) I I) I <| Z5 I I I I I I I <| Z5 I I I I I I I <| Z5 I I I I I I I <| Z1 I (Zx (v := (.bool false)) I I I) I <| Z1 I (Z9 (v := (.bool false)) I I) I ?_
   refine Z5 I I I I I I I <| Z1 I (Zx (v := (.bool false)) I I I) I <| Z1 I (Z9 (v := (.bool false)) I I) I <| Z5 I I I I I I I <| Z5 I I I I I I I <| Z1 I (Zx (v := (.bool false)) I I I) I <| Z1 I (Z9 (v := (.bool false)) I I) I <| Z5 I I I I I I I ?_
   refine Z5 I I I I I I I <| Z5 I I I I I I I <| Z1 I (Zx (v := (.bool false)) I I I) I <| Z1 I (Z9 (v := (.bool false)) I I) I <| Z5 I I I I I I I <| Z5 I I I I I I I <| Z1 I (Zx (v := (.bool false)) I I I) I <| Z1 I (Zh (v := (.bool false)) I I) I ?_
   refine Zb ?_
   exact Zl (st' := ⟨[(0, (.bool false))], []⟩) ⟨rfl, trivial⟩ trivial (J12 false h)
end Go.AM.Gra
