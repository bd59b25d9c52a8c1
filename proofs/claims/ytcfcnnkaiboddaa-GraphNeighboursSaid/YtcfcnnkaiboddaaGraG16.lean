/- What these functions compute, each with its walk: F28, F29, F6. -/
import Derived.Test.YtcfcnnkaiboddaaGraT
import Derived.Test.YtcfcnnkaiboddaaGraG0
import Derived.Test.YtcfcnnkaiboddaaGraG1
import Derived.Test.YtcfcnnkaiboddaaGraG2
import Derived.Test.YtcfcnnkaiboddaaGraG4
import Derived.Test.YtcfcnnkaiboddaaGraG7
namespace Go.AM.Gra
open Go Go.AM Go.Proofs
set_option maxRecDepth 100000
set_option maxHeartbeats 2000000
def F28_c5 (K : Nat) (v4 : (List Int)) : Option ((List Int)) :=
 some v4
def F28_j10 (K : Nat) (b7 : Int → (List Int) → Option ((List Int))) (v1 : Int) (v9 : (List Int)) : Option ((List Int)) :=
 b7 (IntKind.i64.wrap (v1 + 1)) v9
def F28_l3 (K : Nat) (a0 : Z7) (a1 : Int) (c6 : (List Int) → Option ((List Int))) : Nat → Int → (List Int) → Option ((List Int))
 | 0, _, _ => none
 | k3 + 1, v1, v2 =>
  if (decide (v1 < (a0.Edges.length : Int))) = true then
   if (0 : Int) ≤ v1 ∧ v1 < a0.Edges.length then
    if ((a0.Edges.getD v1.toNat Z2).From == a1) = true then
     if v2.length + [(a0.Edges.getD v1.toNat Z2).To].length ≤ 1073741824 then
      F28_j10 K (F28_l3 K a0 a1 c6 k3) v1 (v2 ++ [(a0.Edges.getD v1.toNat Z2).To])
     else none
    else
     F28_j10 K (F28_l3 K a0 a1 c6 k3) v1 v2
   else none
  else
   c6 v2
def F28 (K : Nat) (a0 : Z7) (a1 : Int) : Option ((List Int)) :=
 F28_l3 K a0 a1 (F28_c5 K) K 0 []
theorem F28_ok (K : Nat) (a0 : Z7) (a1 : Int) (r : (List Int)) (h : F28 K a0 a1 = some r) : ACall P 28 ⟨[(Z4 a0), (.int .i64 a1)], [], (.sl 1 (r.map Z9) false), [], []⟩ := by
 refine acall_of Try.func28 Try.results28 rfl Try.ntmps28 rfl rfl rfl ?_
 intro E Q hP hN hro hret
 obtain ⟨P', nt', w0, F0, p0, S0, β0, ro0⟩ := E
 simp only at hP hN
 subst hP hN
 dsimp only [argT]
 unfold F28 at h
 refine Zd <| Z5 <| Z1 I (st_box (v := (Z4 a0)) (cs := (Z4 a0).cells) I I I I I) I <| Z1 I (Zg (v := (.sl 1 [] false)) I I) I <| Z8 <| Zc <| Zd <| Z5 ?_
 refine Z1 I (Zg (v := (.sl 1 [] true)) I I) I <| Z8 <| Zc <| Zd <| Zd <| Z5 <| Z1 I (Zt (m := 2) (o := 0) I f35_1 I I) I <| Z1 I (Zq (cs := (Z4 a0).cells) (v := (.sl 2 (a0.Edges.map Z3) false)) I o33 I I I) I ?_
 refine Z1 I (stx_len (l := a0.Edges) (enc := Z3) I s33 I) I <| Z1 I (Za (v := (.int .i64 0)) I I) I <| Z8 <| Zc <| AWp.ghost (st' := ⟨[(1, (.int .i64 a1)), (5, (.vs 5)), (9, (.sl 2 (a0.Edges.map Z3) false)), (10, (.int .i64 (a0.Edges.length : Int))), (11, (.int .i64 0))], [(5, (.vec 1 (List.map Z9 ([] : List Int))))]⟩) (fun a w h => (Zo ⟨[(1, (.int .i64 a1)), (5, (.vs 5)), (9, (.sl 2 (a0.Edges.map Z3) false)), (10, (.int .i64 (a0.Edges.length : Int))), (11, (.int .i64 0))], [(5, (.vec 1 (List.map Z9 ([] : List Int))))]⟩ (ghost_own (k := 5) (m := 5) (sz := 1) I I a w (Zo ⟨[(5, (.sl 1 [] true)), (1, (.int .i64 a1)), (9, (.sl 2 (a0.Edges.map Z3) false)), (10, (.int .i64 (a0.Edges.length : Int))), (11, (.int .i64 0))], []⟩ h ⟨rfl, rfl, rfl, rfl, rfl, trivial⟩ trivial)) ⟨rfl, rfl, rfl, rfl, rfl, trivial⟩ ⟨rfl, trivial⟩)) <| AWp.weaken (st' := ⟨[(1, (.int .i64 a1)), (5, (.vs 5)), (9, (.sl 2 (a0.Edges.map Z3) false)), (10, (.int .i64 (a0.Edges.length : Int))), (11, (.int .i64 0))], [(5, (.vec 1 (List.map Z9 [])))]⟩) ⟨rfl, rfl, rfl, rfl, rfl, trivial⟩ ⟨rfl, trivial⟩ ?_
 refine Zr (V := Int × (List Int)) (X := (List Int)) (lp := fun k v => F28_l3 K a0 a1 (F28_c5 K) k v.1 v.2 = some r) (sh := fun v => ⟨[(1, (.int .i64 a1)), (5, (.vs 5)), (9, (.sl 2 (a0.Edges.map Z3) false)), (10, (.int .i64 (a0.Edges.length : Int))), (11, (.int .i64 v.1))], [(5, (.vec 1 (List.map Z9 v.2)))]⟩) (x := fun v => F28_c5 K v = some r) (shx := fun v => ⟨[(5, (.vs 5))], [(5, (.vec 1 (List.map Z9 v)))]⟩) (k := K) (v := (0, [])) h ?_ ?_
 ·intro v h
  revert h
  revert v
  intro v4 h
  try dsimp only at h ⊢
  unfold F28_c5 at h
  refine Zc <| Zd <| Z5 <| Z1 I (Za (v := (.vs 5)) I I) I <| Z1 I (Zg (v := (.vs 5)) I I) I <| Z8 <| Zc <| AWp.ret ?_
  refine At.ghost (st' := ⟨[(4, (.sl 1 (v4.map Z9) false))], []⟩) (fun a w h => (Zo ⟨[(4, (.sl 1 (v4.map Z9) false))], []⟩ (ghost_freeze (m := 5) (sz := 1) (es := (List.map Z9 v4)) a w (Zo ⟨[(4, (.vs 5))], [(5, (.vec 1 (List.map Z9 v4)))]⟩ h ⟨rfl, trivial⟩ ⟨rfl, trivial⟩)) ⟨rfl, trivial⟩ trivial)) ?_
  have h := Option.some.inj h
  subst h
  refine (hret _ ?_).1
  exact ⟨[(.sl 1 (v4.map Z9) false)], ⟨rfl, trivial⟩, rfl, trivial⟩
 ·intro N k3 v h IH3 J3
  obtain ⟨v1, v2⟩ := v
  try dsimp only at h IH3 J3 ⊢
  cases k3 with
  | zero => cases h
  | succ k3 =>
   rw [F28_l3] at h
   refine Zd <| Z5 <| Z1 I (st_cmp (k := .i64) (a := v1) (b := (a0.Edges.length : Int)) (c := (decide (v1 < (a0.Edges.length : Int)))) I I I I) I <| Z8 <| Zc <| Zd ?_
   have hif := of_if h
   refine Zp I (fun hc => ?_) (fun hc => ?_)
   ·have h := hif.1 hc
    refine Zs <| Zc <| Zd <| AWp.block <| Zd <| Z5 ?_
    have ⟨hg8, h⟩ := Zh h
    refine Z1 I (st_index (k := .i64) (l := a0.Edges) (enc := Z3) (z := Z2) (n := v1) (cs := (Z3 (a0.Edges.getD v1.toNat Z2)).cells) (full := false) I s33 I I hg8 I) I <| Z1 I (st_loadIA (cs := (Z3 (a0.Edges.getD v1.toNat Z2)).cells) (vs := (Z3 (a0.Edges.getD v1.toNat Z2)).cells) I a64 I I I) I <| Z1 I (st_alloc (cs := [(.int .i64 0), (.int .i64 0)]) I z64 I I I) I <| Z1 I (st_storeP (cs := [(.int .i64 0), (.int .i64 0)]) (vs := (Z3 (a0.Edges.getD v1.toNat Z2)).cells) (ds := (Z3 (a0.Edges.getD v1.toNat Z2)).cells) (v := (Z3 (a0.Edges.getD v1.toNat Z2))) sz64 I I I I I I I I) I <| Z8 <| Zc <| Zd <| Z5 ?_
    refine Z1 I (Zt (m := 7) (o := 0) I f64_0 I I) I <| Z1 I (Zq (cs := (Z3 (a0.Edges.getD v1.toNat Z2)).cells) (v := (.int .i64 (a0.Edges.getD v1.toNat Z2).From)) I o3 I I I) I <| Z1 I (Za (v := (.int .i64 a1)) I I) I <| Z1 I (st_cmp (k := .i64) (a := (a0.Edges.getD v1.toNat Z2).From) (b := a1) (c := ((a0.Edges.getD v1.toNat Z2).From == a1)) I I I I) I <| Z8 <| Zc ?_
    refine AWp.join (V := (List Int)) (lp := fun v => F28_j10 K (F28_l3 K a0 a1 (F28_c5 K) k3) v1 v = some r) (sh := fun v => ⟨[(1, (.int .i64 a1)), (5, (.vs 5)), (9, (.sl 2 (a0.Edges.map Z3) false)), (10, (.int .i64 (a0.Edges.length : Int))), (11, (.int .i64 v1))], [(5, (.vec 1 (List.map Z9 v)))]⟩) ?_ ?_
    ·intro v h
     revert h
     revert v
     intro v9 h
     try dsimp only at h ⊢
     unfold F28_j10 at h
     refine At.end <| Zc <| Z5 <| Z1 I (st_arith (k := .i64) (a := v1) (b := 1) (c := (IntKind.i64.wrap (v1 + 1))) I I I I) I <| Z1 I (Za (v := (.int .i64 (IntKind.i64.wrap (v1 + 1)))) I I) I <| Z8 ?_
     exact Zj (st' := ⟨[(1, (.int .i64 a1)), (5, (.vs 5)), (9, (.sl 2 (a0.Edges.map Z3) false)), (10, (.int .i64 (a0.Edges.length : Int))), (11, (.int .i64 (IntKind.i64.wrap (v1 + 1))))], [(5, (.vec 1 (List.map Z9 v9)))]⟩) ⟨rfl, rfl, rfl, rfl, rfl, trivial⟩ ⟨rfl, trivial⟩ (IH3 _ ((IntKind.i64.wrap (v1 + 1)), v9) (Nat.lt_succ_self _) h)
    ·intro J10
     have hif := of_if h
     refine Zp I (fun hc => ?_) (fun hc => ?_)
     ·have h := hif.1 hc
      refine Z5 <| Z1 I (Za (v := (.vs 5)) I I) I <| Z1 I (Zt (m := 7) (o := 0) I f64_1 I I) I <| Z1 I (Zq (cs := (Z3 (a0.Edges.getD v1.toNat Z2)).cells) (v := (.int .i64 (a0.Edges.getD v1.toNat Z2).To)) I o3 I I I) I <| Z1 I (stx_buildSlice (vs := [(.int .i64 (a0.Edges.getD v1.toNat Z2).To)]) (enc := Z9) (l := [(a0.Edges.getD v1.toNat Z2).To]) I el29 I I ⟨rfl, trivial⟩ I els_i64 I I I I) I ?_
      have ⟨hg11, h⟩ := Zh h
      refine Z1 I (st_append (m := 5) (enc := Z9) (l := v2) (l' := [(a0.Edges.getD v1.toNat Z2).To]) (src := (.vs 22)) (rd := [(22, (.vec 1 (List.map Z9 [(a0.Edges.getD v1.toNat Z2).To])))]) I I el29 I u29 I I I I (oneRead I) els_i64 hg11) I <| Z1 I (Zg (v := (.vs 5)) I I) I <| Z8 ?_
      exact Zj (st' := ⟨[(1, (.int .i64 a1)), (5, (.vs 5)), (9, (.sl 2 (a0.Edges.map Z3) false)), (10, (.int .i64 (a0.Edges.length : Int))), (11, (.int .i64 v1))], [(5, (.vec 1 (List.map Z9 (v2 ++ [(a0.Edges.getD v1.toNat Z2).To]))))]⟩) ⟨rfl, rfl, rfl, rfl, rfl, trivial⟩ ⟨rfl, trivial⟩ (J10 (v2 ++ [(a0.Edges.getD v1.toNat Z2).To]) h)
     ·have h := hif.2 hc
      refine Zs ?_
      exact Zj (st' := ⟨[(1, (.int .i64 a1)), (5, (.vs 5)), (9, (.sl 2 (a0.Edges.map Z3) false)), (10, (.int .i64 (a0.Edges.length : Int))), (11, (.int .i64 v1))], [(5, (.vec 1 (List.map Z9 v2)))]⟩) ⟨rfl, rfl, rfl, rfl, rfl, trivial⟩ ⟨rfl, trivial⟩ (J10 v2 h)
   ·have h := hif.2 hc
    refine AWp.exit <| At.thru ?_
    exact Zj (st' := ⟨[(5, (.vs 5))], [(5, (.vec 1 (List.map Z9 v2)))]⟩) ⟨rfl, trivial⟩ ⟨rfl, trivial⟩ (J3 v2 h)
def F29_c5 (K : Nat) (v4 : (List Int)) : Option ((List Int)) :=
 some v4
def F29_j10 (K : Nat) (b7 : Int → (List Int) → Option ((List Int))) (v1 : Int) (v9 : (List Int)) : Option ((List Int)) :=
 b7 (IntKind.i64.wrap (v1 + 1)) v9
def F29_l3 (K : Nat) (a0 : Z7) (a1 : Int) (c6 : (List Int) → Option ((List Int))) : Nat → Int → (List Int) → Option ((List Int))
 | 0, _, _ => none
 | k3 + 1, v1, v2 =>
  if (decide (v1 < (a0.Edges.length : Int))) = true then
   if (0 : Int) ≤ v1 ∧ v1 < a0.Edges.length then
    if ((a0.Edges.getD v1.toNat Z2).To == a1) = true then
     if v2.length + [(a0.Edges.getD v1.toNat Z2).From].length ≤ 1073741824 then
      F29_j10 K (F29_l3 K a0 a1 c6 k3) v1 (v2 ++ [(a0.Edges.getD v1.toNat Z2).From])
     else none
    else
     F29_j10 K (F29_l3 K a0 a1 c6 k3) v1 v2
   else none
  else
   c6 v2
def F29 (K : Nat) (a0 : Z7) (a1 : Int) : Option ((List Int)) :=
 F29_l3 K a0 a1 (F29_c5 K) K 0 []
theorem F29_ok (K : Nat) (a0 : Z7) (a1 : Int) (r : (List Int)) (h : F29 K a0 a1 = some r) : ACall P 29 ⟨[(Z4 a0), (.int .i64 a1)], [], (.sl 1 (r.map Z9) false), [], []⟩ := by
 refine acall_of Try.func29 Try.results29 rfl Try.ntmps29 rfl rfl rfl ?_
 intro E Q hP hN hro hret
 obtain ⟨P', nt', w0, F0, p0, S0, β0, ro0⟩ := E
 simp only at hP hN
 subst hP hN
 dsimp only [argT]
 unfold F29 at h
 refine Zd <| Z5 <| Z1 I (st_box (v := (Z4 a0)) (cs := (Z4 a0).cells) I I I I I) I <| Z1 I (Zg (v := (.sl 1 [] false)) I I) I <| Z8 <| Zc <| Zd <| Z5 ?_
 refine Z1 I (Zg (v := (.sl 1 [] true)) I I) I <| Z8 <| Zc <| Zd <| Zd <| Z5 <| Z1 I (Zt (m := 2) (o := 0) I f35_1 I I) I <| Z1 I (Zq (cs := (Z4 a0).cells) (v := (.sl 2 (a0.Edges.map Z3) false)) I o33 I I I) I ?_
 refine Z1 I (stx_len (l := a0.Edges) (enc := Z3) I s33 I) I <| Z1 I (Za (v := (.int .i64 0)) I I) I <| Z8 <| Zc <| AWp.ghost (st' := ⟨[(1, (.int .i64 a1)), (5, (.vs 5)), (9, (.sl 2 (a0.Edges.map Z3) false)), (10, (.int .i64 (a0.Edges.length : Int))), (11, (.int .i64 0))], [(5, (.vec 1 (List.map Z9 ([] : List Int))))]⟩) (fun a w h => (Zo ⟨[(1, (.int .i64 a1)), (5, (.vs 5)), (9, (.sl 2 (a0.Edges.map Z3) false)), (10, (.int .i64 (a0.Edges.length : Int))), (11, (.int .i64 0))], [(5, (.vec 1 (List.map Z9 ([] : List Int))))]⟩ (ghost_own (k := 5) (m := 5) (sz := 1) I I a w (Zo ⟨[(5, (.sl 1 [] true)), (1, (.int .i64 a1)), (9, (.sl 2 (a0.Edges.map Z3) false)), (10, (.int .i64 (a0.Edges.length : Int))), (11, (.int .i64 0))], []⟩ h ⟨rfl, rfl, rfl, rfl, rfl, trivial⟩ trivial)) ⟨rfl, rfl, rfl, rfl, rfl, trivial⟩ ⟨rfl, trivial⟩)) <| AWp.weaken (st' := ⟨[(1, (.int .i64 a1)), (5, (.vs 5)), (9, (.sl 2 (a0.Edges.map Z3) false)), (10, (.int .i64 (a0.Edges.length : Int))), (11, (.int .i64 0))], [(5, (.vec 1 (List.map Z9 [])))]⟩) ⟨rfl, rfl, rfl, rfl, rfl, trivial⟩ ⟨rfl, trivial⟩ ?_
 refine Zr (V := Int × (List Int)) (X := (List Int)) (lp := fun k v => F29_l3 K a0 a1 (F29_c5 K) k v.1 v.2 = some r) (sh := fun v => ⟨[(1, (.int .i64 a1)), (5, (.vs 5)), (9, (.sl 2 (a0.Edges.map Z3) false)), (10, (.int .i64 (a0.Edges.length : Int))), (11, (.int .i64 v.1))], [(5, (.vec 1 (List.map Z9 v.2)))]⟩) (x := fun v => F29_c5 K v = some r) (shx := fun v => ⟨[(5, (.vs 5))], [(5, (.vec 1 (List.map Z9 v)))]⟩) (k := K) (v := (0, [])) h ?_ ?_
 ·intro v h
  revert h
  revert v
  intro v4 h
  try dsimp only at h ⊢
  unfold F29_c5 at h
  refine Zc <| Zd <| Z5 <| Z1 I (Za (v := (.vs 5)) I I) I <| Z1 I (Zg (v := (.vs 5)) I I) I <| Z8 <| Zc <| AWp.ret ?_
  refine At.ghost (st' := ⟨[(4, (.sl 1 (v4.map Z9) false))], []⟩) (fun a w h => (Zo ⟨[(4, (.sl 1 (v4.map Z9) false))], []⟩ (ghost_freeze (m := 5) (sz := 1) (es := (List.map Z9 v4)) a w (Zo ⟨[(4, (.vs 5))], [(5, (.vec 1 (List.map Z9 v4)))]⟩ h ⟨rfl, trivial⟩ ⟨rfl, trivial⟩)) ⟨rfl, trivial⟩ trivial)) ?_
  have h := Option.some.inj h
  subst h
  refine (hret _ ?_).1
  exact ⟨[(.sl 1 (v4.map Z9) false)], ⟨rfl, trivial⟩, rfl, trivial⟩
 ·intro N k3 v h IH3 J3
  obtain ⟨v1, v2⟩ := v
  try dsimp only at h IH3 J3 ⊢
  cases k3 with
  | zero => cases h
  | succ k3 =>
   rw [F29_l3] at h
   refine Zd <| Z5 <| Z1 I (st_cmp (k := .i64) (a := v1) (b := (a0.Edges.length : Int)) (c := (decide (v1 < (a0.Edges.length : Int)))) I I I I) I <| Z8 <| Zc <| Zd ?_
   have hif := of_if h
   refine Zp I (fun hc => ?_) (fun hc => ?_)
   ·have h := hif.1 hc
    refine Zs <| Zc <| Zd <| AWp.block <| Zd <| Z5 ?_
    have ⟨hg8, h⟩ := Zh h
    refine Z1 I (st_index (k := .i64) (l := a0.Edges) (enc := Z3) (z := Z2) (n := v1) (cs := (Z3 (a0.Edges.getD v1.toNat Z2)).cells) (full := false) I s33 I I hg8 I) I <| Z1 I (st_loadIA (cs := (Z3 (a0.Edges.getD v1.toNat Z2)).cells) (vs := (Z3 (a0.Edges.getD v1.toNat Z2)).cells) I a64 I I I) I <| Z1 I (st_alloc (cs := [(.int .i64 0), (.int .i64 0)]) I z64 I I I) I <| Z1 I (st_storeP (cs := [(.int .i64 0), (.int .i64 0)]) (vs := (Z3 (a0.Edges.getD v1.toNat Z2)).cells) (ds := (Z3 (a0.Edges.getD v1.toNat Z2)).cells) (v := (Z3 (a0.Edges.getD v1.toNat Z2))) sz64 I I I I I I I I) I <| Z8 <| Zc <| Zd <| Z5 ?_
    refine Z1 I (Zt (m := 7) (o := 0) I f64_1 I I) I <| Z1 I (Zq (cs := (Z3 (a0.Edges.getD v1.toNat Z2)).cells) (v := (.int .i64 (a0.Edges.getD v1.toNat Z2).To)) I o3 I I I) I <| Z1 I (Za (v := (.int .i64 a1)) I I) I <| Z1 I (st_cmp (k := .i64) (a := (a0.Edges.getD v1.toNat Z2).To) (b := a1) (c := ((a0.Edges.getD v1.toNat Z2).To == a1)) I I I I) I <| Z8 <| Zc ?_
    refine AWp.join (V := (List Int)) (lp := fun v => F29_j10 K (F29_l3 K a0 a1 (F29_c5 K) k3) v1 v = some r) (sh := fun v => ⟨[(1, (.int .i64 a1)), (5, (.vs 5)), (9, (.sl 2 (a0.Edges.map Z3) false)), (10, (.int .i64 (a0.Edges.length : Int))), (11, (.int .i64 v1))], [(5, (.vec 1 (List.map Z9 v)))]⟩) ?_ ?_
    ·intro v h
     revert h
     revert v
     intro v9 h
     try dsimp only at h ⊢
     unfold F29_j10 at h
     refine At.end <| Zc <| Z5 <| Z1 I (st_arith (k := .i64) (a := v1) (b := 1) (c := (IntKind.i64.wrap (v1 + 1))) I I I I) I <| Z1 I (Za (v := (.int .i64 (IntKind.i64.wrap (v1 + 1)))) I I) I <| Z8 ?_
     exact Zj (st' := ⟨[(1, (.int .i64 a1)), (5, (.vs 5)), (9, (.sl 2 (a0.Edges.map Z3) false)), (10, (.int .i64 (a0.Edges.length : Int))), (11, (.int .i64 (IntKind.i64.wrap (v1 + 1))))], [(5, (.vec 1 (List.map Z9 v9)))]⟩) ⟨rfl, rfl, rfl, rfl, rfl, trivial⟩ ⟨rfl, trivial⟩ (IH3 _ ((IntKind.i64.wrap (v1 + 1)), v9) (Nat.lt_succ_self _) h)
    ·intro J10
     have hif := of_if h
     refine Zp I (fun hc => ?_) (fun hc => ?_)
     ·have h := hif.1 hc
      refine Z5 <| Z1 I (Za (v := (.vs 5)) I I) I <| Z1 I (Zt (m := 7) (o := 0) I f64_0 I I) I <| Z1 I (Zq (cs := (Z3 (a0.Edges.getD v1.toNat Z2)).cells) (v := (.int .i64 (a0.Edges.getD v1.toNat Z2).From)) I o3 I I I) I <| Z1 I (stx_buildSlice (vs := [(.int .i64 (a0.Edges.getD v1.toNat Z2).From)]) (enc := Z9) (l := [(a0.Edges.getD v1.toNat Z2).From]) I el29 I I ⟨rfl, trivial⟩ I els_i64 I I I I) I ?_
      have ⟨hg11, h⟩ := Zh h
      refine Z1 I (st_append (m := 5) (enc := Z9) (l := v2) (l' := [(a0.Edges.getD v1.toNat Z2).From]) (src := (.vs 22)) (rd := [(22, (.vec 1 (List.map Z9 [(a0.Edges.getD v1.toNat Z2).From])))]) I I el29 I u29 I I I I (oneRead I) els_i64 hg11) I <| Z1 I (Zg (v := (.vs 5)) I I) I <| Z8 ?_
      exact Zj (st' := ⟨[(1, (.int .i64 a1)), (5, (.vs 5)), (9, (.sl 2 (a0.Edges.map Z3) false)), (10, (.int .i64 (a0.Edges.length : Int))), (11, (.int .i64 v1))], [(5, (.vec 1 (List.map Z9 (v2 ++ [(a0.Edges.getD v1.toNat Z2).From]))))]⟩) ⟨rfl, rfl, rfl, rfl, rfl, trivial⟩ ⟨rfl, trivial⟩ (J10 (v2 ++ [(a0.Edges.getD v1.toNat Z2).From]) h)
     ·have h := hif.2 hc
      refine Zs ?_
      exact Zj (st' := ⟨[(1, (.int .i64 a1)), (5, (.vs 5)), (9, (.sl 2 (a0.Edges.map Z3) false)), (10, (.int .i64 (a0.Edges.length : Int))), (11, (.int .i64 v1))], [(5, (.vec 1 (List.map Z9 v2)))]⟩) ⟨rfl, rfl, rfl, rfl, rfl, trivial⟩ ⟨rfl, trivial⟩ (J10 v2 h)
   ·have h := hif.2 hc
    refine AWp.exit <| At.thru ?_
    exact Zj (st' := ⟨[(5, (.vs 5))], [(5, (.vec 1 (List.map Z9 v2)))]⟩) ⟨rfl, trivial⟩ ⟨rfl, trivial⟩ (J3 v2 h)
def F6_j16 (K : Nat) (v15 : Bool) : Option (Bool) :=
 some v15
def F6_c13 (K : Nat) (v6 : Z7) (a1 : Int) (v4 : (List (List Bool))) (v11 : (List Int)) (v12 : (List Int)) : Option (Bool) :=
 (F28 K v6 a1).bind fun v18 =>
  (F18 K v18 v11).bind fun v20 =>
   if v20 = true then
    (F29 K v6 a1).bind fun v22 =>
     (F18 K v22 v12).bind fun v24 =>
      if v24 = true then
       (F30 K v6).bind fun v26 =>
        (F31 K v4).bind fun v28 =>
         (F16 K v28).bind fun v30 =>
          (F27 K v26 v30).bind fun v32 =>
           F6_j16 K v32
      else
       F6_j16 K false
   else
    F6_j16 K false
def F6_j43 (K : Nat) (b33 : Int → (List Int) → (List Int) → Option (Bool)) (v7 : Int) (v38 : (List Int)) (v42 : (List Int)) : Option (Bool) :=
 b33 (IntKind.i64.wrap (v7 + 1)) v38 v42
def F6_j39 (K : Nat) (v7 : Int) (v4 : (List (List Bool))) (a1 : Int) (v9 : (List Int)) (b33 : Int → (List Int) → (List Int) → Option (Bool)) (v38 : (List Int)) : Option (Bool) :=
 if (0 : Int) ≤ v7 ∧ v7 < v4.length then
  if (0 : Int) ≤ a1 ∧ a1 < (v4.getD v7.toNat []).length then
   if ((v4.getD v7.toNat []).getD a1.toNat false) = true then
    if v9.length + [v7].length ≤ 1073741824 then
     F6_j43 K b33 v7 v38 (v9 ++ [v7])
    else none
   else
    F6_j43 K b33 v7 v38 v9
  else none
 else none
def F6_j35 (K : Nat) (a1 : Int) (v4 : (List (List Bool))) (v7 : Int) (v8 : (List Int)) (v9 : (List Int)) (b33 : Int → (List Int) → (List Int) → Option (Bool)) (c14 : (List Int) → (List Int) → Option (Bool)) (v34 : Bool) : Option (Bool) :=
 if v34 = true then
  if (0 : Int) ≤ a1 ∧ a1 < v4.length then
   if (0 : Int) ≤ v7 ∧ v7 < (v4.getD a1.toNat []).length then
    if ((v4.getD a1.toNat []).getD v7.toNat false) = true then
     if v8.length + [v7].length ≤ 1073741824 then
      F6_j39 K v7 v4 a1 v9 b33 (v8 ++ [v7])
     else none
    else
     F6_j39 K v7 v4 a1 v9 b33 v8
   else none
  else none
 else
  c14 v8 v9
def F6_l10 (K : Nat) (v4 : (List (List Bool))) (a1 : Int) (c14 : (List Int) → (List Int) → Option (Bool)) : Nat → Int → (List Int) → (List Int) → Option (Bool)
 | 0, _, _, _ => none
 | k10 + 1, v7, v8, v9 =>
  if (decide (v7 < (v4.length : Int))) = true then
   if (decide (a1 ≥ 0)) = true then
    F6_j35 K a1 v4 v7 v8 v9 (F6_l10 K v4 a1 c14 k10) c14 (decide (a1 < (v4.length : Int)))
   else
    F6_j35 K a1 v4 v7 v8 v9 (F6_l10 K v4 a1 c14 k10) c14 false
  else
   F6_j35 K a1 v4 v7 v8 v9 (F6_l10 K v4 a1 c14 k10) c14 false
def F6 (K : Nat) (a0 : Zu) (a1 : Int) : Option (Bool) :=
 (F13 K).bind fun v2 =>
  if (!v2) = true then
   some false
  else
   (F14 K a0).bind fun v4 =>
    (F16 K v4).bind fun v6 =>
     F6_l10 K v4 a1 (F6_c13 K v6 a1 v4) K 0 [] []
theorem F6_ok (K : Nat) (a0 : Zu) (a1 : Int) (r : Bool) (h : F6 K a0 a1 = some r) : ACall P 6 ⟨[(Zl a0), (.int .i64 a1)], [], (.bool r), [], []⟩ := by
 refine acall_of Try.func6 Try.results6 rfl Try.ntmps6 rfl rfl rfl ?_
 intro E Q hP hN hro hret
 obtain ⟨P', nt', w0, F0, p0, S0, β0, ro0⟩ := E
 simp only at hP hN
 subst hP hN
 dsimp only [argT]
 unfold F6 at h
 refine Zd <| Z5 <| Z1 I (st_box (v := (Zl a0)) (cs := (Zl a0).cells) I I I I I) I <| Z1 I (Zg (v := (.bool false)) I I) I <| Z8 <| Zc <| Zd <| Zd ?_
 refine Z5 ?_
 have ⟨v2, hv2, h⟩ := of_bind h
 refine Z1 I (st_call0 (ar := []) (caps := []) Try.call13 (F13_ok K v2 hv2) I I trivial I) I <| Z1 I (st_not (b := v2) I I) I <| Z8 <| Zc ?_
 have hif := of_if h
 refine Zp I (fun hc => ?_) (fun hc => ?_)
 ·have h := hif.1 hc
  refine Zd <| Z5 <| Z1 I (Zg (v := (.bool false)) I I) I <| Z8 <| Zc <| AWp.ret <| At.thruR ?_
  have h := Option.some.inj h
  subst h
  refine (hret _ ?_).1
  exact ⟨[(.bool false)], ⟨rfl, trivial⟩, rfl, trivial⟩
 ·have h := hif.2 hc
  refine Zs <| Zc <| Zd <| Z5 <| Z1 I (st_loadPA (cs := (Zl a0).cells) (vs := (Zl a0).cells) I a24 I I I I) I ?_
  have ⟨v4, hv4, h⟩ := of_bind h
  refine Z1 I (st_call0 (ar := [(Zl a0)]) (caps := []) Try.call14 (F14_ok K a0 v4 hv4) I I ⟨rfl, trivial⟩ I) I <| Z1 I (Zg (v := (.sl 1 (v4.map Zn) false)) I I) I <| Z8 <| Zc <| Zd <| Z5 <| Z1 I (Za (v := (.sl 1 (v4.map Zn) false)) I I) I ?_
  have ⟨v6, hv6, h⟩ := of_bind h
  refine Z1 I (st_call0 (ar := [(.sl 1 (v4.map Zn) false)]) (caps := []) Try.call16 (F16_ok K v4 v6 hv6) I I ⟨rfl, trivial⟩ I) I <| Z1 I (st_alloc (cs := [(.int .i64 0), (.sl 2 [] false)]) I z35 I I I) I <| Z1 I (st_storeP (cs := [(.int .i64 0), (.sl 2 [] false)]) (vs := (Z4 v6).cells) (ds := (Z4 v6).cells) (v := (Z4 v6)) sz35 I I I I I I I I) I <| Z8 <| Zc <| Zd <| Z5 <| Z1 I (Zg (v := (.sl 1 [] true)) I I) I ?_
  refine Z1 I (Zg (v := (.sl 1 [] true)) I I) I <| Z8 <| Zc <| Zd <| Zd <| Z5 <| Z1 I (Zg (v := (.int .i64 0)) I I) I <| Z8 ?_
  refine Zc <| AWp.ghost (st' := ⟨[(1, (.int .i64 a1)), (5, (.sl 1 (v4.map Zn) false)), (6, (.ptr 6 0)), (7, (.vs 7)), (8, (.vs 8)), (9, (.int .i64 0))], [(6, (.box (Z4 v6).cells)), (7, (.vec 1 (List.map Z9 ([] : List Int)))), (8, (.vec 1 (List.map Z9 ([] : List Int))))]⟩) (fun a w h => (Zo ⟨[(1, (.int .i64 a1)), (5, (.sl 1 (v4.map Zn) false)), (6, (.ptr 6 0)), (7, (.vs 7)), (8, (.vs 8)), (9, (.int .i64 0))], [(6, (.box (Z4 v6).cells)), (7, (.vec 1 (List.map Z9 ([] : List Int)))), (8, (.vec 1 (List.map Z9 ([] : List Int))))]⟩ (ghost_own (k := 8) (m := 8) (sz := 1) I I a w (Zo ⟨[(8, (.sl 1 [] true)), (1, (.int .i64 a1)), (5, (.sl 1 (v4.map Zn) false)), (6, (.ptr 6 0)), (7, (.vs 7)), (9, (.int .i64 0))], [(6, (.box (Z4 v6).cells)), (7, (.vec 1 (List.map Z9 ([] : List Int))))]⟩ (Zo ⟨[(1, (.int .i64 a1)), (5, (.sl 1 (v4.map Zn) false)), (6, (.ptr 6 0)), (7, (.vs 7)), (8, (.sl 1 [] true)), (9, (.int .i64 0))], [(6, (.box (Z4 v6).cells)), (7, (.vec 1 (List.map Z9 ([] : List Int))))]⟩ (ghost_own (k := 7) (m := 7) (sz := 1) I I a w (Zo ⟨[(7, (.sl 1 [] true)), (1, (.int .i64 a1)), (5, (.sl 1 (v4.map Zn) false)), (6, (.ptr 6 0)), (8, (.sl 1 [] true)), (9, (.int .i64 0))], [(6, (.box (Z4 v6).cells))]⟩ h ⟨rfl, rfl, rfl, rfl, rfl, rfl, trivial⟩ ⟨rfl, trivial⟩)) ⟨rfl, rfl, rfl, rfl, rfl, rfl, trivial⟩ ⟨rfl, rfl, trivial⟩) ⟨rfl, rfl, rfl, rfl, rfl, rfl, trivial⟩ ⟨rfl, rfl, trivial⟩)) ⟨rfl, rfl, rfl, rfl, rfl, rfl, trivial⟩ ⟨rfl, rfl, rfl, trivial⟩)) <| AWp.weaken (st' := ⟨[(1, (.int .i64 a1)), (5, (.sl 1 (v4.map Zn) false)), (6, (.ptr 6 0)), (7, (.vs 7)), (8, (.vs 8)), (9, (.int .i64 0))], [(6, (.box (Z4 v6).cells)), (7, (.vec 1 (List.map Z9 []))), (8, (.vec 1 (List.map Z9 [])))]⟩) ⟨rfl, rfl, rfl, rfl, rfl, rfl, trivial⟩ ⟨rfl, rfl, rfl, trivial⟩ ?_
  refine Zr (V := Int × (List Int) × (List Int)) (X := (List Int) × (List Int)) (lp := fun k v => F6_l10 K v4 a1 (F6_c13 K v6 a1 v4) k v.1 v.2.1 v.2.2 = some r) (sh := fun v => ⟨[(1, (.int .i64 a1)), (5, (.sl 1 (v4.map Zn) false)), (6, (.ptr 6 0)), (7, (.vs 7)), (8, (.vs 8)), (9, (.int .i64 v.1))], [(6, (.box (Z4 v6).cells)), (7, (.vec 1 (List.map Z9 v.2.1))), (8, (.vec 1 (List.map Z9 v.2.2)))]⟩) (x := fun v => F6_c13 K v6 a1 v4 v.1 v.2 = some r) (shx := fun v => ⟨[(1, (.int .i64 a1)), (5, (.sl 1 (v4.map Zn) false)), (6, (.ptr 6 0)), (7, (.vs 7)), (8, (.vs 8))], [(6, (.box (Z4 v6).cells)), (7, (.vec 1 (List.map Z9 v.1))), (8, (.vec 1 (List.map Z9 v.2)))]⟩) (k := K) (v := (0, [], [])) h ?_ ?_
  ·intro v h
   obtain ⟨v11, v12⟩ := v
   try dsimp only at h ⊢
   unfold F6_c13 at h
   refine Zc <| Zd ?_
   refine AWp.join (V := Bool) (lp := fun v => F6_j16 K v = some r) (sh := fun v => ⟨[(4, (.bool v))], []⟩) ?_ ?_
   ·intro v h
    revert h
    revert v
    intro v15 h
    try dsimp only at h ⊢
    unfold F6_j16 at h
    refine Zc <| AWp.ret ?_
    have h := Option.some.inj h
    subst h
    refine (hret _ ?_).1
    exact ⟨[(.bool v15)], ⟨rfl, trivial⟩, rfl, trivial⟩
   ·intro J16
    refine Z5 <| Z1 I (st_loadPA (cs := (Z4 v6).cells) (vs := (Z4 v6).cells) I a35 I I I I) I <| Z1 I (Za (v := (.int .i64 a1)) I I) I ?_
    have ⟨v18, hv18, h⟩ := of_bind h
    refine Z1 I (st_call0 (ar := [(Z4 v6), (.int .i64 a1)]) (caps := []) Try.call28 (F28_ok K v6 a1 v18 hv18) I I ⟨rfl, rfl, trivial⟩ I) I <| Z1 I (Za (v := (.vs 7)) I I) I ?_
    have ⟨v20, hv20, h⟩ := of_bind h
    refine Z1 I (st_callB (rd := [(7, (.vec 1 (List.map Z9 v11)))]) (ar := [(.sl 1 (v18.map Z9) false), (.vs 7)]) (caps := []) Try.call18 (F18_ok K v18 v11 v20 hv20) I I ⟨rfl, rfl, trivial⟩ (subS_mem ⟨rfl, trivial⟩) I I I) I <| Z1 I (Za (v := (.bool v20)) I I) I ?_
    have hif := of_if h
    refine AOps.split (fun hc => ?_) (fun hc => ?_)
    ·have h := hif.1 hc
     refine Zk I I I I (st_loadPA (cs := (Z4 v6).cells) (vs := (Z4 v6).cells) I a35 I I I I) I <| Zk I I I I (Za (v := (.int .i64 a1)) I I) I ?_
     have ⟨v22, hv22, h⟩ := of_bind h
     refine Zk I I I I (st_call0 (ar := [(Z4 v6), (.int .i64 a1)]) (caps := []) Try.call29 (F29_ok K v6 a1 v22 hv22) I I ⟨rfl, rfl, trivial⟩ I) I <| Zk I I I I (Za (v := (.vs 8)) I I) I ?_
     have ⟨v24, hv24, h⟩ := of_bind h
     refine Zk I I I I (st_callB (rd := [(8, (.vec 1 (List.map Z9 v12)))]) (ar := [(.sl 1 (v22.map Z9) false), (.vs 8)]) (caps := []) Try.call18 (F18_ok K v22 v12 v24 hv24) I I ⟨rfl, rfl, trivial⟩ (subS_mem ⟨rfl, trivial⟩) I I I) I <| Z1 I (st_pickT (v := (.bool v24)) I I I) I <| Z1 I (Za (v := (.bool v24)) I I) I ?_
     have hif := of_if h
     refine AOps.split (fun hc => ?_) (fun hc => ?_)
     ·have h := hif.1 hc
      refine Zk I I I I (st_loadPA (cs := (Z4 v6).cells) (vs := (Z4 v6).cells) I a35 I I I I) I ?_
      have ⟨v26, hv26, h⟩ := of_bind h
      refine Zk I I I I (st_call0 (ar := [(Z4 v6)]) (caps := []) Try.call30 (F30_ok K v6 v26 hv26) I I ⟨rfl, trivial⟩ I) I <| Zk I I I I (Za (v := (.sl 1 (v4.map Zn) false)) I I) I ?_
      have ⟨v28, hv28, h⟩ := of_bind h
      refine Zk I I I I (st_call0 (ar := [(.sl 1 (v4.map Zn) false)]) (caps := []) Try.call31 (F31_ok K v4 v28 hv28) I I ⟨rfl, trivial⟩ I) I ?_
      have ⟨v30, hv30, h⟩ := of_bind h
      refine Zk I I I I (st_call0 (ar := [(.sl 1 (v28.map Zn) false)]) (caps := []) Try.call16 (F16_ok K v28 v30 hv30) I I ⟨rfl, trivial⟩ I) I ?_
      have ⟨v32, hv32, h⟩ := of_bind h
      refine Zk I I I I (st_call0 (ar := [(Z4 v26), (Z4 v30)]) (caps := []) Try.call27 (F27_ok K v26 v30 v32 hv32) I I ⟨rfl, rfl, trivial⟩ I) I <| Z1 I (st_pickT (v := (.bool v32)) I I I) I <| Z1 I (Zg (v := (.bool v32)) I I) I <| Z8 ?_
      exact Zj (st' := ⟨[(4, (.bool v32))], []⟩) ⟨rfl, trivial⟩ trivial (J16 v32 h)
     ·have h := hif.2 hc
      refine Zb I I I I I I I <| Zb I I I I I I I <| Zb I I I I I I I <| Zb I I I I I I I <| Zb I I I I I I I <| Zb I I I I I I I <| Z1 I (st_pickF (v := (.bool false)) I I I) I <| Z1 I (Zg (v := (.bool false)) I I) I ?_
      refine Z8 ?_
      exact Zj (st' := ⟨[(4, (.bool false))], []⟩) ⟨rfl, trivial⟩ trivial (J16 false h)
    ·have h := hif.2 hc
     refine Zb I I I I I I I <| Zb I I I I I I I <| Zb I I I I I I I <| Zb I I I I I I I <| Zb I I I I I I I <| Z1 I (st_pickF (v := (.bool false)) I I I) I <| Z1 I (Za (v := (.bool false)) I I) I <| Zb I I I I I I I ?_
     refine Zb I I I I I I I <| Zb I I I I I I I <| Zb I I I I I I I <| Zb I I I I I I I <| Zb I I I I I I I <| Z1 I (st_pickF (v := (.bool false)) I I I) I <| Z1 I (Zg (v := (.bool false)) I I) I <| Z8 ?_
     exact Zj (st' := ⟨[(4, (.bool false))], []⟩) ⟨rfl, trivial⟩ trivial (J16 false h)
  ·intro N k10 v h IH10 J10
   obtain ⟨v7, v8, v9⟩ := v
   try dsimp only at h IH10 J10 ⊢
   cases k10 with
   | zero => cases h
   | succ k10 =>
    rw [F6_l10] at h
    refine Zd <| Zd ?_
    refine AWp.join (V := Bool) (lp := fun v => F6_j35 K a1 v4 v7 v8 v9 (F6_l10 K v4 a1 (F6_c13 K v6 a1 v4) k10) (F6_c13 K v6 a1 v4) v = some r) (sh := fun v => ⟨[(1, (.int .i64 a1)), (5, (.sl 1 (v4.map Zn) false)), (6, (.ptr 6 0)), (7, (.vs 7)), (8, (.vs 8)), (9, (.int .i64 v7)), (29, (.bool v))], [(6, (.box (Z4 v6).cells)), (7, (.vec 1 (List.map Z9 v8))), (8, (.vec 1 (List.map Z9 v9)))]⟩) ?_ ?_
    ·intro v h
     revert h
     revert v
     intro v34 h
     try dsimp only at h ⊢
     unfold F6_j35 at h
     refine Zc ?_
     have hif := of_if h
     refine Zp I (fun hc => ?_) (fun hc => ?_)
     ·have h := hif.1 hc
      refine Zs <| Zc <| Zd <| AWp.block <| Zd <| Zd <| Z5 <| Z1 I (Za (v := (.sl 1 (v4.map Zn) false)) I I) I ?_
      refine Z1 I (Za (v := (.int .i64 a1)) I I) I ?_
      have ⟨hg36, h⟩ := Zh h
      refine Z1 I (st_index (k := .i64) (l := v4) (enc := Zn) (z := []) (n := a1) (cs := [(.sl 1 ((v4.getD a1.toNat []).map Zm) false)]) (full := false) I s27 I I hg36 I) I <| Z1 I (st_loadI (cs := [(.sl 1 ((v4.getD a1.toNat []).map Zm) false)]) (v := (.sl 1 ((v4.getD a1.toNat []).map Zm) false)) I o49 I I) I <| Z1 I (Za (v := (.int .i64 v7)) I I) I ?_
      have ⟨hg37, h⟩ := Zh h
      refine Z1 I (st_index (k := .i64) (l := (v4.getD a1.toNat [])) (enc := Zm) (z := false) (n := v7) (cs := [(.bool ((v4.getD a1.toNat []).getD v7.toNat false))]) (full := false) I s49 I I hg37 I) I <| Z1 I (st_loadI (cs := [(.bool ((v4.getD a1.toNat []).getD v7.toNat false))]) (v := (.bool ((v4.getD a1.toNat []).getD v7.toNat false))) I o4 I I) I <| Z8 <| Zc ?_
      refine AWp.join (V := (List Int)) (lp := fun v => F6_j39 K v7 v4 a1 v9 (F6_l10 K v4 a1 (F6_c13 K v6 a1 v4) k10) v = some r) (sh := fun v => ⟨[(1, (.int .i64 a1)), (5, (.sl 1 (v4.map Zn) false)), (6, (.ptr 6 0)), (7, (.vs 7)), (8, (.vs 8)), (9, (.int .i64 v7))], [(6, (.box (Z4 v6).cells)), (7, (.vec 1 (List.map Z9 v))), (8, (.vec 1 (List.map Z9 v9)))]⟩) ?_ ?_
      ·intro v h
       revert h
       revert v
       intro v38 h
       try dsimp only at h ⊢
       unfold F6_j39 at h
       refine Zc <| Zd <| Z5 <| Z1 I (Za (v := (.sl 1 (v4.map Zn) false)) I I) I <| Z1 I (Za (v := (.int .i64 v7)) I I) I ?_
       have ⟨hg40, h⟩ := Zh h
       refine Z1 I (st_index (k := .i64) (l := v4) (enc := Zn) (z := []) (n := v7) (cs := [(.sl 1 ((v4.getD v7.toNat []).map Zm) false)]) (full := false) I s27 I I hg40 I) I <| Z1 I (st_loadI (cs := [(.sl 1 ((v4.getD v7.toNat []).map Zm) false)]) (v := (.sl 1 ((v4.getD v7.toNat []).map Zm) false)) I o49 I I) I <| Z1 I (Za (v := (.int .i64 a1)) I I) I ?_
       have ⟨hg41, h⟩ := Zh h
       refine Z1 I (st_index (k := .i64) (l := (v4.getD v7.toNat [])) (enc := Zm) (z := false) (n := a1) (cs := [(.bool ((v4.getD v7.toNat []).getD a1.toNat false))]) (full := false) I s49 I I hg41 I) I <| Z1 I (st_loadI (cs := [(.bool ((v4.getD v7.toNat []).getD a1.toNat false))]) (v := (.bool ((v4.getD v7.toNat []).getD a1.toNat false))) I o4 I I) I <| Z8 <| Zc ?_
       refine AWp.join (V := (List Int)) (lp := fun v => F6_j43 K (F6_l10 K v4 a1 (F6_c13 K v6 a1 v4) k10) v7 v38 v = some r) (sh := fun v => ⟨[(1, (.int .i64 a1)), (5, (.sl 1 (v4.map Zn) false)), (6, (.ptr 6 0)), (7, (.vs 7)), (8, (.vs 8)), (9, (.int .i64 v7))], [(6, (.box (Z4 v6).cells)), (7, (.vec 1 (List.map Z9 v38))), (8, (.vec 1 (List.map Z9 v)))]⟩) ?_ ?_
       ·intro v h
        revert h
        revert v
        intro v42 h
        try dsimp only at h ⊢
        unfold F6_j43 at h
        refine At.end <| Zc <| Z5 <| Z1 I (Za (v := (.int .i64 v7)) I I) I <| Z1 I (st_arith (k := .i64) (a := v7) (b := 1) (c := (IntKind.i64.wrap (v7 + 1))) I I I I) I <| Z1 I (Zg (v := (.int .i64 (IntKind.i64.wrap (v7 + 1)))) I I) I <| Z8 ?_
        exact Zj (st' := ⟨[(1, (.int .i64 a1)), (5, (.sl 1 (v4.map Zn) false)), (6, (.ptr 6 0)), (7, (.vs 7)), (8, (.vs 8)), (9, (.int .i64 (IntKind.i64.wrap (v7 + 1))))], [(6, (.box (Z4 v6).cells)), (7, (.vec 1 (List.map Z9 v38))), (8, (.vec 1 (List.map Z9 v42)))]⟩) ⟨rfl, rfl, rfl, rfl, rfl, rfl, trivial⟩ ⟨rfl, rfl, rfl, trivial⟩ (IH10 _ ((IntKind.i64.wrap (v7 + 1)), v38, v42) (Nat.lt_succ_self _) h)
       ·intro J43
        have hif := of_if h
        refine Zp I (fun hc => ?_) (fun hc => ?_)
        ·have h := hif.1 hc
         refine Z5 <| Z1 I (Za (v := (.vs 8)) I I) I <| Z1 I (Za (v := (.int .i64 v7)) I I) I <| Z1 I (stx_buildSlice (vs := [(.int .i64 v7)]) (enc := Z9) (l := [v7]) I el29 I I ⟨rfl, trivial⟩ I els_i64 I I I I) I ?_
         have ⟨hg44, h⟩ := Zh h
         refine Z1 I (st_append (m := 8) (enc := Z9) (l := v9) (l' := [v7]) (src := (.vs 52)) (rd := [(52, (.vec 1 (List.map Z9 [v7])))]) I I el29 I u29 I I I I (oneRead I) els_i64 hg44) I <| Z1 I (Zg (v := (.vs 8)) I I) I <| Z8 ?_
         exact Zj (st' := ⟨[(1, (.int .i64 a1)), (5, (.sl 1 (v4.map Zn) false)), (6, (.ptr 6 0)), (7, (.vs 7)), (8, (.vs 8)), (9, (.int .i64 v7))], [(6, (.box (Z4 v6).cells)), (7, (.vec 1 (List.map Z9 v38))), (8, (.vec 1 (List.map Z9 (v9 ++ [v7]))))]⟩) ⟨rfl, rfl, rfl, rfl, rfl, rfl, trivial⟩ ⟨rfl, rfl, rfl, trivial⟩ (J43 (v9 ++ [v7]) h)
        ·have h := hif.2 hc
         refine Zs ?_
         exact Zj (st' := ⟨[(1, (.int .i64 a1)), (5, (.sl 1 (v4.map Zn) false)), (6, (.ptr 6 0)), (7, (.vs 7)), (8, (.vs 8)), (9, (.int .i64 v7))], [(6, (.box (Z4 v6).cells)), (7, (.vec 1 (List.map Z9 v38))), (8, (.vec 1 (List.map Z9 v9)))]⟩) ⟨rfl, rfl, rfl, rfl, rfl, rfl, trivial⟩ ⟨rfl, rfl, rfl, trivial⟩ (J43 v9 h)
      ·intro J39
       have hif := of_if h
       refine Zp I (fun hc => ?_) (fun hc => ?_)
       ·have h := hif.1 hc
        refine Z5 <| Z1 I (Za (v := (.vs 7)) I I) I <| Z1 I (Za (v := (.int .i64 v7)) I I) I <| Z1 I (stx_buildSlice (vs := [(.int .i64 v7)]) (enc := Z9) (l := [v7]) I el29 I I ⟨rfl, trivial⟩ I els_i64 I I I I) I ?_
        have ⟨hg45, h⟩ := Zh h
        refine Z1 I (st_append (m := 7) (enc := Z9) (l := v8) (l' := [v7]) (src := (.vs 41)) (rd := [(41, (.vec 1 (List.map Z9 [v7])))]) I I el29 I u29 I I I I (oneRead I) els_i64 hg45) I <| Z1 I (Zg (v := (.vs 7)) I I) I <| Z8 ?_
        exact Zj (st' := ⟨[(1, (.int .i64 a1)), (5, (.sl 1 (v4.map Zn) false)), (6, (.ptr 6 0)), (7, (.vs 7)), (8, (.vs 8)), (9, (.int .i64 v7))], [(6, (.box (Z4 v6).cells)), (7, (.vec 1 (List.map Z9 (v8 ++ [v7])))), (8, (.vec 1 (List.map Z9 v9)))]⟩) ⟨rfl, rfl, rfl, rfl, rfl, rfl, trivial⟩ ⟨rfl, rfl, rfl, trivial⟩ (J39 (v8 ++ [v7]) h)
       ·have h := hif.2 hc
        refine Zs ?_
        exact Zj (st' := ⟨[(1, (.int .i64 a1)), (5, (.sl 1 (v4.map Zn) false)), (6, (.ptr 6 0)), (7, (.vs 7)), (8, (.vs 8)), (9, (.int .i64 v7))], [(6, (.box (Z4 v6).cells)), (7, (.vec 1 (List.map Z9 v8))), (8, (.vec 1 (List.map Z9 v9)))]⟩) ⟨rfl, rfl, rfl, rfl, rfl, rfl, trivial⟩ ⟨rfl, rfl, rfl, trivial⟩ (J39 v8 h)
     ·have h := hif.2 hc
      refine AWp.exit <| At.thru ?_
      exact Zj (st' := ⟨[(1, (.int .i64 a1)), (5, (.sl 1 (v4.map Zn) false)), (6, (.ptr 6 0)), (7, (.vs 7)), (8, (.vs 8))], [(6, (.box (Z4 v6).cells)), (7, (.vec 1 (List.map Z9 v8))), (8, (.vec 1 (List.map Z9 v9)))]⟩) ⟨rfl, rfl, rfl, rfl, rfl, trivial⟩ ⟨rfl, rfl, rfl, trivial⟩ (J10 (v8, v9) h)
    ·intro J35
     refine Z5 <| Z1 I (Za (v := (.int .i64 v7)) I I) I <| Z1 I (Za (v := (.sl 1 (v4.map Zn) false)) I I) I <| Z1 I (stx_len (l := v4) (enc := Zn) I s27 I) I <| Z1 I (st_cmp (k := .i64) (a := v7) (b := (v4.length : Int)) (c := (decide (v7 < (v4.length : Int)))) I I I I) I <| Z1 I (Za (v := (.bool (decide (v7 < (v4.length : Int))))) I I) I ?_
     have hif := of_if h
     refine AOps.split (fun hc => ?_) (fun hc => ?_)
     ·have h := hif.1 hc
      refine Zk I I I I (Za (v := (.int .i64 a1)) I I) I <| Zk I I I I (st_cmp (k := .i64) (a := a1) (b := 0) (c := (decide (a1 ≥ 0))) I I I I) I <| Z1 I (st_pickT (v := (.bool (decide (a1 ≥ 0)))) I I I) I <| Z1 I (Za (v := (.bool (decide (a1 ≥ 0)))) I I) I ?_
      have hif := of_if h
      refine AOps.split (fun hc => ?_) (fun hc => ?_)
      ·have h := hif.1 hc
       refine Zk I I I I (Za (v := (.int .i64 a1)) I I) I <| Zk I I I I (Za (v := (.sl 1 (v4.map Zn) false)) I I) I <| Zk I I I I (stx_len (l := v4) (enc := Zn) I s27 I) I <| Zk I I I I (st_cmp (k := .i64) (a := a1) (b := (v4.length : Int)) (c := (decide (a1 < (v4.length : Int)))) I I I I) I <| Z1 I (st_pickT (v := (.bool (decide (a1 < (v4.length : Int))))) I I I) I <| Z8 ?_
       exact Zj (st' := ⟨[(1, (.int .i64 a1)), (5, (.sl 1 (v4.map Zn) false)), (6, (.ptr 6 0)), (7, (.vs 7)), (8, (.vs 8)), (9, (.int .i64 v7)), (29, (.bool (decide (a1 < (v4.length : Int)))))], [(6, (.box (Z4 v6).cells)), (7, (.vec 1 (List.map Z9 v8))), (8, (.vec 1 (List.map Z9 v9)))]⟩) ⟨rfl, rfl, rfl, rfl, rfl, rfl, rfl, trivial⟩ ⟨rfl, rfl, rfl, trivial⟩ (J35 (decide (a1 < (v4.length : Int))) h)
      ·have h := hif.2 hc
       refine Zb I I I I I I I <| Zb I I I I I I I <| Zb I I I I I I I <| Zb I I I I I I I <| Z1 I (st_pickF (v := (.bool false)) I I I) I <| Z8 ?_
       exact Zj (st' := ⟨[(1, (.int .i64 a1)), (5, (.sl 1 (v4.map Zn) false)), (6, (.ptr 6 0)), (7, (.vs 7)), (8, (.vs 8)), (9, (.int .i64 v7)), (29, (.bool false))], [(6, (.box (Z4 v6).cells)), (7, (.vec 1 (List.map Z9 v8))), (8, (.vec 1 (List.map Z9 v9)))]⟩) ⟨rfl, rfl, rfl, rfl, rfl, rfl, rfl, trivial⟩ ⟨rfl, rfl, rfl, trivial⟩ (J35 false h)
     ·have h := hif.2 hc
      refine Zb I I I I I I I <| Zb I I I I I I I <| Z1 I (st_pickF (v := (.bool false)) I I I) I <| Z1 I (Za (v := (.bool false)) I I) I <| Zb I I I I I I I <| Zb I I I I I I I <| Zb I I I I I I I <| Zb I I I I I I I ?_
      refine Z1 I (st_pickF (v := (.bool false)) I I I) I <| Z8 ?_
      exact Zj (st' := ⟨[(1, (.int .i64 a1)), (5, (.sl 1 (v4.map Zn) false)), (6, (.ptr 6 0)), (7, (.vs 7)), (8, (.vs 8)), (9, (.int .i64 v7)), (29, (.bool false))], [(6, (.box (Z4 v6).cells)), (7, (.vec 1 (List.map Z9 v8))), (8, (.vec 1 (List.map Z9 v9)))]⟩) ⟨rfl, rfl, rfl, rfl, rfl, rfl, rfl, trivial⟩ ⟨rfl, rfl, rfl, trivial⟩ (J35 false h)
end Go.AM.Gra
