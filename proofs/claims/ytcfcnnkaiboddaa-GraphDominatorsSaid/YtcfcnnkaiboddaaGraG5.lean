/- What these functions compute, each with its walk: F32. -/
import Derived.Test.YtcfcnnkaiboddaaGraT
namespace Go.AM.Gra
open Go Go.AM Go.Proofs
set_option maxRecDepth 100000
set_option maxHeartbeats 2000000
def F32_c14 (K : Nat) (v13 : (List Int)) : Option ((List Int)) :=
 some v13
def F32_c21 (K : Nat) (b16 : Int → (List Int) → Option ((List Int))) (v10 : Int) (v20 : (List Int)) : Option ((List Int)) :=
 b16 (IntKind.i64.wrap (v10 + 1)) v20
def F32_c28 (K : Nat) (b23 : Int → (List Int) → Option ((List Int))) (v17 : Int) (v27 : (List Int)) : Option ((List Int)) :=
 b23 (IntKind.i64.wrap (v17 + 1)) v27
def F32_j34 (K : Nat) (b30 : Int → (List Int) → Option ((List Int))) (v24 : Int) (v33 : (List Int)) : Option ((List Int)) :=
 b30 (IntKind.i64.wrap (v24 + 1)) v33
def F32_j32 (K : Nat) (v24 : Int) (v25 : (List Int)) (b30 : Int → (List Int) → Option ((List Int))) (v10 : Int) (v31 : Bool) : Option ((List Int)) :=
 if v31 = true then
  if (0 : Int) ≤ v24 ∧ v24 < (v25.length : Nat) then
   if v24.toNat < v25.length then
    F32_j34 K b30 v24 (v25.set v24.toNat (IntKind.i64.wrap (v10 + 1)))
   else none
  else none
 else
  F32_j34 K b30 v24 v25
def F32_l26 (K : Nat) (a0 : (List (List Bool))) (v17 : Int) (v10 : Int) (c29 : (List Int) → Option ((List Int))) : Nat → Int → (List Int) → Option ((List Int))
 | 0, _, _ => none
 | k26 + 1, v24, v25 =>
  if (decide (v24 < (a0.length : Int))) = true then
   if (0 : Int) ≤ v17 ∧ v17 < (v25.length : Nat) then
    if v17.toNat < v25.length then
     if ((v25.getD v17.toNat 0) == v10) = true then
      if (0 : Int) ≤ v24 ∧ v24 < (v25.length : Nat) then
       if v24.toNat < v25.length then
        if (decide ((v25.getD v24.toNat 0) < 0)) = true then
         if (0 : Int) ≤ v17 ∧ v17 < a0.length then
          if (0 : Int) ≤ v24 ∧ v24 < (a0.getD v17.toNat []).length then
           F32_j32 K v24 v25 (F32_l26 K a0 v17 v10 c29 k26) v10 ((a0.getD v17.toNat []).getD v24.toNat false)
          else none
         else none
        else
         F32_j32 K v24 v25 (F32_l26 K a0 v17 v10 c29 k26) v10 false
       else none
      else none
     else
      F32_j32 K v24 v25 (F32_l26 K a0 v17 v10 c29 k26) v10 false
    else none
   else none
  else
   c29 v25
def F32_l19 (K : Nat) (a0 : (List (List Bool))) (v10 : Int) (c22 : (List Int) → Option ((List Int))) : Nat → Int → (List Int) → Option ((List Int))
 | 0, _, _ => none
 | k19 + 1, v17, v18 =>
  if (decide (v17 < (a0.length : Int))) = true then
   F32_l26 K a0 v17 v10 (F32_c28 K (F32_l19 K a0 v10 c22 k19) v17) K 0 v18
  else
   c22 v18
def F32_l12 (K : Nat) (a0 : (List (List Bool))) (c15 : (List Int) → Option ((List Int))) : Nat → Int → (List Int) → Option ((List Int))
 | 0, _, _ => none
 | k12 + 1, v10, v11 =>
  if (decide (v10 < (a0.length : Int))) = true then
   F32_l19 K a0 v10 (F32_c21 K (F32_l12 K a0 c15 k12) v10) K 0 v11
  else
   c15 v11
def F32_c6 (K : Nat) (a1 : Int) (a0 : (List (List Bool))) (v5 : (List Int)) : Option ((List Int)) :=
 if (0 : Int) ≤ a1 ∧ a1 < (v5.length : Nat) then
  if a1.toNat < v5.length then
   F32_l12 K a0 (F32_c14 K) K 0 (v5.set a1.toNat 0)
  else none
 else none
def F32_l4 (K : Nat) (a0 : (List (List Bool))) (c7 : (List Int) → Option ((List Int))) : Nat → Int → (List Int) → Option ((List Int))
 | 0, _, _ => none
 | k4 + 1, v2, v3 =>
  if (decide (v2 < (a0.length : Int))) = true then
   if (0 : Int) ≤ v2 ∧ v2 < (v3.length : Nat) then
    if v2.toNat < v3.length then
     (F32_l4 K a0 c7 k4) (IntKind.i64.wrap (v2 + 1)) (v3.set v2.toNat (Int.negSucc 0))
    else none
   else none
  else
   c7 v3
def F32 (K : Nat) (a0 : (List (List Bool))) (a1 : Int) : Option ((List Int)) :=
 if (0 : Int) ≤ (a0.length : Int) ∧ (a0.length : Int) ≤ (a0.length : Int) ∧ (a0.length : Int) ≤ 1073741824 then
  F32_l4 K a0 (F32_c6 K a1 a0) K 0 (List.replicate (a0.length : Int).toNat (0 : Int))
 else none
theorem F32_ok (K : Nat) (a0 : (List (List Bool))) (a1 : Int) (r : (List Int)) (h : F32 K a0 a1 = some r) : ACall P 32 ⟨[(.sl 1 (a0.map Zl) false), (.int .i64 a1)], [], (.sl 1 (r.map Z7) false), [], []⟩ := by
 refine acall_of Try.func32 Try.results32 rfl Try.ntmps32 rfl rfl rfl ?_
 intro E Q hP hN hro hret
 obtain ⟨P', nt', w0, F0, p0, S0, β0, ro0⟩ := E
 simp only at hP hN
 subst hP hN
 dsimp only [argT]
 unfold F32 at h
 refine Zb <| Z4 <| Z1 I (Zh (v := (.sl 1 [] false)) I I) I <| Z8 <| Za <| Zb <| Z4 <| Z1 I (Z6 (v := (.sl 1 (a0.map Zl) false)) I I) I ?_
 refine Z1 I (stx_len (l := a0) (enc := Zl) I s27 I) I ?_
 have ⟨hg1, h⟩ := Zf h
 refine Z1 I (st_makeSlice (kx := .i64) (ky := .i64) (a := (a0.length : Int)) (c := (a0.length : Int)) (n := (a0.length : Int).toNat) I el29 I ze3 els_i64 I I I hg1 I) I <| Z1 I (Zh (v := (.vs 12)) I I) I <| Z8 <| Za <| Zb <| Zb <| Z4 <| Z1 I (Zh (v := (.int .i64 0)) I I) I ?_
 refine Z8 <| Za <| AWp.ghost (st' := ⟨[(0, (.sl 1 (a0.map Zl) false)), (1, (.int .i64 a1)), (5, (.vs 5)), (6, (.int .i64 0))], [(5, (.vec 1 (List.map Z7 (List.replicate (a0.length : Int).toNat (0 : Int)))))]⟩) (fun a w h => (Zp ⟨[(0, (.sl 1 (a0.map Zl) false)), (1, (.int .i64 a1)), (5, (.vs 5)), (6, (.int .i64 0))], [(5, (.vec 1 (List.map Z7 (List.replicate (a0.length : Int).toNat (0 : Int)))))]⟩ (ghost_sw (a := 12) (b := 5) I I a w (Zp ⟨[(0, (.sl 1 (a0.map Zl) false)), (1, (.int .i64 a1)), (5, (.vs 12)), (6, (.int .i64 0))], [(12, (.vec 1 (List.map Z7 (List.replicate (a0.length : Int).toNat (0 : Int)))))]⟩ h ⟨rfl, rfl, rfl, rfl, trivial⟩ ⟨rfl, trivial⟩)) ⟨rfl, rfl, rfl, rfl, trivial⟩ ⟨rfl, trivial⟩)) <| AWp.weaken (st' := ⟨[(0, (.sl 1 (a0.map Zl) false)), (1, (.int .i64 a1)), (5, (.vs 5)), (6, (.int .i64 0))], [(5, (.vec 1 (List.map Z7 (List.replicate (a0.length : Int).toNat (0 : Int)))))]⟩) ⟨rfl, rfl, rfl, rfl, trivial⟩ ⟨rfl, trivial⟩ ?_
 refine Zr (V := Int × (List Int)) (X := (List Int)) (lp := fun k v => F32_l4 K a0 (F32_c6 K a1 a0) k v.1 v.2 = some r) (sh := fun v => ⟨[(0, (.sl 1 (a0.map Zl) false)), (1, (.int .i64 a1)), (5, (.vs 5)), (6, (.int .i64 v.1))], [(5, (.vec 1 (List.map Z7 v.2)))]⟩) (x := fun v => F32_c6 K a1 a0 v = some r) (shx := fun v => ⟨[(0, (.sl 1 (a0.map Zl) false)), (1, (.int .i64 a1)), (5, (.vs 5))], [(5, (.vec 1 (List.map Z7 v)))]⟩) (k := K) (v := (0, (List.replicate (a0.length : Int).toNat (0 : Int)))) h ?_ ?_
 ·intro v h
  revert h
  revert v
  intro v5 h
  try dsimp only at h ⊢
  unfold F32_c6 at h
  refine Za <| Zb <| Z4 <| Z1 I (Z6 (v := (.vs 5)) I I) I <| Z1 I (Z6 (v := (.int .i64 a1)) I I) I ?_
  have ⟨hg8, h⟩ := Zf h
  refine Z1 I (Zv (k := .i64) (v := (.vs 5)) (n := 5) (off := 0) (len := v5.length) (es := (List.map Z7 v5)) (j := a1) (m := a1.toNat) I s29 I I (vecR_map _ _ _) I hg8 (Nat.zero_add _)) I ?_
  have ⟨hg9, h⟩ := Zf h
  refine Z1 I (st_storeV (l := v5) (enc := Z7) (z := 0) (a := 0) (v := (.int .i64 0)) sz3 I I hg9 I els_i64 I I I I) I <| Z8 <| Za <| Zb <| Zb <| Z4 <| Z1 I (Zh (v := (.int .i64 0)) I I) I <| Z8 ?_
  refine Za <| AWp.weaken (st' := ⟨[(0, (.sl 1 (a0.map Zl) false)), (5, (.vs 5)), (7, (.int .i64 0))], [(5, (.vec 1 (List.map Z7 (v5.set a1.toNat 0))))]⟩) ⟨rfl, rfl, rfl, trivial⟩ ⟨rfl, trivial⟩ ?_
  refine Zr (V := Int × (List Int)) (X := (List Int)) (lp := fun k v => F32_l12 K a0 (F32_c14 K) k v.1 v.2 = some r) (sh := fun v => ⟨[(0, (.sl 1 (a0.map Zl) false)), (5, (.vs 5)), (7, (.int .i64 v.1))], [(5, (.vec 1 (List.map Z7 v.2)))]⟩) (x := fun v => F32_c14 K v = some r) (shx := fun v => ⟨[(5, (.vs 5))], [(5, (.vec 1 (List.map Z7 v)))]⟩) (k := K) (v := (0, (v5.set a1.toNat 0))) h ?_ ?_
  ·intro v h
   revert h
   revert v
   intro v13 h
   try dsimp only at h ⊢
   unfold F32_c14 at h
   refine Za <| Zb <| Z4 <| Z1 I (Z6 (v := (.vs 5)) I I) I <| Z1 I (Zh (v := (.vs 5)) I I) I <| Z8 <| Za <| AWp.ret ?_
   refine At.ghost (st' := ⟨[(4, (.sl 1 (v13.map Z7) false))], []⟩) (fun a w h => (Zp ⟨[(4, (.sl 1 (v13.map Z7) false))], []⟩ (ghost_freeze (m := 5) (sz := 1) (es := (List.map Z7 v13)) a w (Zp ⟨[(4, (.vs 5))], [(5, (.vec 1 (List.map Z7 v13)))]⟩ h ⟨rfl, trivial⟩ ⟨rfl, trivial⟩)) ⟨rfl, trivial⟩ trivial)) ?_
   have h := Option.some.inj h
   subst h
   refine (hret _ ?_).1
   exact ⟨[(.sl 1 (v13.map Z7) false)], ⟨rfl, trivial⟩, rfl, trivial⟩
  ·intro N k12 v h IH12 J12
   obtain ⟨v10, v11⟩ := v
   try dsimp only at h IH12 J12 ⊢
   cases k12 with
   | zero => cases h
   | succ k12 =>
    rw [F32_l12] at h
    refine Zb <| Zb <| Z4 <| Z1 I (Z6 (v := (.int .i64 v10)) I I) I <| Z1 I (Z6 (v := (.sl 1 (a0.map Zl) false)) I I) I <| Z1 I (stx_len (l := a0) (enc := Zl) I s27 I) I <| Z1 I (Zz (k := .i64) (a := v10) (b := (a0.length : Int)) (c := (decide (v10 < (a0.length : Int)))) I I I I) I <| Z8 ?_
    refine Za ?_
    have hif := of_if h
    refine Zq I (fun hc => ?_) (fun hc => ?_)
    ·have h := hif.1 hc
     refine Zs <| Za <| Zb <| AWp.block <| Zb <| Z4 <| Z1 I (Zh (v := (.int .i64 0)) I I) I <| Z8 ?_
     refine Za <| AWp.weaken (st' := ⟨[(0, (.sl 1 (a0.map Zl) false)), (5, (.vs 5)), (7, (.int .i64 v10)), (8, (.int .i64 0))], [(5, (.vec 1 (List.map Z7 v11)))]⟩) ⟨rfl, rfl, rfl, rfl, trivial⟩ ⟨rfl, trivial⟩ ?_
     refine Zr (V := Int × (List Int)) (X := (List Int)) (lp := fun k v => F32_l19 K a0 v10 (F32_c21 K (F32_l12 K a0 (F32_c14 K) k12) v10) k v.1 v.2 = some r) (sh := fun v => ⟨[(0, (.sl 1 (a0.map Zl) false)), (5, (.vs 5)), (7, (.int .i64 v10)), (8, (.int .i64 v.1))], [(5, (.vec 1 (List.map Z7 v.2)))]⟩) (x := fun v => F32_c21 K (F32_l12 K a0 (F32_c14 K) k12) v10 v = some r) (shx := fun v => ⟨[(0, (.sl 1 (a0.map Zl) false)), (5, (.vs 5)), (7, (.int .i64 v10))], [(5, (.vec 1 (List.map Z7 v)))]⟩) (k := K) (v := (0, v11)) h ?_ ?_
     ·intro v h
      revert h
      revert v
      intro v20 h
      try dsimp only at h ⊢
      unfold F32_c21 at h
      refine At.end <| Za <| Z4 <| Z1 I (Z6 (v := (.int .i64 v10)) I I) I <| Z1 I (st_arith (k := .i64) (a := v10) (b := 1) (c := (IntKind.i64.wrap (v10 + 1))) I I I I) I <| Z1 I (Zh (v := (.int .i64 (IntKind.i64.wrap (v10 + 1)))) I I) I <| Z8 ?_
      exact Zj (st' := ⟨[(0, (.sl 1 (a0.map Zl) false)), (5, (.vs 5)), (7, (.int .i64 (IntKind.i64.wrap (v10 + 1))))], [(5, (.vec 1 (List.map Z7 v20)))]⟩) ⟨rfl, rfl, rfl, trivial⟩ ⟨rfl, trivial⟩ (IH12 _ ((IntKind.i64.wrap (v10 + 1)), v20) (Nat.lt_succ_self _) h)
     ·intro N k19 v h IH19 J19
      obtain ⟨v17, v18⟩ := v
      try dsimp only at h IH19 J19 ⊢
      cases k19 with
      | zero => cases h
      | succ k19 =>
       rw [F32_l19] at h
       refine Zb <| Zb <| Z4 <| Z1 I (Z6 (v := (.int .i64 v17)) I I) I <| Z1 I (Z6 (v := (.sl 1 (a0.map Zl) false)) I I) I <| Z1 I (stx_len (l := a0) (enc := Zl) I s27 I) I <| Z1 I (Zz (k := .i64) (a := v17) (b := (a0.length : Int)) (c := (decide (v17 < (a0.length : Int)))) I I I I) I <| Z8 ?_
       refine Za ?_
       have hif := of_if h
       refine Zq I (fun hc => ?_) (fun hc => ?_)
       ·have h := hif.1 hc
        refine Zs <| Za <| Zb <| AWp.block <| Zb <| Z4 <| Z1 I (Zh (v := (.int .i64 0)) I I) I <| Z8 ?_
        refine Za <| AWp.weaken (st' := ⟨[(0, (.sl 1 (a0.map Zl) false)), (5, (.vs 5)), (7, (.int .i64 v10)), (8, (.int .i64 v17)), (9, (.int .i64 0))], [(5, (.vec 1 (List.map Z7 v18)))]⟩) ⟨rfl, rfl, rfl, rfl, rfl, trivial⟩ ⟨rfl, trivial⟩ ?_
        refine Zr (V := Int × (List Int)) (X := (List Int)) (lp := fun k v => F32_l26 K a0 v17 v10 (F32_c28 K (F32_l19 K a0 v10 (F32_c21 K (F32_l12 K a0 (F32_c14 K) k12) v10) k19) v17) k v.1 v.2 = some r) (sh := fun v => ⟨[(0, (.sl 1 (a0.map Zl) false)), (5, (.vs 5)), (7, (.int .i64 v10)), (8, (.int .i64 v17)), (9, (.int .i64 v.1))], [(5, (.vec 1 (List.map Z7 v.2)))]⟩) (x := fun v => F32_c28 K (F32_l19 K a0 v10 (F32_c21 K (F32_l12 K a0 (F32_c14 K) k12) v10) k19) v17 v = some r) (shx := fun v => ⟨[(0, (.sl 1 (a0.map Zl) false)), (5, (.vs 5)), (7, (.int .i64 v10)), (8, (.int .i64 v17))], [(5, (.vec 1 (List.map Z7 v)))]⟩) (k := K) (v := (0, v18)) h ?_ ?_
        ·intro v h
         revert h
         revert v
         intro v27 h
         try dsimp only at h ⊢
         unfold F32_c28 at h
         refine At.end <| Za <| Z4 <| Z1 I (Z6 (v := (.int .i64 v17)) I I) I <| Z1 I (st_arith (k := .i64) (a := v17) (b := 1) (c := (IntKind.i64.wrap (v17 + 1))) I I I I) I <| Z1 I (Zh (v := (.int .i64 (IntKind.i64.wrap (v17 + 1)))) I I) I <| Z8 ?_
         exact Zj (st' := ⟨[(0, (.sl 1 (a0.map Zl) false)), (5, (.vs 5)), (7, (.int .i64 v10)), (8, (.int .i64 (IntKind.i64.wrap (v17 + 1))))], [(5, (.vec 1 (List.map Z7 v27)))]⟩) ⟨rfl, rfl, rfl, rfl, trivial⟩ ⟨rfl, trivial⟩ (IH19 _ ((IntKind.i64.wrap (v17 + 1)), v27) (Nat.lt_succ_self _) h)
        ·intro N k26 v h IH26 J26
         obtain ⟨v24, v25⟩ := v
         try dsimp only at h IH26 J26 ⊢
         cases k26 with
         | zero => cases h
         | succ k26 =>
          rw [F32_l26] at h
          refine Zb <| Zb <| Z4 <| Z1 I (Z6 (v := (.int .i64 v24)) I I) I <| Z1 I (Z6 (v := (.sl 1 (a0.map Zl) false)) I I) I <| Z1 I (stx_len (l := a0) (enc := Zl) I s27 I) I <| Z1 I (Zz (k := .i64) (a := v24) (b := (a0.length : Int)) (c := (decide (v24 < (a0.length : Int)))) I I I I) I <| Z8 ?_
          refine Za ?_
          have hif := of_if h
          refine Zq I (fun hc => ?_) (fun hc => ?_)
          ·have h := hif.1 hc
           refine Zs <| Za <| Zb <| AWp.block <| Zb ?_
           refine AWp.join (V := Bool) (lp := fun v => F32_j32 K v24 v25 (F32_l26 K a0 v17 v10 (F32_c28 K (F32_l19 K a0 v10 (F32_c21 K (F32_l12 K a0 (F32_c14 K) k12) v10) k19) v17) k26) v10 v = some r) (sh := fun v => ⟨[(0, (.sl 1 (a0.map Zl) false)), (5, (.vs 5)), (7, (.int .i64 v10)), (8, (.int .i64 v17)), (9, (.int .i64 v24)), (64, (.bool v))], [(5, (.vec 1 (List.map Z7 v25)))]⟩) ?_ ?_
           ·intro v h
            revert h
            revert v
            intro v31 h
            try dsimp only at h ⊢
            unfold F32_j32 at h
            refine Za ?_
            refine AWp.join (V := (List Int)) (lp := fun v => F32_j34 K (F32_l26 K a0 v17 v10 (F32_c28 K (F32_l19 K a0 v10 (F32_c21 K (F32_l12 K a0 (F32_c14 K) k12) v10) k19) v17) k26) v24 v = some r) (sh := fun v => ⟨[(0, (.sl 1 (a0.map Zl) false)), (5, (.vs 5)), (7, (.int .i64 v10)), (8, (.int .i64 v17)), (9, (.int .i64 v24))], [(5, (.vec 1 (List.map Z7 v)))]⟩) ?_ ?_
            ·intro v h
             revert h
             revert v
             intro v33 h
             try dsimp only at h ⊢
             unfold F32_j34 at h
             refine At.end <| Za <| Z4 <| Z1 I (Z6 (v := (.int .i64 v24)) I I) I <| Z1 I (st_arith (k := .i64) (a := v24) (b := 1) (c := (IntKind.i64.wrap (v24 + 1))) I I I I) I <| Z1 I (Zh (v := (.int .i64 (IntKind.i64.wrap (v24 + 1)))) I I) I <| Z8 ?_
             exact Zj (st' := ⟨[(0, (.sl 1 (a0.map Zl) false)), (5, (.vs 5)), (7, (.int .i64 v10)), (8, (.int .i64 v17)), (9, (.int .i64 (IntKind.i64.wrap (v24 + 1))))], [(5, (.vec 1 (List.map Z7 v33)))]⟩) ⟨rfl, rfl, rfl, rfl, rfl, trivial⟩ ⟨rfl, trivial⟩ (IH26 _ ((IntKind.i64.wrap (v24 + 1)), v33) (Nat.lt_succ_self _) h)
            ·intro J34
             have hif := of_if h
             refine Zq I (fun hc => ?_) (fun hc => ?_)
             ·have h := hif.1 hc
              refine Z4 <| Z1 I (Z6 (v := (.vs 5)) I I) I <| Z1 I (Z6 (v := (.int .i64 v24)) I I) I <| Z1 I (Z6 (v := (.int .i64 v10)) I I) I <| Z1 I (st_arith (k := .i64) (a := v10) (b := 1) (c := (IntKind.i64.wrap (v10 + 1))) I I I I) I ?_
              have ⟨hg35, h⟩ := Zf h
              refine Z1 I (Zv (k := .i64) (v := (.vs 5)) (n := 5) (off := 0) (len := v25.length) (es := (List.map Z7 v25)) (j := v24) (m := v24.toNat) I s29 I I (vecR_map _ _ _) I hg35 (Nat.zero_add _)) I ?_
              have ⟨hg36, h⟩ := Zf h
              refine Z1 I (st_storeV (l := v25) (enc := Z7) (z := 0) (a := (IntKind.i64.wrap (v10 + 1))) (v := (.int .i64 (IntKind.i64.wrap (v10 + 1)))) sz3 I I hg36 I els_i64 I I I I) I <| Z8 ?_
              exact Zj (st' := ⟨[(0, (.sl 1 (a0.map Zl) false)), (5, (.vs 5)), (7, (.int .i64 v10)), (8, (.int .i64 v17)), (9, (.int .i64 v24))], [(5, (.vec 1 (List.map Z7 (v25.set v24.toNat (IntKind.i64.wrap (v10 + 1))))))]⟩) ⟨rfl, rfl, rfl, rfl, rfl, trivial⟩ ⟨rfl, trivial⟩ (J34 (v25.set v24.toNat (IntKind.i64.wrap (v10 + 1))) h)
             ·have h := hif.2 hc
              refine Zs ?_
              exact Zj (st' := ⟨[(0, (.sl 1 (a0.map Zl) false)), (5, (.vs 5)), (7, (.int .i64 v10)), (8, (.int .i64 v17)), (9, (.int .i64 v24))], [(5, (.vec 1 (List.map Z7 v25)))]⟩) ⟨rfl, rfl, rfl, rfl, rfl, trivial⟩ ⟨rfl, trivial⟩ (J34 v25 h)
           ·intro J32
            refine Z4 <| Z1 I (Z6 (v := (.vs 5)) I I) I <| Z1 I (Z6 (v := (.int .i64 v17)) I I) I ?_
            have ⟨hg37, h⟩ := Zf h
            refine Z1 I (Zv (k := .i64) (v := (.vs 5)) (n := 5) (off := 0) (len := v25.length) (es := (List.map Z7 v25)) (j := v17) (m := v17.toNat) I s29 I I (vecR_map _ _ _) I hg37 (Nat.zero_add _)) I ?_
            have ⟨hg38, h⟩ := Zf h
            refine Z1 I (st_loadV (l := v25) (enc := Z7) (z := 0) (v := (.int .i64 (v25.getD v17.toNat 0))) I o3 I I hg38 I) I <| Z1 I (Z6 (v := (.int .i64 v10)) I I) I <| Z1 I (Zz (k := .i64) (a := (v25.getD v17.toNat 0)) (b := v10) (c := ((v25.getD v17.toNat 0) == v10)) I I I I) I <| Z1 I (Z6 (v := (.bool ((v25.getD v17.toNat 0) == v10))) I I) I ?_
            have hif := of_if h
            refine AOps.split (fun hc => ?_) (fun hc => ?_)
            ·have h := hif.1 hc
             refine Zi I I I I (Z6 (v := (.vs 5)) I I) I <| Zi I I I I (Z6 (v := (.int .i64 v24)) I I) I ?_
             have ⟨hg39, h⟩ := Zf h
             refine Zi I I I I (Zv (k := .i64) (v := (.vs 5)) (n := 5) (off := 0) (len := v25.length) (es := (List.map Z7 v25)) (j := v24) (m := v24.toNat) I s29 I I (vecR_map _ _ _) I hg39 (Nat.zero_add _)) I ?_
             have ⟨hg40, h⟩ := Zf h
             refine Zi I I I I (st_loadV (l := v25) (enc := Z7) (z := 0) (v := (.int .i64 (v25.getD v24.toNat 0))) I o3 I I hg40 I) I <| Zi I I I I (Zz (k := .i64) (a := (v25.getD v24.toNat 0)) (b := 0) (c := (decide ((v25.getD v24.toNat 0) < 0))) I I I I) I <| Z1 I (st_pickT (v := (.bool (decide ((v25.getD v24.toNat 0) < 0)))) I I I) I <| Z1 I (Z6 (v := (.bool (decide ((v25.getD v24.toNat 0) < 0)))) I I) I ?_
             have hif := of_if h
             refine AOps.split (fun hc => ?_) (fun hc => ?_)
             ·have h := hif.1 hc
              refine Zi I I I I (Z6 (v := (.sl 1 (a0.map Zl) false)) I I) I <| Zi I I I I (Z6 (v := (.int .i64 v17)) I I) I ?_
              have ⟨hg41, h⟩ := Zf h
              refine Zi I I I I (st_index (k := .i64) (l := a0) (enc := Zl) (z := []) (n := v17) (cs := [(.sl 1 ((a0.getD v17.toNat []).map Zm) false)]) (full := false) I s27 I I hg41 I) I <| Zi I I I I (st_loadI (cs := [(.sl 1 ((a0.getD v17.toNat []).map Zm) false)]) (v := (.sl 1 ((a0.getD v17.toNat []).map Zm) false)) I o49 I I) I <| Zi I I I I (Z6 (v := (.int .i64 v24)) I I) I ?_
              have ⟨hg42, h⟩ := Zf h
              refine Zi I I I I (st_index (k := .i64) (l := (a0.getD v17.toNat [])) (enc := Zm) (z := false) (n := v24) (cs := [(.bool ((a0.getD v17.toNat []).getD v24.toNat false))]) (full := false) I s49 I I hg42 I) I <| Zi I I I I (st_loadI (cs := [(.bool ((a0.getD v17.toNat []).getD v24.toNat false))]) (v := (.bool ((a0.getD v17.toNat []).getD v24.toNat false))) I o4 I I) I <| Z1 I (st_pickT (v := (.bool ((a0.getD v17.toNat []).getD v24.toNat false))) I I I) I <| Z8 ?_
              exact Zj (st' := ⟨[(0, (.sl 1 (a0.map Zl) false)), (5, (.vs 5)), (7, (.int .i64 v10)), (8, (.int .i64 v17)), (9, (.int .i64 v24)), (64, (.bool ((a0.getD v17.toNat []).getD v24.toNat false)))], [(5, (.vec 1 (List.map Z7 v25)))]⟩) ⟨rfl, rfl, rfl, rfl, rfl, rfl, trivial⟩ ⟨rfl, trivial⟩ (J32 ((a0.getD v17.toNat []).getD v24.toNat false) h)
             ·have h := hif.2 hc
              refine Z9 I I I I I I I <| Z9 I I I I I I I <| Z9 I I I I I I I <| Z9 I I I I I I I <| Z9 I I I I I I I <| Z9 I I I I I I I <| Z9 I I I I I I I <| Z1 I (Zu (v := (.bool false)) I I I) I ?_
              refine Z8 ?_
              exact Zj (st' := ⟨[(0, (.sl 1 (a0.map Zl) false)), (5, (.vs 5)), (7, (.int .i64 v10)), (8, (.int .i64 v17)), (9, (.int .i64 v24)), (64, (.bool false))], [(5, (.vec 1 (List.map Z7 v25)))]⟩) ⟨rfl, rfl, rfl, rfl, rfl, rfl, trivial⟩ ⟨rfl, trivial⟩ (J32 false h)
            ·have h := hif.2 hc
             refine Z9 I I I I I I I <| Z9 I I I I I I I <| Z9 I I I I I I I <| Z9 I I I I I I I <| Z9 I I I I I I I <| Z1 I (Zu (v := (.bool false)) I I I) I <| Z1 I (Z6 (v := (.bool false)) I I) I <| Z9 I I I I I I I ?_
             refine Z9 I I I I I I I <| Z9 I I I I I I I <| Z9 I I I I I I I <| Z9 I I I I I I I <| Z9 I I I I I I I <| Z9 I I I I I I I <| Z1 I (Zu (v := (.bool false)) I I I) I <| Z8 ?_
             exact Zj (st' := ⟨[(0, (.sl 1 (a0.map Zl) false)), (5, (.vs 5)), (7, (.int .i64 v10)), (8, (.int .i64 v17)), (9, (.int .i64 v24)), (64, (.bool false))], [(5, (.vec 1 (List.map Z7 v25)))]⟩) ⟨rfl, rfl, rfl, rfl, rfl, rfl, trivial⟩ ⟨rfl, trivial⟩ (J32 false h)
          ·have h := hif.2 hc
           refine AWp.exit <| At.thru ?_
           exact Zj (st' := ⟨[(0, (.sl 1 (a0.map Zl) false)), (5, (.vs 5)), (7, (.int .i64 v10)), (8, (.int .i64 v17))], [(5, (.vec 1 (List.map Z7 v25)))]⟩) ⟨rfl, rfl, rfl, rfl, trivial⟩ ⟨rfl, trivial⟩ (J26 v25 h)
       ·have h := hif.2 hc
        refine AWp.exit <| At.thru ?_
        exact Zj (st' := ⟨[(0, (.sl 1 (a0.map Zl) false)), (5, (.vs 5)), (7, (.int .i64 v10))], [(5, (.vec 1 (List.map Z7 v18)))]⟩) ⟨rfl, rfl, rfl, trivial⟩ ⟨rfl, trivial⟩ (J19 v18 h)
    ·have h := hif.2 hc
     refine AWp.exit <| At.thru ?_
     exact Zj (st' := ⟨[(5, (.vs 5))], [(5, (.vec 1 (List.map Z7 v11)))]⟩) ⟨rfl, trivial⟩ ⟨rfl, trivial⟩ (J12 v11 h)
 ·intro N k4 v h IH4 J4
  obtain ⟨v2, v3⟩ := v
  try dsimp only at h IH4 J4 ⊢
  cases k4 with
  | zero => cases h
  | succ k4 =>
   rw [F32_l4] at h
   refine Zb <| Zb <| Z4 <| Z1 I (Z6 (v := (.int .i64 v2)) I I) I <| Z1 I (Z6 (v := (.sl 1 (a0.map Zl) false)) I I) I <| Z1 I (stx_len (l := a0) (enc := Zl) I s27 I) I <| Z1 I (Zz (k := .i64) (a := v2) (b := (a0.length : Int)) (c := (decide (v2 < (a0.length : Int)))) I I I I) I <| Z8 ?_
   refine Za ?_
   have hif := of_if h
   refine Zq I (fun hc => ?_) (fun hc => ?_)
   ·have h := hif.1 hc
    refine Zs <| Za <| Zb <| AWp.block <| Z4 <| Z1 I (Z6 (v := (.vs 5)) I I) I <| Z1 I (Z6 (v := (.int .i64 v2)) I I) I ?_
    have ⟨hg44, h⟩ := Zf h
    refine Z1 I (Zv (k := .i64) (v := (.vs 5)) (n := 5) (off := 0) (len := v3.length) (es := (List.map Z7 v3)) (j := v2) (m := v2.toNat) I s29 I I (vecR_map _ _ _) I hg44 (Nat.zero_add _)) I ?_
    have ⟨hg45, h⟩ := Zf h
    refine Z1 I (st_storeV (l := v3) (enc := Z7) (z := 0) (a := (Int.negSucc 0)) (v := (.int .i64 (Int.negSucc 0))) sz3 I I hg45 I els_i64 I I I I) I <| Z8 <| At.end <| Za <| Z4 <| Z1 I (Z6 (v := (.int .i64 v2)) I I) I <| Z1 I (st_arith (k := .i64) (a := v2) (b := 1) (c := (IntKind.i64.wrap (v2 + 1))) I I I I) I <| Z1 I (Zh (v := (.int .i64 (IntKind.i64.wrap (v2 + 1)))) I I) I ?_
    refine Z8 ?_
    exact Zj (st' := ⟨[(0, (.sl 1 (a0.map Zl) false)), (1, (.int .i64 a1)), (5, (.vs 5)), (6, (.int .i64 (IntKind.i64.wrap (v2 + 1))))], [(5, (.vec 1 (List.map Z7 (v3.set v2.toNat (Int.negSucc 0)))))]⟩) ⟨rfl, rfl, rfl, rfl, trivial⟩ ⟨rfl, trivial⟩ (IH4 _ ((IntKind.i64.wrap (v2 + 1)), (v3.set v2.toNat (Int.negSucc 0))) (Nat.lt_succ_self _) h)
   ·have h := hif.2 hc
    refine AWp.exit <| At.thru ?_
    exact Zj (st' := ⟨[(0, (.sl 1 (a0.map Zl) false)), (1, (.int .i64 a1)), (5, (.vs 5))], [(5, (.vec 1 (List.map Z7 v3)))]⟩) ⟨rfl, rfl, rfl, trivial⟩ ⟨rfl, trivial⟩ (J4 v3 h)
end Go.AM.Gra
