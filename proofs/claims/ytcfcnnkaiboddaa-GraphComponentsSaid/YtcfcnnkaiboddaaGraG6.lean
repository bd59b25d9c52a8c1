/- What these functions compute, each with its walk: F40. -/
import Derived.Test.YtcfcnnkaiboddaaGraT
import Derived.Test.YtcfcnnkaiboddaaGraG3
namespace Go.AM.Gra
open Go Go.AM Go.Proofs
set_option maxRecDepth 100000
set_option maxHeartbeats 2000000
def F40_c7 (K : Nat) (v6 : (List (List Bool))) : Option ((List (List Bool))) :=
 some v6
def F40_c14 (K : Nat) (b9 : Int → (List (List Bool)) → Option ((List (List Bool)))) (v3 : Int) (v13 : (List (List Bool))) : Option ((List (List Bool))) :=
 b9 (IntKind.i64.wrap (v3 + 1)) v13
def F40_c21 (K : Nat) (b16 : Int → (List (List Bool)) → Option ((List (List Bool)))) (v10 : Int) (v20 : (List (List Bool))) : Option ((List (List Bool))) :=
 b16 (IntKind.i64.wrap (v10 + 1)) v20
def F40_j25 (K : Nat) (b23 : Int → (List (List Bool)) → Option ((List (List Bool)))) (v17 : Int) (v24 : (List (List Bool))) : Option ((List (List Bool))) :=
 b23 (IntKind.i64.wrap (v17 + 1)) v24
def F40_j39 (K : Nat) (b23 : Int → (List (List Bool)) → Option ((List (List Bool)))) (v17 : Int) (v38 : (List (List Bool))) : Option ((List (List Bool))) :=
 F40_j25 K b23 v17 v38
def F40_l19 (K : Nat) (a0 : (List (List Bool))) (v10 : Int) (v3 : Int) (c22 : (List (List Bool)) → Option ((List (List Bool)))) : Nat → Int → (List (List Bool)) → Option ((List (List Bool)))
 | 0, _, _ => none
 | k19 + 1, v17, v18 =>
  if (decide (v17 < (a0.length : Int))) = true then
   if (0 : Int) ≤ v10 ∧ v10 < v18.length then
    if v10.toNat < v18.length then
     if v10.toNat < v18.length then
      if (0 : Int) ≤ v3 ∧ v3 < (v18.getD v10.toNat []).length then
       if v10.toNat < v18.length then
        if v3.toNat < (v18.getD v10.toNat []).length then
         if ((v18.getD v10.toNat []).getD v3.toNat false) = true then
          if (0 : Int) ≤ v3 ∧ v3 < v18.length then
           if v3.toNat < v18.length then
            if v3.toNat < v18.length then
             if (0 : Int) ≤ v17 ∧ v17 < (v18.getD v3.toNat []).length then
              if v3.toNat < v18.length then
               if v17.toNat < (v18.getD v3.toNat []).length then
                if ((v18.getD v3.toNat []).getD v17.toNat false) = true then
                 if (0 : Int) ≤ v10 ∧ v10 < v18.length then
                  if v10.toNat < v18.length then
                   if v10.toNat < v18.length then
                    if (0 : Int) ≤ v17 ∧ v17 < (v18.getD v10.toNat []).length then
                     if v10.toNat < v18.length then
                      if v17.toNat < (v18.getD v10.toNat []).length then
                       F40_j39 K (F40_l19 K a0 v10 v3 c22 k19) v17 (v18.set v10.toNat ((v18.getD v10.toNat []).set v17.toNat true))
                      else none
                     else none
                    else none
                   else none
                  else none
                 else none
                else
                 F40_j39 K (F40_l19 K a0 v10 v3 c22 k19) v17 v18
               else none
              else none
             else none
            else none
           else none
          else none
         else
          F40_j25 K (F40_l19 K a0 v10 v3 c22 k19) v17 v18
        else none
       else none
      else none
     else none
    else none
   else none
  else
   c22 v18
def F40_l12 (K : Nat) (a0 : (List (List Bool))) (v3 : Int) (c15 : (List (List Bool)) → Option ((List (List Bool)))) : Nat → Int → (List (List Bool)) → Option ((List (List Bool)))
 | 0, _, _ => none
 | k12 + 1, v10, v11 =>
  if (decide (v10 < (a0.length : Int))) = true then
   F40_l19 K a0 v10 v3 (F40_c21 K (F40_l12 K a0 v3 c15 k12) v10) K 0 v11
  else
   c15 v11
def F40_l5 (K : Nat) (a0 : (List (List Bool))) (c8 : (List (List Bool)) → Option ((List (List Bool)))) : Nat → Int → (List (List Bool)) → Option ((List (List Bool)))
 | 0, _, _ => none
 | k5 + 1, v3, v4 =>
  if (decide (v3 < (a0.length : Int))) = true then
   F40_l12 K a0 v3 (F40_c14 K (F40_l5 K a0 c8 k5) v3) K 0 v4
  else
   c8 v4
def F40 (K : Nat) (a0 : (List (List Bool))) : Option ((List (List Bool))) :=
 (F61 K a0).bind fun v2 =>
  F40_l5 K a0 (F40_c7 K) K 0 v2
theorem F40_ok (K : Nat) (a0 : (List (List Bool))) (r : (List (List Bool))) (h : F40 K a0 = some r) : ACall P 40 ⟨[(.sl 1 (a0.map Zl) false)], [], (.sl 1 (r.map Zl) false), [], []⟩ := by
 refine acall_of Try.func40 Try.results40 rfl Try.ntmps40 rfl rfl rfl ?_
 intro E Q hP hN hro hret
 obtain ⟨P', nt', w0, F0, p0, S0, β0, ro0⟩ := E
 simp only at hP hN
 subst hP hN
 dsimp only [argT]
 unfold F40 at h
 refine Ze <| Z5 <| Z1 I (Zh (v := (.sl 1 [] false)) I I) I <| Z8 <| Za <| Ze <| Z5 <| Z1 I (Z6 (v := (.sl 1 (a0.map Zl) false)) I I) I ?_
 have ⟨v2, hv2, h⟩ := of_bind h
 refine Z1 I (st_call (d := some 8) (c := ⟨[(.sl 1 (a0.map Zl) false)] ++ [], [], .vs 8, [(8, (.tab (List.map (List.map Zn) v2) none))], [8]⟩) (ar := [(.sl 1 (a0.map Zl) false)]) (caps := []) (news := [8]) (forg := []) Try.call61 ((F61_ok K a0 v2 hv2).sw 2 8) I I ⟨rfl, trivial⟩ I trivial I) I <| Z1 I (Zh (v := (.vs 8)) I I) I <| Z8 <| Za <| Ze <| Ze <| Z5 <| Z1 I (Zh (v := (.int .i64 0)) I I) I ?_
 refine Z8 <| Za <| AWp.ghost (st' := ⟨[(0, (.sl 1 (a0.map Zl) false)), (3, (.vs 3)), (4, (.int .i64 0))], [(3, (.tab (List.map (List.map Zn) v2) none))]⟩) (fun a w h => (Zr ⟨[(0, (.sl 1 (a0.map Zl) false)), (3, (.vs 3)), (4, (.int .i64 0))], [(3, (.tab (List.map (List.map Zn) v2) none))]⟩ (ghost_sw (a := 8) (b := 3) I I a w (Zr ⟨[(0, (.sl 1 (a0.map Zl) false)), (3, (.vs 8)), (4, (.int .i64 0))], [(8, (.tab (List.map (List.map Zn) v2) none))]⟩ h ⟨rfl, rfl, rfl, trivial⟩ ⟨rfl, trivial⟩)) ⟨rfl, rfl, rfl, trivial⟩ ⟨rfl, trivial⟩)) <| Z10 (st' := ⟨[(0, (.sl 1 (a0.map Zl) false)), (3, (.vs 3)), (4, (.int .i64 0))], [(3, (.tab (List.map (List.map Zn) v2) none))]⟩) ⟨rfl, rfl, rfl, trivial⟩ ⟨rfl, trivial⟩ ?_
 refine Zq (V := Int × (List (List Bool))) (X := (List (List Bool))) (lp := fun k v => F40_l5 K a0 (F40_c7 K) k v.1 v.2 = some r) (sh := fun v => ⟨[(0, (.sl 1 (a0.map Zl) false)), (3, (.vs 3)), (4, (.int .i64 v.1))], [(3, (.tab (List.map (List.map Zn) v.2) none))]⟩) (x := fun v => F40_c7 K v = some r) (shx := fun v => ⟨[(3, (.vs 3))], [(3, (.tab (List.map (List.map Zn) v) none))]⟩) (k := K) (v := (0, v2)) h ?_ ?_
 ·intro v h
  revert h
  revert v
  intro v6 h
  try dsimp only at h ⊢
  unfold F40_c7 at h
  refine Za <| Ze <| Z5 <| Z1 I (Z6 (v := (.vs 3)) I I) I <| Z1 I (Zh (v := (.vs 3)) I I) I <| Z8 <| Za <| AWp.ret ?_
  refine At.ghost (st' := ⟨[(2, (.sl 1 (v6.map Zl) false))], []⟩) (fun a w h => (Zr ⟨[(2, (.sl 1 (v6.map Zl) false))], []⟩ (ghost_freezeT (m := 3) (enc := Zn) (l := v6) a w (Zr ⟨[(2, (.vs 3))], [(3, (.tab (List.map (List.map Zn) v6) none))]⟩ h ⟨rfl, trivial⟩ ⟨rfl, trivial⟩)) ⟨rfl, trivial⟩ trivial)) ?_
  have h := Option.some.inj h
  subst h
  refine (hret _ ?_).1
  exact ⟨[(.sl 1 (v6.map Zl) false)], ⟨rfl, trivial⟩, rfl, trivial⟩
 ·intro N k5 v h IH5 J5
  obtain ⟨v3, v4⟩ := v
  try dsimp only at h IH5 J5 ⊢
  cases k5 with
  | zero => cases h
  | succ k5 =>
   rw [F40_l5] at h
   refine Ze <| Ze <| Z5 <| Z1 I (Z6 (v := (.int .i64 v3)) I I) I <| Z1 I (Z6 (v := (.sl 1 (a0.map Zl) false)) I I) I <| Z1 I (stx_len (l := a0) (enc := Zl) I s27 I) I <| Z1 I (st_cmp (k := .i64) (a := v3) (b := (a0.length : Int)) (c := (decide (v3 < (a0.length : Int)))) I I I I) I <| Z8 ?_
   refine Za ?_
   have hif := of_if h
   refine Zp I (fun hc => ?_) (fun hc => ?_)
   ·have h := hif.1 hc
    refine Zs <| Za <| Ze <| AWp.block <| Ze <| Z5 <| Z1 I (Zh (v := (.int .i64 0)) I I) I <| Z8 ?_
    refine Za <| Z10 (st' := ⟨[(0, (.sl 1 (a0.map Zl) false)), (3, (.vs 3)), (4, (.int .i64 v3)), (5, (.int .i64 0))], [(3, (.tab (List.map (List.map Zn) v4) none))]⟩) ⟨rfl, rfl, rfl, rfl, trivial⟩ ⟨rfl, trivial⟩ ?_
    refine Zq (V := Int × (List (List Bool))) (X := (List (List Bool))) (lp := fun k v => F40_l12 K a0 v3 (F40_c14 K (F40_l5 K a0 (F40_c7 K) k5) v3) k v.1 v.2 = some r) (sh := fun v => ⟨[(0, (.sl 1 (a0.map Zl) false)), (3, (.vs 3)), (4, (.int .i64 v3)), (5, (.int .i64 v.1))], [(3, (.tab (List.map (List.map Zn) v.2) none))]⟩) (x := fun v => F40_c14 K (F40_l5 K a0 (F40_c7 K) k5) v3 v = some r) (shx := fun v => ⟨[(0, (.sl 1 (a0.map Zl) false)), (3, (.vs 3)), (4, (.int .i64 v3))], [(3, (.tab (List.map (List.map Zn) v) none))]⟩) (k := K) (v := (0, v4)) h ?_ ?_
    ·intro v h
     revert h
     revert v
     intro v13 h
     try dsimp only at h ⊢
     unfold F40_c14 at h
     refine At.end <| Za <| Z5 <| Z1 I (Z6 (v := (.int .i64 v3)) I I) I <| Z1 I (Zz (k := .i64) (a := v3) (b := 1) (c := (IntKind.i64.wrap (v3 + 1))) I I I I) I <| Z1 I (Zh (v := (.int .i64 (IntKind.i64.wrap (v3 + 1)))) I I) I <| Z8 ?_
     exact Zj (st' := ⟨[(0, (.sl 1 (a0.map Zl) false)), (3, (.vs 3)), (4, (.int .i64 (IntKind.i64.wrap (v3 + 1))))], [(3, (.tab (List.map (List.map Zn) v13) none))]⟩) ⟨rfl, rfl, rfl, trivial⟩ ⟨rfl, trivial⟩ (IH5 _ ((IntKind.i64.wrap (v3 + 1)), v13) (Nat.lt_succ_self _) h)
    ·intro N k12 v h IH12 J12
     obtain ⟨v10, v11⟩ := v
     try dsimp only at h IH12 J12 ⊢
     cases k12 with
     | zero => cases h
     | succ k12 =>
      rw [F40_l12] at h
      refine Ze <| Ze <| Z5 <| Z1 I (Z6 (v := (.int .i64 v10)) I I) I <| Z1 I (Z6 (v := (.sl 1 (a0.map Zl) false)) I I) I <| Z1 I (stx_len (l := a0) (enc := Zl) I s27 I) I <| Z1 I (st_cmp (k := .i64) (a := v10) (b := (a0.length : Int)) (c := (decide (v10 < (a0.length : Int)))) I I I I) I <| Z8 ?_
      refine Za ?_
      have hif := of_if h
      refine Zp I (fun hc => ?_) (fun hc => ?_)
      ·have h := hif.1 hc
       refine Zs <| Za <| Ze <| AWp.block <| Ze <| Z5 <| Z1 I (Zh (v := (.int .i64 0)) I I) I <| Z8 ?_
       refine Za <| Z10 (st' := ⟨[(0, (.sl 1 (a0.map Zl) false)), (3, (.vs 3)), (4, (.int .i64 v3)), (5, (.int .i64 v10)), (6, (.int .i64 0))], [(3, (.tab (List.map (List.map Zn) v11) none))]⟩) ⟨rfl, rfl, rfl, rfl, rfl, trivial⟩ ⟨rfl, trivial⟩ ?_
       refine Zq (V := Int × (List (List Bool))) (X := (List (List Bool))) (lp := fun k v => F40_l19 K a0 v10 v3 (F40_c21 K (F40_l12 K a0 v3 (F40_c14 K (F40_l5 K a0 (F40_c7 K) k5) v3) k12) v10) k v.1 v.2 = some r) (sh := fun v => ⟨[(0, (.sl 1 (a0.map Zl) false)), (3, (.vs 3)), (4, (.int .i64 v3)), (5, (.int .i64 v10)), (6, (.int .i64 v.1))], [(3, (.tab (List.map (List.map Zn) v.2) none))]⟩) (x := fun v => F40_c21 K (F40_l12 K a0 v3 (F40_c14 K (F40_l5 K a0 (F40_c7 K) k5) v3) k12) v10 v = some r) (shx := fun v => ⟨[(0, (.sl 1 (a0.map Zl) false)), (3, (.vs 3)), (4, (.int .i64 v3)), (5, (.int .i64 v10))], [(3, (.tab (List.map (List.map Zn) v) none))]⟩) (k := K) (v := (0, v11)) h ?_ ?_
       ·intro v h
        revert h
        revert v
        intro v20 h
        try dsimp only at h ⊢
        unfold F40_c21 at h
        refine At.end <| Za <| Z5 <| Z1 I (Z6 (v := (.int .i64 v10)) I I) I <| Z1 I (Zz (k := .i64) (a := v10) (b := 1) (c := (IntKind.i64.wrap (v10 + 1))) I I I I) I <| Z1 I (Zh (v := (.int .i64 (IntKind.i64.wrap (v10 + 1)))) I I) I <| Z8 ?_
        exact Zj (st' := ⟨[(0, (.sl 1 (a0.map Zl) false)), (3, (.vs 3)), (4, (.int .i64 v3)), (5, (.int .i64 (IntKind.i64.wrap (v10 + 1))))], [(3, (.tab (List.map (List.map Zn) v20) none))]⟩) ⟨rfl, rfl, rfl, rfl, trivial⟩ ⟨rfl, trivial⟩ (IH12 _ ((IntKind.i64.wrap (v10 + 1)), v20) (Nat.lt_succ_self _) h)
       ·intro N k19 v h IH19 J19
        obtain ⟨v17, v18⟩ := v
        try dsimp only at h IH19 J19 ⊢
        cases k19 with
        | zero => cases h
        | succ k19 =>
         rw [F40_l19] at h
         refine Ze <| Ze <| Z5 <| Z1 I (Z6 (v := (.int .i64 v17)) I I) I <| Z1 I (Z6 (v := (.sl 1 (a0.map Zl) false)) I I) I <| Z1 I (stx_len (l := a0) (enc := Zl) I s27 I) I <| Z1 I (st_cmp (k := .i64) (a := v17) (b := (a0.length : Int)) (c := (decide (v17 < (a0.length : Int)))) I I I I) I <| Z8 ?_
         refine Za ?_
         have hif := of_if h
         refine Zp I (fun hc => ?_) (fun hc => ?_)
         ·have h := hif.1 hc
          refine Zs <| Za <| Ze ?_
          refine AWp.blockJoin (V := (List (List Bool))) (lp := fun v => F40_j25 K (F40_l19 K a0 v10 v3 (F40_c21 K (F40_l12 K a0 v3 (F40_c14 K (F40_l5 K a0 (F40_c7 K) k5) v3) k12) v10) k19) v17 v = some r) (sh := fun v => ⟨[(0, (.sl 1 (a0.map Zl) false)), (3, (.vs 3)), (4, (.int .i64 v3)), (5, (.int .i64 v10)), (6, (.int .i64 v17))], [(3, (.tab (List.map (List.map Zn) v) none))]⟩) ?_ ?_
          ·intro v h
           revert h
           revert v
           intro v24 h
           try dsimp only at h ⊢
           unfold F40_j25 at h
           refine Za <| Z5 <| Z1 I (Z6 (v := (.int .i64 v17)) I I) I <| Z1 I (Zz (k := .i64) (a := v17) (b := 1) (c := (IntKind.i64.wrap (v17 + 1))) I I I I) I <| Z1 I (Zh (v := (.int .i64 (IntKind.i64.wrap (v17 + 1)))) I I) I <| Z8 ?_
           exact Zj (st' := ⟨[(0, (.sl 1 (a0.map Zl) false)), (3, (.vs 3)), (4, (.int .i64 v3)), (5, (.int .i64 v10)), (6, (.int .i64 (IntKind.i64.wrap (v17 + 1))))], [(3, (.tab (List.map (List.map Zn) v24) none))]⟩) ⟨rfl, rfl, rfl, rfl, rfl, trivial⟩ ⟨rfl, trivial⟩ (IH19 _ ((IntKind.i64.wrap (v17 + 1)), v24) (Nat.lt_succ_self _) h)
          ·intro J25
           refine Ze <| Z5 <| Z1 I (Z6 (v := (.vs 3)) I I) I <| Z1 I (Z6 (v := (.int .i64 v10)) I I) I ?_
           have ⟨hg26, h⟩ := Zi h
           refine Z1 I (st_indexT (enc := Zn) (l := v18) (k := .i64) (j := v10) (m := v10.toNat) I s27 I I I hg26 I) I ?_
           have ⟨hg27, h⟩ := Zi h
           refine Z1 I (st_loadT (enc := Zn) (l := v18) I o49 I I hg27) I <| Z1 I (Z6 (v := (.int .i64 v3)) I I) I ?_
           have ⟨hg28, h⟩ := Zi h
           have ⟨hg29, h⟩ := Zi h
           refine Z1 I (st_indexTR (enc := Zn) (l := v18) (k := .i64) (j := v3) (m := v3.toNat) I s49 I I I hg28 hg29 I) I ?_
           have ⟨hg30, h⟩ := Zi h
           have ⟨hg31, h⟩ := Zi h
           refine Z1 I (st_loadTP (enc := Zn) (l := v18) (z := false) (v := (.bool ((v18.getD v10.toNat []).getD v3.toNat false))) I o4 I I hg30 hg31 I) I <| Z1 I (Z6 (v := (.bool ((v18.getD v10.toNat []).getD v3.toNat false))) I I) I ?_
           have hif := of_if h
           refine AOps.split (fun hc => ?_) (fun hc => ?_)
           ·have h := hif.1 hc
            refine Zk I I I I (Z6 (v := (.vs 3)) I I) I <| Zk I I I I (Z6 (v := (.int .i64 v3)) I I) I ?_
            have ⟨hg32, h⟩ := Zi h
            refine Zk I I I I (st_indexT (enc := Zn) (l := v18) (k := .i64) (j := v3) (m := v3.toNat) I s27 I I I hg32 I) I ?_
            have ⟨hg33, h⟩ := Zi h
            refine Zk I I I I (st_loadT (enc := Zn) (l := v18) I o49 I I hg33) I <| Zk I I I I (Z6 (v := (.int .i64 v17)) I I) I ?_
            have ⟨hg34, h⟩ := Zi h
            have ⟨hg35, h⟩ := Zi h
            refine Zk I I I I (st_indexTR (enc := Zn) (l := v18) (k := .i64) (j := v17) (m := v17.toNat) I s49 I I I hg34 hg35 I) I ?_
            have ⟨hg36, h⟩ := Zi h
            have ⟨hg37, h⟩ := Zi h
            refine Zk I I I I (st_loadTP (enc := Zn) (l := v18) (z := false) (v := (.bool ((v18.getD v3.toNat []).getD v17.toNat false))) I o4 I I hg36 hg37 I) I <| Z1 I (st_pickT (v := (.bool ((v18.getD v3.toNat []).getD v17.toNat false))) I I I) I <| Z8 <| Za ?_
            refine AWp.join (V := (List (List Bool))) (lp := fun v => F40_j39 K (F40_l19 K a0 v10 v3 (F40_c21 K (F40_l12 K a0 v3 (F40_c14 K (F40_l5 K a0 (F40_c7 K) k5) v3) k12) v10) k19) v17 v = some r) (sh := fun v => ⟨[(0, (.sl 1 (a0.map Zl) false)), (3, (.vs 3)), (4, (.int .i64 v3)), (5, (.int .i64 v10)), (6, (.int .i64 v17))], [(3, (.tab (List.map (List.map Zn) v) none))]⟩) ?_ ?_
            ·intro v h
             revert h
             revert v
             intro v38 h
             try dsimp only at h ⊢
             unfold F40_j39 at h
             refine At.end ?_
             exact Zj (st' := ⟨[(0, (.sl 1 (a0.map Zl) false)), (3, (.vs 3)), (4, (.int .i64 v3)), (5, (.int .i64 v10)), (6, (.int .i64 v17))], [(3, (.tab (List.map (List.map Zn) v38) none))]⟩) ⟨rfl, rfl, rfl, rfl, rfl, trivial⟩ ⟨rfl, trivial⟩ (J25 v38 h)
            ·intro J39
             have hif := of_if h
             refine Zp I (fun hc => ?_) (fun hc => ?_)
             ·have h := hif.1 hc
              refine Z5 <| Z1 I (Z6 (v := (.vs 3)) I I) I <| Z1 I (Z6 (v := (.int .i64 v10)) I I) I ?_
              have ⟨hg40, h⟩ := Zi h
              refine Z1 I (st_indexT (enc := Zn) (l := v18) (k := .i64) (j := v10) (m := v10.toNat) I s27 I I I hg40 I) I ?_
              have ⟨hg41, h⟩ := Zi h
              refine Z1 I (st_loadT (enc := Zn) (l := v18) I o49 I I hg41) I <| Z1 I (Z6 (v := (.int .i64 v17)) I I) I ?_
              have ⟨hg42, h⟩ := Zi h
              have ⟨hg43, h⟩ := Zi h
              refine Z1 I (st_indexTR (enc := Zn) (l := v18) (k := .i64) (j := v17) (m := v17.toNat) I s49 I I I hg42 hg43 I) I ?_
              have ⟨hg44, h⟩ := Zi h
              have ⟨hg45, h⟩ := Zi h
              refine Z1 I (st_storeTP (enc := Zn) (l := v18) (a := true) (v := (.bool true)) sz4 I I hg44 hg45 I I I I) I <| Z8 ?_
              exact Zj (st' := ⟨[(0, (.sl 1 (a0.map Zl) false)), (3, (.vs 3)), (4, (.int .i64 v3)), (5, (.int .i64 v10)), (6, (.int .i64 v17))], [(3, (.tab (List.map (List.map Zn) (v18.set v10.toNat ((v18.getD v10.toNat []).set v17.toNat true))) none))]⟩) ⟨rfl, rfl, rfl, rfl, rfl, trivial⟩ ⟨rfl, trivial⟩ (J39 (v18.set v10.toNat ((v18.getD v10.toNat []).set v17.toNat true)) h)
             ·have h := hif.2 hc
              refine Zs ?_
              exact Zj (st' := ⟨[(0, (.sl 1 (a0.map Zl) false)), (3, (.vs 3)), (4, (.int .i64 v3)), (5, (.int .i64 v10)), (6, (.int .i64 v17))], [(3, (.tab (List.map (List.map Zn) v18) none))]⟩) ⟨rfl, rfl, rfl, rfl, rfl, trivial⟩ ⟨rfl, trivial⟩ (J39 v18 h)
           ·have h := hif.2 hc
            refine Z7 I I I I I I I <| Z7 I I I I I I I <| Z7 I I I I I I I <| Z7 I I I I I I I <| Z7 I I I I I I I <| Z7 I I I I I I I <| Z7 I I I I I I I <| Z1 I (Zx (v := (.bool false)) I I I) I ?_
            refine Z8 <| Za ?_
            refine Zp (b := false) I (fun hc => ?_) (fun hc => ?_)
            ·cases hc
            refine Zs <| At.end ?_
            exact Zj (st' := ⟨[(0, (.sl 1 (a0.map Zl) false)), (3, (.vs 3)), (4, (.int .i64 v3)), (5, (.int .i64 v10)), (6, (.int .i64 v17))], [(3, (.tab (List.map (List.map Zn) v18) none))]⟩) ⟨rfl, rfl, rfl, rfl, rfl, trivial⟩ ⟨rfl, trivial⟩ (J25 v18 h)
         ·have h := hif.2 hc
          refine AWp.exit <| At.thru ?_
          exact Zj (st' := ⟨[(0, (.sl 1 (a0.map Zl) false)), (3, (.vs 3)), (4, (.int .i64 v3)), (5, (.int .i64 v10))], [(3, (.tab (List.map (List.map Zn) v18) none))]⟩) ⟨rfl, rfl, rfl, rfl, trivial⟩ ⟨rfl, trivial⟩ (J19 v18 h)
      ·have h := hif.2 hc
       refine AWp.exit <| At.thru ?_
       exact Zj (st' := ⟨[(0, (.sl 1 (a0.map Zl) false)), (3, (.vs 3)), (4, (.int .i64 v3))], [(3, (.tab (List.map (List.map Zn) v11) none))]⟩) ⟨rfl, rfl, rfl, trivial⟩ ⟨rfl, trivial⟩ (J12 v11 h)
   ·have h := hif.2 hc
    refine AWp.exit <| At.thru ?_
    exact Zj (st' := ⟨[(3, (.vs 3))], [(3, (.tab (List.map (List.map Zn) v4) none))]⟩) ⟨rfl, trivial⟩ ⟨rfl, trivial⟩ (J5 v4 h)
end Go.AM.Gra
