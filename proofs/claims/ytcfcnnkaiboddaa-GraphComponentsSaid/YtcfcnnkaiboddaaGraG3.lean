/- What these functions compute, each with its walk: F61. -/
import Derived.Test.YtcfcnnkaiboddaaGraT
import Derived.Test.YtcfcnnkaiboddaaGraG2
namespace Go.AM.Gra
open Go Go.AM Go.Proofs
set_option maxRecDepth 100000
set_option maxHeartbeats 2000000
def F61_c7 (K : Nat) (v6 : (List (List Bool))) : Option ((List (List Bool))) :=
 some v6
def F61_c14 (K : Nat) (b9 : Int → (List (List Bool)) → Option ((List (List Bool)))) (v3 : Int) (v13 : (List (List Bool))) : Option ((List (List Bool))) :=
 b9 (IntKind.i64.wrap (v3 + 1)) v13
def F61_l12 (K : Nat) (a0 : (List (List Bool))) (v3 : Int) (c15 : (List (List Bool)) → Option ((List (List Bool)))) : Nat → Int → (List (List Bool)) → Option ((List (List Bool)))
 | 0, _, _ => none
 | k12 + 1, v10, v11 =>
  if (decide (v10 < (a0.length : Int))) = true then
   if (0 : Int) ≤ v3 ∧ v3 < v11.length then
    if v3.toNat < v11.length then
     if (0 : Int) ≤ v3 ∧ v3 < a0.length then
      if (0 : Int) ≤ v10 ∧ v10 < (a0.getD v3.toNat []).length then
       if v3.toNat < v11.length then
        if (0 : Int) ≤ v10 ∧ v10 < (v11.getD v3.toNat []).length then
         if v3.toNat < v11.length then
          if v10.toNat < (v11.getD v3.toNat []).length then
           (F61_l12 K a0 v3 c15 k12) (IntKind.i64.wrap (v10 + 1)) (v11.set v3.toNat ((v11.getD v3.toNat []).set v10.toNat ((a0.getD v3.toNat []).getD v10.toNat false)))
          else none
         else none
        else none
       else none
      else none
     else none
    else none
   else none
  else
   c15 v11
def F61_l5 (K : Nat) (a0 : (List (List Bool))) (c8 : (List (List Bool)) → Option ((List (List Bool)))) : Nat → Int → (List (List Bool)) → Option ((List (List Bool)))
 | 0, _, _ => none
 | k5 + 1, v3, v4 =>
  if (decide (v3 < (a0.length : Int))) = true then
   F61_l12 K a0 v3 (F61_c14 K (F61_l5 K a0 c8 k5) v3) K 0 v4
  else
   c8 v4
def F61 (K : Nat) (a0 : (List (List Bool))) : Option ((List (List Bool))) :=
 (F25 K (a0.length : Int)).bind fun v2 =>
  F61_l5 K a0 (F61_c7 K) K 0 v2
theorem F61_ok (K : Nat) (a0 : (List (List Bool))) (r : (List (List Bool))) (h : F61 K a0 = some r) : ACall P 61 ⟨[(.sl 1 (a0.map Zl) false)], [], .vs 2, [(2, (.tab (List.map (List.map Zn) r) none))], [2]⟩ := by
 refine acall_of Try.func61 Try.results61 rfl Try.ntmps61 rfl rfl rfl ?_
 intro E Q hP hN hro hret
 obtain ⟨P', nt', w0, F0, p0, S0, β0, ro0⟩ := E
 simp only at hP hN
 subst hP hN
 dsimp only [argT]
 unfold F61 at h
 refine Ze <| Z5 <| Z1 I (Zh (v := (.sl 1 [] false)) I I) I <| Z8 <| Za <| Ze <| Z5 <| Z1 I (Z6 (v := (.sl 1 (a0.map Zl) false)) I I) I ?_
 refine Z1 I (stx_len (l := a0) (enc := Zl) I s27 I) I ?_
 have ⟨v2, hv2, h⟩ := of_bind h
 refine Z1 I (st_call (d := some 8) (c := ⟨[(.int .i64 (a0.length : Int))] ++ [], [], .vs 8, [(8, (.tab (List.map (List.map Zn) v2) none))], [8]⟩) (ar := [(.int .i64 (a0.length : Int))]) (caps := []) (news := [8]) (forg := []) Try.call25 ((F25_ok K (a0.length : Int) v2 hv2).sw 2 8) I I ⟨rfl, trivial⟩ I trivial I) I <| Z1 I (Zh (v := (.vs 8)) I I) I <| Z8 <| Za <| Ze <| Ze <| Z5 <| Z1 I (Zh (v := (.int .i64 0)) I I) I ?_
 refine Z8 <| Za <| AWp.ghost (st' := ⟨[(0, (.sl 1 (a0.map Zl) false)), (3, (.vs 3)), (4, (.int .i64 0))], [(3, (.tab (List.map (List.map Zn) v2) none))]⟩) (fun a w h => (Zr ⟨[(0, (.sl 1 (a0.map Zl) false)), (3, (.vs 3)), (4, (.int .i64 0))], [(3, (.tab (List.map (List.map Zn) v2) none))]⟩ (ghost_sw (a := 8) (b := 3) I I a w (Zr ⟨[(0, (.sl 1 (a0.map Zl) false)), (3, (.vs 8)), (4, (.int .i64 0))], [(8, (.tab (List.map (List.map Zn) v2) none))]⟩ h ⟨rfl, rfl, rfl, trivial⟩ ⟨rfl, trivial⟩)) ⟨rfl, rfl, rfl, trivial⟩ ⟨rfl, trivial⟩)) <| Z10 (st' := ⟨[(0, (.sl 1 (a0.map Zl) false)), (3, (.vs 3)), (4, (.int .i64 0))], [(3, (.tab (List.map (List.map Zn) v2) none))]⟩) ⟨rfl, rfl, rfl, trivial⟩ ⟨rfl, trivial⟩ ?_
 refine Zq (V := Int × (List (List Bool))) (X := (List (List Bool))) (lp := fun k v => F61_l5 K a0 (F61_c7 K) k v.1 v.2 = some r) (sh := fun v => ⟨[(0, (.sl 1 (a0.map Zl) false)), (3, (.vs 3)), (4, (.int .i64 v.1))], [(3, (.tab (List.map (List.map Zn) v.2) none))]⟩) (x := fun v => F61_c7 K v = some r) (shx := fun v => ⟨[(3, (.vs 3))], [(3, (.tab (List.map (List.map Zn) v) none))]⟩) (k := K) (v := (0, v2)) h ?_ ?_
 ·intro v h
  revert h
  revert v
  intro v6 h
  try dsimp only at h ⊢
  unfold F61_c7 at h
  refine Za <| Ze <| Z5 <| Z1 I (Z6 (v := (.vs 3)) I I) I <| Z1 I (Zh (v := (.vs 3)) I I) I <| Z8 <| Za <| AWp.ret ?_
  refine At.ghost (st' := ⟨[(2, (.vs 2))], [(2, (.tab (List.map (List.map Zn) v6) none))]⟩) (fun a w h => (Zr ⟨[(2, (.vs 2))], [(2, (.tab (List.map (List.map Zn) v6) none))]⟩ (ghost_sw (a := 3) (b := 2) I I a w (Zr ⟨[(2, (.vs 3))], [(3, (.tab (List.map (List.map Zn) v6) none))]⟩ h ⟨rfl, trivial⟩ ⟨rfl, trivial⟩)) ⟨rfl, trivial⟩ ⟨rfl, trivial⟩)) ?_
  have h := Option.some.inj h
  subst h
  refine (hret _ ?_).1
  exact ⟨[(.vs 2)], ⟨rfl, trivial⟩, rfl, ⟨rfl, trivial⟩⟩
 ·intro N k5 v h IH5 J5
  obtain ⟨v3, v4⟩ := v
  try dsimp only at h IH5 J5 ⊢
  cases k5 with
  | zero => cases h
  | succ k5 =>
   rw [F61_l5] at h
   refine Ze <| Ze <| Z5 <| Z1 I (Z6 (v := (.int .i64 v3)) I I) I <| Z1 I (Z6 (v := (.sl 1 (a0.map Zl) false)) I I) I <| Z1 I (stx_len (l := a0) (enc := Zl) I s27 I) I <| Z1 I (st_cmp (k := .i64) (a := v3) (b := (a0.length : Int)) (c := (decide (v3 < (a0.length : Int)))) I I I I) I <| Z8 ?_
   refine Za ?_
   have hif := of_if h
   refine Zp I (fun hc => ?_) (fun hc => ?_)
   ·have h := hif.1 hc
    refine Zs <| Za <| Ze <| AWp.block <| Ze <| Z5 <| Z1 I (Zh (v := (.int .i64 0)) I I) I <| Z8 ?_
    refine Za <| Z10 (st' := ⟨[(0, (.sl 1 (a0.map Zl) false)), (3, (.vs 3)), (4, (.int .i64 v3)), (5, (.int .i64 0))], [(3, (.tab (List.map (List.map Zn) v4) none))]⟩) ⟨rfl, rfl, rfl, rfl, trivial⟩ ⟨rfl, trivial⟩ ?_
    refine Zq (V := Int × (List (List Bool))) (X := (List (List Bool))) (lp := fun k v => F61_l12 K a0 v3 (F61_c14 K (F61_l5 K a0 (F61_c7 K) k5) v3) k v.1 v.2 = some r) (sh := fun v => ⟨[(0, (.sl 1 (a0.map Zl) false)), (3, (.vs 3)), (4, (.int .i64 v3)), (5, (.int .i64 v.1))], [(3, (.tab (List.map (List.map Zn) v.2) none))]⟩) (x := fun v => F61_c14 K (F61_l5 K a0 (F61_c7 K) k5) v3 v = some r) (shx := fun v => ⟨[(0, (.sl 1 (a0.map Zl) false)), (3, (.vs 3)), (4, (.int .i64 v3))], [(3, (.tab (List.map (List.map Zn) v) none))]⟩) (k := K) (v := (0, v4)) h ?_ ?_
    ·intro v h
     revert h
     revert v
     intro v13 h
     try dsimp only at h ⊢
     unfold F61_c14 at h
     refine At.end <| Za <| Z5 <| Z1 I (Z6 (v := (.int .i64 v3)) I I) I <| Z1 I (Zz (k := .i64) (a := v3) (b := 1) (c := (IntKind.i64.wrap (v3 + 1))) I I I I) I <| Z1 I (Zh (v := (.int .i64 (IntKind.i64.wrap (v3 + 1)))) I I) I <| Z8 ?_
     exact Zj (st' := ⟨[(0, (.sl 1 (a0.map Zl) false)), (3, (.vs 3)), (4, (.int .i64 (IntKind.i64.wrap (v3 + 1))))], [(3, (.tab (List.map (List.map Zn) v13) none))]⟩) ⟨rfl, rfl, rfl, trivial⟩ ⟨rfl, trivial⟩ (IH5 _ ((IntKind.i64.wrap (v3 + 1)), v13) (Nat.lt_succ_self _) h)
    ·intro N k12 v h IH12 J12
     obtain ⟨v10, v11⟩ := v
     try dsimp only at h IH12 J12 ⊢
     cases k12 with
     | zero => cases h
     | succ k12 =>
      rw [F61_l12] at h
      refine Ze <| Ze <| Z5 <| Z1 I (Z6 (v := (.int .i64 v10)) I I) I <| Z1 I (Z6 (v := (.sl 1 (a0.map Zl) false)) I I) I <| Z1 I (stx_len (l := a0) (enc := Zl) I s27 I) I <| Z1 I (st_cmp (k := .i64) (a := v10) (b := (a0.length : Int)) (c := (decide (v10 < (a0.length : Int)))) I I I I) I <| Z8 ?_
      refine Za ?_
      have hif := of_if h
      refine Zp I (fun hc => ?_) (fun hc => ?_)
      ·have h := hif.1 hc
       refine Zs <| Za <| Ze <| AWp.block <| AWp.regionD mixed <| Zf 0 I (Z6 (v := (.vs 3)) I I) <| Zf 1 I (Z6 (v := (.int .i64 v3)) I I) ?_
       have ⟨hg17, h⟩ := Zi h
       refine Zf 2 I (st_indexT (enc := Zn) (l := v11) (k := .i64) (j := v3) (m := v3.toNat) I s27 I I I hg17 I) ?_
       have ⟨hg18, h⟩ := Zi h
       refine Zf 3 I (st_loadT (enc := Zn) (l := v11) I o49 I I hg18) <| Zf 4 I (Z6 (v := (.int .i64 v10)) I I) <| Zf 5 I (Z6 (v := (.sl 1 (a0.map Zl) false)) I I) <| Zf 6 I (Z6 (v := (.int .i64 v3)) I I) ?_
       have ⟨hg19, h⟩ := Zi h
       refine Zf 7 I (st_index (k := .i64) (l := a0) (enc := Zl) (z := []) (n := v3) (cs := [(.sl 1 ((a0.getD v3.toNat []).map Zn) false)]) (full := false) I s27 I I hg19 I) <| Zf 8 I (st_loadI (cs := [(.sl 1 ((a0.getD v3.toNat []).map Zn) false)]) (v := (.sl 1 ((a0.getD v3.toNat []).map Zn) false)) I o49 I I) <| Zf 9 I (Z6 (v := (.int .i64 v10)) I I) ?_
       have ⟨hg20, h⟩ := Zi h
       refine Zf 10 I (st_index (k := .i64) (l := (a0.getD v3.toNat [])) (enc := Zn) (z := false) (n := v10) (cs := [(.bool ((a0.getD v3.toNat []).getD v10.toNat false))]) (full := false) I s49 I I hg20 I) <| Zf 11 I (st_loadI (cs := [(.bool ((a0.getD v3.toNat []).getD v10.toNat false))]) (v := (.bool ((a0.getD v3.toNat []).getD v10.toNat false))) I o4 I I) ?_
       have ⟨hg21, h⟩ := Zi h
       have ⟨hg22, h⟩ := Zi h
       refine Zf 12 I (st_indexTR (enc := Zn) (l := v11) (k := .i64) (j := v10) (m := v10.toNat) I s49 I I I hg21 hg22 I) ?_
       have ⟨hg23, h⟩ := Zi h
       have ⟨hg24, h⟩ := Zi h
       refine Zf 13 I (st_storeTP (enc := Zn) (l := v11) (a := ((a0.getD v3.toNat []).getD v10.toNat false)) (v := (.bool ((a0.getD v3.toNat []).getD v10.toNat false))) sz4 I I hg23 hg24 I I I I) <| AOpsD.nil (by kernel_rfl) I <| At.end <| Za <| Z5 <| Z1 I (Z6 (v := (.int .i64 v10)) I I) I <| Z1 I (Zz (k := .i64) (a := v10) (b := 1) (c := (IntKind.i64.wrap (v10 + 1))) I I I I) I <| Z1 I (Zh (v := (.int .i64 (IntKind.i64.wrap (v10 + 1)))) I I) I ?_
       refine Z8 ?_
       exact Zj (st' := ⟨[(0, (.sl 1 (a0.map Zl) false)), (3, (.vs 3)), (4, (.int .i64 v3)), (5, (.int .i64 (IntKind.i64.wrap (v10 + 1))))], [(3, (.tab (List.map (List.map Zn) (v11.set v3.toNat ((v11.getD v3.toNat []).set v10.toNat ((a0.getD v3.toNat []).getD v10.toNat false)))) none))]⟩) ⟨rfl, rfl, rfl, rfl, trivial⟩ ⟨rfl, trivial⟩ (IH12 _ ((IntKind.i64.wrap (v10 + 1)), (v11.set v3.toNat ((v11.getD v3.toNat []).set v10.toNat ((a0.getD v3.toNat []).getD v10.toNat false)))) (Nat.lt_succ_self _) h)
      ·have h := hif.2 hc
       refine AWp.exit <| At.thru ?_
       exact Zj (st' := ⟨[(0, (.sl 1 (a0.map Zl) false)), (3, (.vs 3)), (4, (.int .i64 v3))], [(3, (.tab (List.map (List.map Zn) v11) none))]⟩) ⟨rfl, rfl, rfl, trivial⟩ ⟨rfl, trivial⟩ (J12 v11 h)
   ·have h := hif.2 hc
    refine AWp.exit <| At.thru ?_
    exact Zj (st' := ⟨[(3, (.vs 3))], [(3, (.tab (List.map (List.map Zn) v4) none))]⟩) ⟨rfl, trivial⟩ ⟨rfl, trivial⟩ (J5 v4 h)
end Go.AM.Gra
