/- What these functions compute, each with its walk: F60, F39. -/
import Derived.Test.YtcfcnnkaiboddaaGraT
import Derived.Test.YtcfcnnkaiboddaaGraG0
namespace Go.AM.Gra
open Go Go.AM Go.Proofs
set_option maxRecDepth 100000
set_option maxHeartbeats 2000000
def F60_c8 (K : Nat) (v7 : (List (List Bool))) : Option ((List (List Bool))) :=
 some v7
def F60_c21 (K : Nat) (b10 : Int → (List (List Bool)) → Option ((List (List Bool)))) (v4 : Int) (v20 : (List (List Bool))) : Option ((List (List Bool))) :=
 b10 (IntKind.i64.wrap (v4 + 1)) v20
def F60_l19 (K : Nat) (v16 : (List Int)) (v4 : Int) (c22 : (List (List Bool)) → Option ((List (List Bool)))) : Nat → Int → (List (List Bool)) → Option ((List (List Bool)))
 | 0, _, _ => none
 | k19 + 1, v17, v18 =>
  if (decide (v17 < (v16.length : Int))) = true then
   if (0 : Int) ≤ v17 ∧ v17 < v16.length then
    if (0 : Int) ≤ v4 ∧ v4 < v18.length then
     if v4.toNat < v18.length then
      if v4.toNat < v18.length then
       if (0 : Int) ≤ v17 ∧ v17 < (v18.getD v4.toNat []).length then
        if v4.toNat < v18.length then
         if v17.toNat < (v18.getD v4.toNat []).length then
          (F60_l19 K v16 v4 c22 k19) (IntKind.i64.wrap (v17 + 1)) (v18.set v4.toNat ((v18.getD v4.toNat []).set v17.toNat (decide ((v16.getD v17.toNat 0) ≥ 0))))
         else none
        else none
       else none
      else none
     else none
    else none
   else none
  else
   c22 v18
def F60_l6 (K : Nat) (a0 : Zb) (v2 : (List (List Int))) (c9 : (List (List Bool)) → Option ((List (List Bool)))) : Nat → Int → (List (List Bool)) → Option ((List (List Bool)))
 | 0, _, _ => none
 | k6 + 1, v4, v5 =>
  if (decide (v4 < a0.Count)) = true then
   if (0 : Int) ≤ a0.Count ∧ a0.Count ≤ a0.Count ∧ a0.Count ≤ 1073741824 then
    if (0 : Int) ≤ v4 ∧ v4 < v5.length then
     if v4.toNat < v5.length then
      if (0 : Int) ≤ v4 ∧ v4 < v2.length then
       (F46 K v2 (v2.getD v4.toNat []) (Int.negSucc 0)).bind fun v16 =>
        F60_l19 K v16 v4 (F60_c21 K (F60_l6 K a0 v2 c9 k6) v4) K 0 (v5.set v4.toNat (List.replicate a0.Count.toNat (false : Bool)))
      else none
     else none
    else none
   else none
  else
   c9 v5
def F60 (K : Nat) (a0 : Zb) : Option ((List (List Bool))) :=
 (F47 K a0).bind fun v2 =>
  if (0 : Int) ≤ a0.Count ∧ a0.Count ≤ a0.Count ∧ a0.Count ≤ 1073741824 then
   F60_l6 K a0 v2 (F60_c8 K) K 0 (List.replicate a0.Count.toNat ([] : List Bool))
  else none
theorem F60_ok (K : Nat) (a0 : Zb) (r : (List (List Bool))) (h : F60 K a0 = some r) : ACall P 60 ⟨[(Z4 a0)], [], (.sl 1 (r.map Zh) false), [], []⟩ := by
 refine acall_of Try.func60 Try.results60 rfl Try.ntmps60 rfl rfl rfl ?_
 intro E Q hP hN hro hret
 obtain ⟨P', nt', w0, F0, p0, S0, β0, ro0⟩ := E
 simp only at hP hN
 subst hP hN
 dsimp only [argT]
 unfold F60 at h
 refine Z9 <| Z5 <| Z1 I (st_box (v := (Z4 a0)) (cs := (Z4 a0).cells) I I I I I) I <| Z1 I (Zf (v := (.sl 1 [] false)) I I) I <| Z6 <| Z7 <| Z9 <| Z5 ?_
 refine Z1 I (st_loadPA (cs := (Z4 a0).cells) (vs := (Z4 a0).cells) I a35 I I I I) I ?_
 have ⟨v2, hv2, h⟩ := of_bind h
 refine Z1 I (st_call0 (ar := [(Z4 a0)]) (caps := []) Try.call47 (F47_ok K a0 v2 hv2) I I ⟨rfl, trivial⟩ I) I <| Z1 I (Zf (v := (.sl 1 (v2.map Zi) false)) I I) I <| Z6 <| Z7 <| Z9 <| Z5 <| Z1 I (Zt (m := 1) (o := 0) I f35_0 I I) I <| Z1 I (Zs (cs := (Z4 a0).cells) (v := (.int .i64 a0.Count)) I o3 I I I) I ?_
 have ⟨hg3, h⟩ := Zg h
 refine Z1 I (st_makeSlice (enc := (fun _ : Unit => AV.sl 1 [] true)) (z := ()) (kx := .i64) (ky := .i64) (a := a0.Count) (c := a0.Count) (n := a0.Count.toNat) I el26 I zeT49 (fun _ => I) I I I hg3 I) I <| AOps.ghost (st' := ⟨[(1, (.ptr 1 0)), (3, (.sl 1 (v2.map Zi) false)), (11, (.int .i64 a0.Count)), (12, (.vs 12))], [(1, (.box (Z4 a0).cells)), (12, (.tab (List.map (List.map Zk) (List.replicate a0.Count.toNat ([] : List Bool))) none))]⟩) (fun a w h => (Zq ⟨[(1, (.ptr 1 0)), (3, (.sl 1 (v2.map Zi) false)), (11, (.int .i64 a0.Count)), (12, (.vs 12))], [(1, (.box (Z4 a0).cells)), (12, (.tab (List.map (List.map Zk) (List.replicate a0.Count.toNat ([] : List Bool))) none))]⟩ (ghost_tab (m := 12) (k := a0.Count.toNat) (sz := 1) (enc := Zk) I I a w (Zq ⟨[(1, (.ptr 1 0)), (3, (.sl 1 (v2.map Zi) false)), (11, (.int .i64 a0.Count)), (12, (.vs 12))], [(12, (.vec 1 (List.map (fun _ : Unit => AV.sl 1 [] true) (List.replicate a0.Count.toNat ())))), (1, (.box (Z4 a0).cells))]⟩ h ⟨rfl, rfl, rfl, rfl, trivial⟩ ⟨rfl, rfl, trivial⟩)) ⟨rfl, rfl, rfl, rfl, trivial⟩ ⟨rfl, rfl, trivial⟩)) <| Z1 I (Zf (v := (.vs 12)) I I) I <| Z6 <| Z7 <| Z9 <| Z9 <| Z5 ?_
 refine Z1 I (Zt (m := 1) (o := 0) I f35_0 I I) I <| Z1 I (Zs (cs := (Z4 a0).cells) (v := (.int .i64 a0.Count)) I o3 I I I) I <| Z1 I (Z8 (v := (.int .i64 0)) I I) I <| Z6 <| Z7 <| AWp.ghost (st' := ⟨[(1, (.ptr 1 0)), (3, (.sl 1 (v2.map Zi) false)), (4, (.vs 4)), (14, (.int .i64 a0.Count)), (15, (.int .i64 0))], [(1, (.box (Z4 a0).cells)), (4, (.tab (List.map (List.map Zk) (List.replicate a0.Count.toNat ([] : List Bool))) none))]⟩) (fun a w h => (Zq ⟨[(1, (.ptr 1 0)), (3, (.sl 1 (v2.map Zi) false)), (4, (.vs 4)), (14, (.int .i64 a0.Count)), (15, (.int .i64 0))], [(1, (.box (Z4 a0).cells)), (4, (.tab (List.map (List.map Zk) (List.replicate a0.Count.toNat ([] : List Bool))) none))]⟩ (ghost_sw (a := 12) (b := 4) I I a w (Zq ⟨[(1, (.ptr 1 0)), (3, (.sl 1 (v2.map Zi) false)), (4, (.vs 12)), (14, (.int .i64 a0.Count)), (15, (.int .i64 0))], [(1, (.box (Z4 a0).cells)), (12, (.tab (List.map (List.map Zk) (List.replicate a0.Count.toNat ([] : List Bool))) none))]⟩ h ⟨rfl, rfl, rfl, rfl, rfl, trivial⟩ ⟨rfl, rfl, trivial⟩)) ⟨rfl, rfl, rfl, rfl, rfl, trivial⟩ ⟨rfl, rfl, trivial⟩)) <| Zv (st' := ⟨[(1, (.ptr 1 0)), (3, (.sl 1 (v2.map Zi) false)), (4, (.vs 4)), (14, (.int .i64 a0.Count)), (15, (.int .i64 0))], [(1, (.box (Z4 a0).cells)), (4, (.tab (List.map (List.map Zk) (List.replicate a0.Count.toNat ([] : List Bool))) none))]⟩) ⟨rfl, rfl, rfl, rfl, rfl, trivial⟩ ⟨rfl, rfl, trivial⟩ ?_
 refine Zp (V := Int × (List (List Bool))) (X := (List (List Bool))) (lp := fun k v => F60_l6 K a0 v2 (F60_c8 K) k v.1 v.2 = some r) (sh := fun v => ⟨[(1, (.ptr 1 0)), (3, (.sl 1 (v2.map Zi) false)), (4, (.vs 4)), (14, (.int .i64 a0.Count)), (15, (.int .i64 v.1))], [(1, (.box (Z4 a0).cells)), (4, (.tab (List.map (List.map Zk) v.2) none))]⟩) (x := fun v => F60_c8 K v = some r) (shx := fun v => ⟨[(4, (.vs 4))], [(4, (.tab (List.map (List.map Zk) v) none))]⟩) (k := K) (v := (0, (List.replicate a0.Count.toNat ([] : List Bool)))) h ?_ ?_
 ·intro v h
  revert h
  revert v
  intro v7 h
  try dsimp only at h ⊢
  unfold F60_c8 at h
  refine Z7 <| Z9 <| Z5 <| Z1 I (Z8 (v := (.vs 4)) I I) I <| Z1 I (Zf (v := (.vs 4)) I I) I <| Z6 <| Z7 <| AWp.ret ?_
  refine At.ghost (st' := ⟨[(2, (.sl 1 (v7.map Zh) false))], []⟩) (fun a w h => (Zq ⟨[(2, (.sl 1 (v7.map Zh) false))], []⟩ (ghost_freezeT (m := 4) (enc := Zk) (l := v7) a w (Zq ⟨[(2, (.vs 4))], [(4, (.tab (List.map (List.map Zk) v7) none))]⟩ h ⟨rfl, trivial⟩ ⟨rfl, trivial⟩)) ⟨rfl, trivial⟩ trivial)) ?_
  have h := Option.some.inj h
  subst h
  refine (hret _ ?_).1
  exact ⟨[(.sl 1 (v7.map Zh) false)], ⟨rfl, trivial⟩, rfl, trivial⟩
 ·intro N k6 v h IH6 J6
  obtain ⟨v4, v5⟩ := v
  try dsimp only at h IH6 J6 ⊢
  cases k6 with
  | zero => cases h
  | succ k6 =>
   rw [F60_l6] at h
   refine Z9 <| Z5 <| Z1 I (st_cmp (k := .i64) (a := v4) (b := a0.Count) (c := (decide (v4 < a0.Count))) I I I I) I <| Z6 <| Z7 <| Z9 ?_
   have hif := of_if h
   refine Zo I (fun hc => ?_) (fun hc => ?_)
   ·have h := hif.1 hc
    refine Zr <| Z7 <| Z9 <| AWp.block <| Z9 <| Z5 <| Z1 I (Z8 (v := (.int .i64 v4)) I I) I <| Z1 I (Zf (v := (.int .i64 v4)) I I) I ?_
    refine Z6 <| Z7 <| Z9 <| Z5 <| Z1 I (Z8 (v := (.vs 4)) I I) I <| Z1 I (Z8 (v := (.int .i64 v4)) I I) I <| Z1 I (Zt (m := 1) (o := 0) I f35_0 I I) I <| Z1 I (Zs (cs := (Z4 a0).cells) (v := (.int .i64 a0.Count)) I o3 I I I) I ?_
    have ⟨hg11, h⟩ := Zg h
    refine Z1 I (st_makeSlice (kx := .i64) (ky := .i64) (a := a0.Count) (c := a0.Count) (n := a0.Count.toNat) I el49 I ze4 els_bool I I I hg11 I) I ?_
    have ⟨hg12, h⟩ := Zg h
    refine Z1 I (st_indexT (enc := Zk) (l := v5) (k := .i64) (j := v4) (m := v4.toNat) I s26 I I I hg12 I) I ?_
    have ⟨hg13, h⟩ := Zg h
    refine Z1 I (st_storeTV (enc := Zk) (l := v5) (es := (List.replicate a0.Count.toNat (false : Bool))) I sz49 I I I I I hg13 (.inl I)) I <| Z6 <| Z7 <| Z9 <| Z5 <| Z1 I (Z8 (v := (.sl 1 (v2.map Zi) false)) I I) I <| Z1 I (Z8 (v := (.sl 1 (v2.map Zi) false)) I I) I <| Z1 I (Z8 (v := (.int .i64 v4)) I I) I ?_
    have ⟨hg14, h⟩ := Zg h
    refine Z1 I (st_index (k := .i64) (l := v2) (enc := Zi) (z := []) (n := v4) (cs := [(.sl 1 ((v2.getD v4.toNat []).map Zc) false)]) (full := false) I s46 I I hg14 I) I <| Z1 I (st_loadI (cs := [(.sl 1 ((v2.getD v4.toNat []).map Zc) false)]) (v := (.sl 1 ((v2.getD v4.toNat []).map Zc) false)) I o29 I I) I ?_
    have ⟨v16, hv16, h⟩ := of_bind h
    refine Z1 I (st_call0 (ar := [(.sl 1 (v2.map Zi) false), (.sl 1 ((v2.getD v4.toNat []).map Zc) false), (.int .i64 (Int.negSucc 0))]) (caps := []) Try.call46 (F46_ok K v2 (v2.getD v4.toNat []) (Int.negSucc 0) v16 hv16) I I ⟨rfl, rfl, rfl, trivial⟩ I) I <| Z1 I (stx_len (l := v16) (enc := Zc) I s29 I) I <| Z1 I (Z8 (v := (.int .i64 0)) I I) I <| Z6 <| Z7 <| Zv (st' := ⟨[(1, (.ptr 1 0)), (3, (.sl 1 (v2.map Zi) false)), (4, (.vs 4)), (5, (.int .i64 v4)), (14, (.int .i64 a0.Count)), (15, (.int .i64 v4)), (29, (.sl 1 (v16.map Zc) false)), (30, (.int .i64 (v16.length : Int))), (31, (.int .i64 0))], [(1, (.box (Z4 a0).cells)), (4, (.tab (List.map (List.map Zk) (v5.set v4.toNat (List.replicate a0.Count.toNat (false : Bool)))) none))]⟩) ⟨rfl, rfl, rfl, rfl, rfl, rfl, rfl, rfl, rfl, trivial⟩ ⟨rfl, rfl, trivial⟩ ?_
    refine Zp (V := Int × (List (List Bool))) (X := (List (List Bool))) (lp := fun k v => F60_l19 K v16 v4 (F60_c21 K (F60_l6 K a0 v2 (F60_c8 K) k6) v4) k v.1 v.2 = some r) (sh := fun v => ⟨[(1, (.ptr 1 0)), (3, (.sl 1 (v2.map Zi) false)), (4, (.vs 4)), (5, (.int .i64 v4)), (14, (.int .i64 a0.Count)), (15, (.int .i64 v4)), (29, (.sl 1 (v16.map Zc) false)), (30, (.int .i64 (v16.length : Int))), (31, (.int .i64 v.1))], [(1, (.box (Z4 a0).cells)), (4, (.tab (List.map (List.map Zk) v.2) none))]⟩) (x := fun v => F60_c21 K (F60_l6 K a0 v2 (F60_c8 K) k6) v4 v = some r) (shx := fun v => ⟨[(1, (.ptr 1 0)), (3, (.sl 1 (v2.map Zi) false)), (4, (.vs 4)), (14, (.int .i64 a0.Count)), (15, (.int .i64 v4))], [(1, (.box (Z4 a0).cells)), (4, (.tab (List.map (List.map Zk) v) none))]⟩) (k := K) (v := (0, (v5.set v4.toNat (List.replicate a0.Count.toNat (false : Bool))))) h ?_ ?_
    ·intro v h
     revert h
     revert v
     intro v20 h
     try dsimp only at h ⊢
     unfold F60_c21 at h
     refine At.end <| Z7 <| Z5 <| Z1 I (Zw (k := .i64) (a := v4) (b := 1) (c := (IntKind.i64.wrap (v4 + 1))) I I I I) I <| Z1 I (Z8 (v := (.int .i64 (IntKind.i64.wrap (v4 + 1)))) I I) I <| Z6 ?_
     exact Zj (st' := ⟨[(1, (.ptr 1 0)), (3, (.sl 1 (v2.map Zi) false)), (4, (.vs 4)), (14, (.int .i64 a0.Count)), (15, (.int .i64 (IntKind.i64.wrap (v4 + 1))))], [(1, (.box (Z4 a0).cells)), (4, (.tab (List.map (List.map Zk) v20) none))]⟩) ⟨rfl, rfl, rfl, rfl, rfl, trivial⟩ ⟨rfl, rfl, trivial⟩ (IH6 _ ((IntKind.i64.wrap (v4 + 1)), v20) (Nat.lt_succ_self _) h)
    ·intro N k19 v h IH19 J19
     obtain ⟨v17, v18⟩ := v
     try dsimp only at h IH19 J19 ⊢
     cases k19 with
     | zero => cases h
     | succ k19 =>
      rw [F60_l19] at h
      refine Z9 <| Z5 <| Z1 I (st_cmp (k := .i64) (a := v17) (b := (v16.length : Int)) (c := (decide (v17 < (v16.length : Int)))) I I I I) I <| Z6 <| Z7 <| Z9 ?_
      have hif := of_if h
      refine Zo I (fun hc => ?_) (fun hc => ?_)
      ·have h := hif.1 hc
       refine Zr <| Z7 <| Z9 <| AWp.block <| Z9 <| Z5 <| Z1 I (Z8 (v := (.int .i64 v17)) I I) I ?_
       have ⟨hg24, h⟩ := Zg h
       refine Z1 I (st_index (k := .i64) (l := v16) (enc := Zc) (z := 0) (n := v17) (cs := [(.int .i64 (v16.getD v17.toNat 0))]) (full := false) I s29 I I hg24 I) I <| Z1 I (st_loadI (cs := [(.int .i64 (v16.getD v17.toNat 0))]) (v := (.int .i64 (v16.getD v17.toNat 0))) I o3 I I) I <| Z1 I (Zf (v := (.int .i64 v17)) I I) I <| Z1 I (Zf (v := (.int .i64 (v16.getD v17.toNat 0))) I I) I <| Z6 <| Z7 <| Z5 <| Z1 I (Z8 (v := (.vs 4)) I I) I ?_
       refine Z1 I (Z8 (v := (.int .i64 v4)) I I) I ?_
       have ⟨hg25, h⟩ := Zg h
       refine Z1 I (st_indexT (enc := Zk) (l := v18) (k := .i64) (j := v4) (m := v4.toNat) I s26 I I I hg25 I) I ?_
       have ⟨hg26, h⟩ := Zg h
       refine Z1 I (st_loadT (enc := Zk) (l := v18) I o49 I I hg26) I <| Z1 I (Z8 (v := (.int .i64 v17)) I I) I <| Z1 I (Z8 (v := (.int .i64 (v16.getD v17.toNat 0))) I I) I <| Z1 I (st_cmp (k := .i64) (a := (v16.getD v17.toNat 0)) (b := 0) (c := (decide ((v16.getD v17.toNat 0) ≥ 0))) I I I I) I ?_
       have ⟨hg27, h⟩ := Zg h
       have ⟨hg28, h⟩ := Zg h
       refine Z1 I (st_indexTR (enc := Zk) (l := v18) (k := .i64) (j := v17) (m := v17.toNat) I s49 I I I hg27 hg28 I) I ?_
       have ⟨hg29, h⟩ := Zg h
       have ⟨hg30, h⟩ := Zg h
       refine Z1 I (st_storeTP (enc := Zk) (l := v18) (a := (decide ((v16.getD v17.toNat 0) ≥ 0))) (v := (.bool (decide ((v16.getD v17.toNat 0) ≥ 0)))) sz4 I I hg29 hg30 I I I I) I <| Z6 <| At.end <| Z7 <| Z5 <| Z1 I (Zw (k := .i64) (a := v17) (b := 1) (c := (IntKind.i64.wrap (v17 + 1))) I I I I) I <| Z1 I (Z8 (v := (.int .i64 (IntKind.i64.wrap (v17 + 1)))) I I) I <| Z6 ?_
       exact Zj (st' := ⟨[(1, (.ptr 1 0)), (3, (.sl 1 (v2.map Zi) false)), (4, (.vs 4)), (5, (.int .i64 v4)), (14, (.int .i64 a0.Count)), (15, (.int .i64 v4)), (29, (.sl 1 (v16.map Zc) false)), (30, (.int .i64 (v16.length : Int))), (31, (.int .i64 (IntKind.i64.wrap (v17 + 1))))], [(1, (.box (Z4 a0).cells)), (4, (.tab (List.map (List.map Zk) (v18.set v4.toNat ((v18.getD v4.toNat []).set v17.toNat (decide ((v16.getD v17.toNat 0) ≥ 0))))) none))]⟩) ⟨rfl, rfl, rfl, rfl, rfl, rfl, rfl, rfl, rfl, trivial⟩ ⟨rfl, rfl, trivial⟩ (IH19 _ ((IntKind.i64.wrap (v17 + 1)), (v18.set v4.toNat ((v18.getD v4.toNat []).set v17.toNat (decide ((v16.getD v17.toNat 0) ≥ 0))))) (Nat.lt_succ_self _) h)
      ·have h := hif.2 hc
       refine AWp.exit <| At.thru ?_
       exact Zj (st' := ⟨[(1, (.ptr 1 0)), (3, (.sl 1 (v2.map Zi) false)), (4, (.vs 4)), (14, (.int .i64 a0.Count)), (15, (.int .i64 v4))], [(1, (.box (Z4 a0).cells)), (4, (.tab (List.map (List.map Zk) v18) none))]⟩) ⟨rfl, rfl, rfl, rfl, rfl, trivial⟩ ⟨rfl, rfl, trivial⟩ (J19 v18 h)
   ·have h := hif.2 hc
    refine AWp.exit <| At.thru ?_
    exact Zj (st' := ⟨[(4, (.vs 4))], [(4, (.tab (List.map (List.map Zk) v5) none))]⟩) ⟨rfl, trivial⟩ ⟨rfl, trivial⟩ (J6 v5 h)
def F39_c7 (K : Nat) (a0 : Zb) (v6 : (List Za)) : Option (Zb) :=
 some (⟨a0.Count, v6⟩ : Zb)
def F39_c15 (K : Nat) (b9 : Int → (List Za) → Option (Zb)) (v3 : Int) (v14 : (List Za)) : Option (Zb) :=
 b9 (IntKind.i64.wrap (v3 + 1)) v14
def F39_j20 (K : Nat) (b17 : Int → (List Za) → Option (Zb)) (v11 : Int) (v19 : (List Za)) : Option (Zb) :=
 b17 (IntKind.i64.wrap (v11 + 1)) v19
def F39_l13 (K : Nat) (v2 : (List (List Bool))) (v3 : Int) (c16 : (List Za) → Option (Zb)) : Nat → Int → (List Za) → Option (Zb)
 | 0, _, _ => none
 | k13 + 1, v11, v12 =>
  if (decide (v11 < ((v2.getD v3.toNat []).length : Int))) = true then
   if (0 : Int) ≤ v11 ∧ v11 < (v2.getD v3.toNat []).length then
    if ((v2.getD v3.toNat []).getD v11.toNat false) = true then
     if v12.length + [(⟨v3, v11⟩ : Za)].length ≤ 1073741824 then
      F39_j20 K (F39_l13 K v2 v3 c16 k13) v11 (v12 ++ [(⟨v3, v11⟩ : Za)])
     else none
    else
     F39_j20 K (F39_l13 K v2 v3 c16 k13) v11 v12
   else none
  else
   c16 v12
def F39_l5 (K : Nat) (v2 : (List (List Bool))) (c8 : (List Za) → Option (Zb)) : Nat → Int → (List Za) → Option (Zb)
 | 0, _, _ => none
 | k5 + 1, v3, v4 =>
  if (decide (v3 < (v2.length : Int))) = true then
   if (0 : Int) ≤ v3 ∧ v3 < v2.length then
    F39_l13 K v2 v3 (F39_c15 K (F39_l5 K v2 c8 k5) v3) K 0 v4
   else none
  else
   c8 v4
def F39 (K : Nat) (a0 : Zb) : Option (Zb) :=
 (F60 K a0).bind fun v2 =>
  F39_l5 K v2 (F39_c7 K a0) K 0 []
theorem F39_ok (K : Nat) (a0 : Zb) (r : Zb) (h : F39 K a0 = some r) : ACall P 39 ⟨[(Z4 a0)], [], (Z4 r), [], []⟩ := by
 refine acall_of Try.func39 Try.results39 rfl Try.ntmps39 rfl rfl rfl ?_
 intro E Q hP hN hro hret
 obtain ⟨P', nt', w0, F0, p0, S0, β0, ro0⟩ := E
 simp only at hP hN
 subst hP hN
 dsimp only [argT]
 unfold F39 at h
 refine Z9 <| Z5 <| Z1 I (st_box (v := (Z4 a0)) (cs := (Z4 a0).cells) I I I I I) I <| Z1 I (st_alloc (cs := [(.int .i64 0), (.sl 2 [] true)]) I z35f I I I) I <| Z6 <| Z7 <| Z9 <| Z5 ?_
 refine Z1 I (Zt (m := 1) (o := 0) I f35_0 I I) I <| Z1 I (Zs (cs := (Z4 a0).cells) (v := (.int .i64 a0.Count)) I o3 I I I) I <| Z1 I (stx_build (vs := [(0, (.int .i64 a0.Count))]) (cs := [(.int .i64 a0.Count), (.sl 2 [] true)]) I st35f ⟨rfl, rfl, trivial⟩ I) I <| Z1 I (st_alloc (cs := [(.int .i64 0), (.sl 2 [] true)]) I z35f I I I) I <| Z1 I (st_storeP (cs := [(.int .i64 0), (.sl 2 [] true)]) (vs := [(.int .i64 a0.Count), (.sl 2 [] true)]) (ds := [(.int .i64 a0.Count), (.sl 2 [] true)]) (v := (.ag [(.int .i64 a0.Count), (.sl 2 [] true)])) sz35 I I I I I I I I) I <| Z6 <| Z7 <| Z9 ?_
 refine Z9 <| Z5 <| Z1 I (st_loadPA (cs := (Z4 a0).cells) (vs := (Z4 a0).cells) I a35 I I I I) I ?_
 have ⟨v2, hv2, h⟩ := of_bind h
 refine Z1 I (st_call0 (ar := [(Z4 a0)]) (caps := []) Try.call60 (F60_ok K a0 v2 hv2) I I ⟨rfl, trivial⟩ I) I <| Z1 I (stx_len (l := v2) (enc := Zh) I s26 I) I <| Z1 I (Z8 (v := (.int .i64 0)) I I) I <| Z6 <| Z7 <| AWp.ghost (st' := ⟨[(2, (.ptr 2 0)), (3, (.ptr 3 0)), (12, (.sl 1 (v2.map Zh) false)), (13, (.int .i64 (v2.length : Int))), (14, (.int .i64 0))], [(2, (.box [(.int .i64 0), (.sl 2 [] true)])), (3, (.box [(.int .i64 a0.Count), (.vs 37)])), (37, (.vec 2 (List.map Z2 ([] : List Za))))]⟩) (fun a w h => (Zq ⟨[(2, (.ptr 2 0)), (3, (.ptr 3 0)), (12, (.sl 1 (v2.map Zh) false)), (13, (.int .i64 (v2.length : Int))), (14, (.int .i64 0))], [(2, (.box [(.int .i64 0), (.sl 2 [] true)])), (3, (.box [(.int .i64 a0.Count), (.vs 37)])), (37, (.vec 2 (List.map Z2 ([] : List Za))))]⟩ (ghost_ownB (n := 3) (m := 37) (sz := 2) (j := 1) I I I a w (Zq ⟨[(2, (.ptr 2 0)), (3, (.ptr 3 0)), (12, (.sl 1 (v2.map Zh) false)), (13, (.int .i64 (v2.length : Int))), (14, (.int .i64 0))], [(3, (.box [(.int .i64 a0.Count), (.sl 2 [] true)])), (2, (.box [(.int .i64 0), (.sl 2 [] true)]))]⟩ h ⟨rfl, rfl, rfl, rfl, rfl, trivial⟩ ⟨rfl, rfl, trivial⟩)) ⟨rfl, rfl, rfl, rfl, rfl, trivial⟩ ⟨rfl, rfl, rfl, trivial⟩)) <| Zv (st' := ⟨[(2, (.ptr 2 0)), (3, (.ptr 3 0)), (12, (.sl 1 (v2.map Zh) false)), (13, (.int .i64 (v2.length : Int))), (14, (.int .i64 0))], [(2, (.box [(.int .i64 0), (.sl 2 [] true)])), (3, (.box [(.int .i64 a0.Count), (.vs 37)])), (37, (.vec 2 (List.map Z2 [])))]⟩) ⟨rfl, rfl, rfl, rfl, rfl, trivial⟩ ⟨rfl, rfl, rfl, trivial⟩ ?_
 refine Zp (V := Int × (List Za)) (X := (List Za)) (lp := fun k v => F39_l5 K v2 (F39_c7 K a0) k v.1 v.2 = some r) (sh := fun v => ⟨[(2, (.ptr 2 0)), (3, (.ptr 3 0)), (12, (.sl 1 (v2.map Zh) false)), (13, (.int .i64 (v2.length : Int))), (14, (.int .i64 v.1))], [(2, (.box [(.int .i64 0), (.sl 2 [] true)])), (3, (.box [(.int .i64 a0.Count), (.vs 37)])), (37, (.vec 2 (List.map Z2 v.2)))]⟩) (x := fun v => F39_c7 K a0 v = some r) (shx := fun v => ⟨[(2, (.ptr 2 0)), (3, (.ptr 3 0))], [(2, (.box [(.int .i64 0), (.sl 2 [] true)])), (3, (.box [(.int .i64 a0.Count), (.vs 37)])), (37, (.vec 2 (List.map Z2 v)))]⟩) (k := K) (v := (0, [])) h ?_ ?_
 ·intro v h
  revert h
  revert v
  intro v6 h
  try dsimp only at h ⊢
  unfold F39_c7 at h
  refine Z7 <| Z9 <| Z5 <| Z1 I (st_loadPA (cs := [(.int .i64 a0.Count), (.vs 37)]) (vs := [(.int .i64 a0.Count), (.vs 37)]) I a35 I I I I) I <| Z1 I (st_storeP (cs := [(.int .i64 0), (.sl 2 [] true)]) (vs := [(.int .i64 a0.Count), (.vs 37)]) (ds := [(.int .i64 a0.Count), (.vs 37)]) (v := (.ag [(.int .i64 a0.Count), (.vs 37)])) sz35 I I I I I I I I) I <| Z6 <| Z7 <| AWp.ret ?_
  refine At.ghost (st' := ⟨[(2, (.ptr 2 0))], [(2, (.box [(.int .i64 a0.Count), (.sl 2 (v6.map Z2) false)]))]⟩) (fun a w h => (Zq ⟨[(2, (.ptr 2 0))], [(2, (.box [(.int .i64 a0.Count), (.sl 2 (v6.map Z2) false)]))]⟩ (ghost_freeze (m := 37) (sz := 2) (es := (List.map Z2 v6)) a w (Zq ⟨[(2, (.ptr 2 0))], [(37, (.vec 2 (List.map Z2 v6))), (2, (.box [(.int .i64 a0.Count), (.vs 37)]))]⟩ h ⟨rfl, trivial⟩ ⟨rfl, rfl, trivial⟩)) ⟨rfl, trivial⟩ ⟨rfl, trivial⟩)) ?_
  have h := Option.some.inj h
  subst h
  refine (hret _ ?_).1
  exact ⟨[(.ag [(.int .i64 a0.Count), (.sl 2 (v6.map Z2) false)])], ⟨⟨2, _, rfl, rfl, .inr ⟨_, a35, rfl, rfl⟩⟩, trivial⟩, rfl, trivial⟩
 ·intro N k5 v h IH5 J5
  obtain ⟨v3, v4⟩ := v
  try dsimp only at h IH5 J5 ⊢
  cases k5 with
  | zero => cases h
  | succ k5 =>
   rw [F39_l5] at h
   refine Z9 <| Z5 <| Z1 I (st_cmp (k := .i64) (a := v3) (b := (v2.length : Int)) (c := (decide (v3 < (v2.length : Int)))) I I I I) I <| Z6 <| Z7 <| Z9 ?_
   have hif := of_if h
   refine Zo I (fun hc => ?_) (fun hc => ?_)
   ·have h := hif.1 hc
    refine Zr <| Z7 <| Z9 <| AWp.block <| Z9 <| Z5 <| Z1 I (Z8 (v := (.int .i64 v3)) I I) I ?_
    have ⟨hg10, h⟩ := Zg h
    refine Z1 I (st_index (k := .i64) (l := v2) (enc := Zh) (z := []) (n := v3) (cs := [(.sl 1 ((v2.getD v3.toNat []).map Zk) false)]) (full := false) I s26 I I hg10 I) I <| Z1 I (st_loadI (cs := [(.sl 1 ((v2.getD v3.toNat []).map Zk) false)]) (v := (.sl 1 ((v2.getD v3.toNat []).map Zk) false)) I o49 I I) I <| Z1 I (Zf (v := (.int .i64 v3)) I I) I <| Z1 I (Zf (v := (.sl 1 ((v2.getD v3.toNat []).map Zk) false)) I I) I <| Z6 <| Z7 <| Z9 <| Z5 ?_
    refine Z1 I (Z8 (v := (.sl 1 ((v2.getD v3.toNat []).map Zk) false)) I I) I <| Z1 I (stx_len (l := (v2.getD v3.toNat [])) (enc := Zk) I s49 I) I <| Z1 I (Z8 (v := (.int .i64 0)) I I) I <| Z6 <| Z7 <| Zv (st' := ⟨[(2, (.ptr 2 0)), (3, (.ptr 3 0)), (4, (.int .i64 v3)), (12, (.sl 1 (v2.map Zh) false)), (13, (.int .i64 (v2.length : Int))), (14, (.int .i64 v3)), (19, (.sl 1 ((v2.getD v3.toNat []).map Zk) false)), (20, (.int .i64 ((v2.getD v3.toNat []).length : Int))), (21, (.int .i64 0))], [(2, (.box [(.int .i64 0), (.sl 2 [] true)])), (3, (.box [(.int .i64 a0.Count), (.vs 37)])), (37, (.vec 2 (List.map Z2 v4)))]⟩) ⟨rfl, rfl, rfl, rfl, rfl, rfl, rfl, rfl, rfl, trivial⟩ ⟨rfl, rfl, rfl, trivial⟩ ?_
    refine Zp (V := Int × (List Za)) (X := (List Za)) (lp := fun k v => F39_l13 K v2 v3 (F39_c15 K (F39_l5 K v2 (F39_c7 K a0) k5) v3) k v.1 v.2 = some r) (sh := fun v => ⟨[(2, (.ptr 2 0)), (3, (.ptr 3 0)), (4, (.int .i64 v3)), (12, (.sl 1 (v2.map Zh) false)), (13, (.int .i64 (v2.length : Int))), (14, (.int .i64 v3)), (19, (.sl 1 ((v2.getD v3.toNat []).map Zk) false)), (20, (.int .i64 ((v2.getD v3.toNat []).length : Int))), (21, (.int .i64 v.1))], [(2, (.box [(.int .i64 0), (.sl 2 [] true)])), (3, (.box [(.int .i64 a0.Count), (.vs 37)])), (37, (.vec 2 (List.map Z2 v.2)))]⟩) (x := fun v => F39_c15 K (F39_l5 K v2 (F39_c7 K a0) k5) v3 v = some r) (shx := fun v => ⟨[(2, (.ptr 2 0)), (3, (.ptr 3 0)), (12, (.sl 1 (v2.map Zh) false)), (13, (.int .i64 (v2.length : Int))), (14, (.int .i64 v3))], [(2, (.box [(.int .i64 0), (.sl 2 [] true)])), (3, (.box [(.int .i64 a0.Count), (.vs 37)])), (37, (.vec 2 (List.map Z2 v)))]⟩) (k := K) (v := (0, v4)) h ?_ ?_
    ·intro v h
     revert h
     revert v
     intro v14 h
     try dsimp only at h ⊢
     unfold F39_c15 at h
     refine At.end <| Z7 <| Z5 <| Z1 I (Zw (k := .i64) (a := v3) (b := 1) (c := (IntKind.i64.wrap (v3 + 1))) I I I I) I <| Z1 I (Z8 (v := (.int .i64 (IntKind.i64.wrap (v3 + 1)))) I I) I <| Z6 ?_
     exact Zj (st' := ⟨[(2, (.ptr 2 0)), (3, (.ptr 3 0)), (12, (.sl 1 (v2.map Zh) false)), (13, (.int .i64 (v2.length : Int))), (14, (.int .i64 (IntKind.i64.wrap (v3 + 1))))], [(2, (.box [(.int .i64 0), (.sl 2 [] true)])), (3, (.box [(.int .i64 a0.Count), (.vs 37)])), (37, (.vec 2 (List.map Z2 v14)))]⟩) ⟨rfl, rfl, rfl, rfl, rfl, trivial⟩ ⟨rfl, rfl, rfl, trivial⟩ (IH5 _ ((IntKind.i64.wrap (v3 + 1)), v14) (Nat.lt_succ_self _) h)
    ·intro N k13 v h IH13 J13
     obtain ⟨v11, v12⟩ := v
     try dsimp only at h IH13 J13 ⊢
     cases k13 with
     | zero => cases h
     | succ k13 =>
      rw [F39_l13] at h
      refine Z9 <| Z5 <| Z1 I (st_cmp (k := .i64) (a := v11) (b := ((v2.getD v3.toNat []).length : Int)) (c := (decide (v11 < ((v2.getD v3.toNat []).length : Int)))) I I I I) I <| Z6 <| Z7 <| Z9 ?_
      have hif := of_if h
      refine Zo I (fun hc => ?_) (fun hc => ?_)
      ·have h := hif.1 hc
       refine Zr <| Z7 <| Z9 <| AWp.block <| Z9 <| Z5 <| Z1 I (Z8 (v := (.int .i64 v11)) I I) I ?_
       have ⟨hg18, h⟩ := Zg h
       refine Z1 I (st_index (k := .i64) (l := (v2.getD v3.toNat [])) (enc := Zk) (z := false) (n := v11) (cs := [(.bool ((v2.getD v3.toNat []).getD v11.toNat false))]) (full := false) I s49 I I hg18 I) I <| Z1 I (st_loadI (cs := [(.bool ((v2.getD v3.toNat []).getD v11.toNat false))]) (v := (.bool ((v2.getD v3.toNat []).getD v11.toNat false))) I o4 I I) I <| Z1 I (Zf (v := (.int .i64 v11)) I I) I <| Z1 I (Zf (v := (.bool ((v2.getD v3.toNat []).getD v11.toNat false))) I I) I <| Z6 <| Z7 <| Z9 <| Z5 ?_
       refine Z1 I (Z8 (v := (.bool ((v2.getD v3.toNat []).getD v11.toNat false))) I I) I <| Z6 <| Z7 ?_
       refine AWp.join (V := (List Za)) (lp := fun v => F39_j20 K (F39_l13 K v2 v3 (F39_c15 K (F39_l5 K v2 (F39_c7 K a0) k5) v3) k13) v11 v = some r) (sh := fun v => ⟨[(2, (.ptr 2 0)), (3, (.ptr 3 0)), (4, (.int .i64 v3)), (12, (.sl 1 (v2.map Zh) false)), (13, (.int .i64 (v2.length : Int))), (14, (.int .i64 v3)), (19, (.sl 1 ((v2.getD v3.toNat []).map Zk) false)), (20, (.int .i64 ((v2.getD v3.toNat []).length : Int))), (21, (.int .i64 v11))], [(2, (.box [(.int .i64 0), (.sl 2 [] true)])), (3, (.box [(.int .i64 a0.Count), (.vs 37)])), (37, (.vec 2 (List.map Z2 v)))]⟩) ?_ ?_
       ·intro v h
        revert h
        revert v
        intro v19 h
        try dsimp only at h ⊢
        unfold F39_j20 at h
        refine At.end <| Z7 <| Z5 <| Z1 I (Zw (k := .i64) (a := v11) (b := 1) (c := (IntKind.i64.wrap (v11 + 1))) I I I I) I <| Z1 I (Z8 (v := (.int .i64 (IntKind.i64.wrap (v11 + 1)))) I I) I <| Z6 ?_
        exact Zj (st' := ⟨[(2, (.ptr 2 0)), (3, (.ptr 3 0)), (4, (.int .i64 v3)), (12, (.sl 1 (v2.map Zh) false)), (13, (.int .i64 (v2.length : Int))), (14, (.int .i64 v3)), (19, (.sl 1 ((v2.getD v3.toNat []).map Zk) false)), (20, (.int .i64 ((v2.getD v3.toNat []).length : Int))), (21, (.int .i64 (IntKind.i64.wrap (v11 + 1))))], [(2, (.box [(.int .i64 0), (.sl 2 [] true)])), (3, (.box [(.int .i64 a0.Count), (.vs 37)])), (37, (.vec 2 (List.map Z2 v19)))]⟩) ⟨rfl, rfl, rfl, rfl, rfl, rfl, rfl, rfl, rfl, trivial⟩ ⟨rfl, rfl, rfl, trivial⟩ (IH13 _ ((IntKind.i64.wrap (v11 + 1)), v19) (Nat.lt_succ_self _) h)
       ·intro J20
        have hif := of_if h
        refine Zo I (fun hc => ?_) (fun hc => ?_)
        ·have h := hif.1 hc
         refine Z5 <| Z1 I (Zt (m := 3) (o := 0) I f35_1 I I) I <| Z1 I (Zs (cs := [(.int .i64 a0.Count), (.vs 37)]) (v := (.vs 37)) I o33 I I I) I <| Z1 I (Z8 (v := (.int .i64 v3)) I I) I <| Z1 I (Z8 (v := (.int .i64 v11)) I I) I <| Z1 I (stx_build (vs := [(0, (.int .i64 v3)), (1, (.int .i64 v11))]) (cs := [(.int .i64 v3), (.int .i64 v11)]) I st64 ⟨rfl, rfl, rfl, rfl, trivial⟩ I) I <| Z1 I (stx_buildSlice (vs := [(.ag [(.int .i64 v3), (.int .i64 v11)])]) (enc := Z2) (l := [(⟨v3, v11⟩ : Za)]) I el33 I I ⟨rfl, trivial⟩ I els_Tgraph_Edge I I I I) I ?_
         have ⟨hg21, h⟩ := Zg h
         refine Z1 I (st_append (m := 37) (enc := Z2) (l := v12) (l' := [(⟨v3, v11⟩ : Za)]) (src := (.vs 32)) (rd := [(32, (.vec 2 (List.map Z2 [(⟨v3, v11⟩ : Za)])))]) I I el33 I u33 I I I I (oneRead I) els_Tgraph_Edge hg21) I <| Z1 I (Zt (m := 3) (o := 0) I f35_1 I I) I <| Z1 I (st_storeP (cs := [(.int .i64 a0.Count), .undef]) (vs := [(.vs 37)]) (ds := [(.int .i64 a0.Count), (.vs 37)]) (v := (.vs 37)) sz33 I I I I I I I I) I <| Z6 ?_
         exact Zj (st' := ⟨[(2, (.ptr 2 0)), (3, (.ptr 3 0)), (4, (.int .i64 v3)), (12, (.sl 1 (v2.map Zh) false)), (13, (.int .i64 (v2.length : Int))), (14, (.int .i64 v3)), (19, (.sl 1 ((v2.getD v3.toNat []).map Zk) false)), (20, (.int .i64 ((v2.getD v3.toNat []).length : Int))), (21, (.int .i64 v11))], [(2, (.box [(.int .i64 0), (.sl 2 [] true)])), (3, (.box [(.int .i64 a0.Count), (.vs 37)])), (37, (.vec 2 (List.map Z2 (v12 ++ [(⟨v3, v11⟩ : Za)]))))]⟩) ⟨rfl, rfl, rfl, rfl, rfl, rfl, rfl, rfl, rfl, trivial⟩ ⟨rfl, rfl, rfl, trivial⟩ (J20 (v12 ++ [(⟨v3, v11⟩ : Za)]) h)
        ·have h := hif.2 hc
         refine Zr ?_
         exact Zj (st' := ⟨[(2, (.ptr 2 0)), (3, (.ptr 3 0)), (4, (.int .i64 v3)), (12, (.sl 1 (v2.map Zh) false)), (13, (.int .i64 (v2.length : Int))), (14, (.int .i64 v3)), (19, (.sl 1 ((v2.getD v3.toNat []).map Zk) false)), (20, (.int .i64 ((v2.getD v3.toNat []).length : Int))), (21, (.int .i64 v11))], [(2, (.box [(.int .i64 0), (.sl 2 [] true)])), (3, (.box [(.int .i64 a0.Count), (.vs 37)])), (37, (.vec 2 (List.map Z2 v12)))]⟩) ⟨rfl, rfl, rfl, rfl, rfl, rfl, rfl, rfl, rfl, trivial⟩ ⟨rfl, rfl, rfl, trivial⟩ (J20 v12 h)
      ·have h := hif.2 hc
       refine AWp.exit <| At.thru ?_
       exact Zj (st' := ⟨[(2, (.ptr 2 0)), (3, (.ptr 3 0)), (12, (.sl 1 (v2.map Zh) false)), (13, (.int .i64 (v2.length : Int))), (14, (.int .i64 v3))], [(2, (.box [(.int .i64 0), (.sl 2 [] true)])), (3, (.box [(.int .i64 a0.Count), (.vs 37)])), (37, (.vec 2 (List.map Z2 v12)))]⟩) ⟨rfl, rfl, rfl, rfl, rfl, trivial⟩ ⟨rfl, rfl, rfl, trivial⟩ (J13 v12 h)
   ·have h := hif.2 hc
    refine AWp.exit <| At.thru ?_
    exact Zj (st' := ⟨[(2, (.ptr 2 0)), (3, (.ptr 3 0))], [(2, (.box [(.int .i64 0), (.sl 2 [] true)])), (3, (.box [(.int .i64 a0.Count), (.vs 37)])), (37, (.vec 2 (List.map Z2 v4)))]⟩) ⟨rfl, rfl, trivial⟩ ⟨rfl, rfl, rfl, trivial⟩ (J5 v4 h)
end Go.AM.Gra
