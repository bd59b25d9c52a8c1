/- What these functions compute, each with its walk: F19, F22, F24. -/
import Derived.Test.YtmdglfmfefmpkaaNotiT
import Derived.Test.YtmdglfmfefmpkaaNotiG1
namespace Go.AM.Noti
open Go Go.AM Go.Proofs
set_option maxRecDepth 100000
set_option maxHeartbeats 2000000
def F19 (K : Nat) (a0 : Tnotify_Policy) (a1 : Zt) : Option (Str) :=
 if (0 : Int) ≤ a0.By ∧ a0.By < (([[], a1.Service, a1.Rule] : List Str).length : Nat) then
  if a0.By.toNat < ([[], a1.Service, a1.Rule] : List Str).length then
   some (([[], a1.Service, a1.Rule] : List Str).getD a0.By.toNat [])
  else none
 else none
theorem F19_ok (K : Nat) (a0 : Tnotify_Policy) (a1 : Zt) (r : Str) (h : F19 K a0 a1 = some r) : ACall P 19 ⟨[(Z13 a0), (Z8 a1)], [], (.str r), [], []⟩ := by
 refine acall_of Try.func19 Try.results19 rfl Try.ntmps19 rfl rfl rfl ?_
 intro E Q hP hN hro hret
 obtain ⟨P', nt', w0, F0, p0, S0, β0, ro0⟩ := E
 simp only at hP hN
 subst hP hN
 dsimp only [argT]
 unfold F19 at h
 refine Zf <| Z7 <| Z1 I (st_box (v := (Z13 a0)) (cs := (Z13 a0).cells) I I I I I) I <| Z1 I (st_box (v := (Z8 a1)) (cs := (Z8 a1).cells) I I I I I) I <| Z1 I (Zg (v := (.str [])) I I) I <| Za <| Zd <| Zf ?_
 refine Z7 <| Z1 I (Zu (m := 3) (o := 0) I f42_1 I I) I <| Z1 I (Z11 (cs := (Z8 a1).cells) (v := (.str a1.Service)) I o9 I I I) I <| Z1 I (Zu (m := 3) (o := 0) I f42_0 I I) I <| Z1 I (Z11 (cs := (Z8 a1).cells) (v := (.str a1.Rule)) I o9 I I I) I <| Z1 I (Z1n (vs := [(.str []), (.str a1.Service), (.str a1.Rule)]) (enc := Zv) (l := ([[], a1.Service, a1.Rule] : List Str)) I el36 I I ⟨rfl, rfl, rfl, trivial⟩ I els_str I I I I) I <| Z1 I (Zu (m := 2) (o := 0) I f29_0 I I) I <| Z1 I (Z11 (cs := (Z13 a0).cells) (v := (.int .i64 a0.By)) I o3 I I I) I ?_
 have ⟨hg1, h⟩ := Zz h
 refine Z1 I (st_indexV (k := .i64) (v := (.vs 9)) (n := 9) (off := 0) (len := ([[], a1.Service, a1.Rule] : List Str).length) (es := (List.map Zv ([[], a1.Service, a1.Rule] : List Str))) (j := a0.By) (m := a0.By.toNat) I s36 I I (vecR_map _ _ _) I hg1 (Nat.zero_add _)) I ?_
 have ⟨hg2, h⟩ := Zz h
 refine Z1 I (st_loadV (l := ([[], a1.Service, a1.Rule] : List Str)) (enc := Zv) (z := []) (v := (.str (([[], a1.Service, a1.Rule] : List Str).getD a0.By.toNat []))) I o9 I I hg2 I) I <| Z1 I (Zg (v := (.str (([[], a1.Service, a1.Rule] : List Str).getD a0.By.toNat []))) I I) I <| Za <| Zd <| Z18 ?_
 have h := Option.some.inj h
 subst h
 refine (hret _ ?_).1
 exact ⟨[(.str (([[], a1.Service, a1.Rule] : List Str).getD a0.By.toNat []))], ⟨rfl, trivial⟩, rfl, trivial⟩
def F22_c5 (K : Nat) (v4 : (List Z4)) : Option ((List Z4)) :=
 some v4
def F22_j12 (K : Nat) (b7 : (List Z4) → Int → Option ((List Z4))) (v2 : Int) (v11 : (List Z4)) : Option ((List Z4)) :=
 b7 v11 (IntKind.i64.wrap (v2 + 1))
def F22_j10 (K : Nat) (v1 : (List Z4)) (a0 : Zm) (v2 : Int) (b7 : (List Z4) → Int → Option ((List Z4))) (v9 : Bool) : Option ((List Z4)) :=
 if v9 = true then
  (F48 K v1 [(a0.Silences.getD v2.toNat Zc).When]).bind fun v14 =>
   F22_j12 K b7 v2 v14
 else
  F22_j12 K b7 v2 v1
def F22_l3 (K : Nat) (a0 : Zm) (a1 : Zt) (c6 : (List Z4) → Option ((List Z4))) : Nat → (List Z4) → Int → Option ((List Z4))
 | 0, _, _ => none
 | k3 + 1, v1, v2 =>
  if (decide (v2 < (a0.Silences.length : Int))) = true then
   if (0 : Int) ≤ v2 ∧ v2 < a0.Silences.length then
    if ((a0.Silences.getD v2.toNat Zc).Rule == []) = true then
     if ((a0.Silences.getD v2.toNat Zc).Service == []) = true then
      F22_j10 K v1 a0 v2 (F22_l3 K a0 a1 c6 k3) true
     else
      F22_j10 K v1 a0 v2 (F22_l3 K a0 a1 c6 k3) ((a0.Silences.getD v2.toNat Zc).Service == a1.Service)
    else
     if ((a0.Silences.getD v2.toNat Zc).Rule == a1.Rule) = true then
      if ((a0.Silences.getD v2.toNat Zc).Service == []) = true then
       F22_j10 K v1 a0 v2 (F22_l3 K a0 a1 c6 k3) true
      else
       F22_j10 K v1 a0 v2 (F22_l3 K a0 a1 c6 k3) ((a0.Silences.getD v2.toNat Zc).Service == a1.Service)
     else
      F22_j10 K v1 a0 v2 (F22_l3 K a0 a1 c6 k3) false
   else none
  else
   c6 v1
def F22 (K : Nat) (a0 : Zm) (a1 : Zt) : Option ((List Z4)) :=
 F22_l3 K a0 a1 (F22_c5 K) K [a1.When] 0
theorem F22_ok (K : Nat) (a0 : Zm) (a1 : Zt) (r : (List Z4)) (h : F22 K a0 a1 = some r) : ACall P 22 ⟨[(Z6 a0), (Z8 a1)], [], (.sl 2 (r.map Z2) false), [], []⟩ := by
 refine acall_of Try.func22 Try.results22 rfl Try.ntmps22 rfl rfl rfl ?_
 intro E Q hP hN hro hret
 obtain ⟨P', nt', w0, F0, p0, S0, β0, ro0⟩ := E
 simp only at hP hN
 subst hP hN
 dsimp only [argT]
 unfold F22 at h
 refine Zf <| Z7 <| Z1 I (st_box (v := (Z6 a0)) (cs := (Z6 a0).cells) I I I I I) I <| Z1 I (st_box (v := (Z8 a1)) (cs := (Z8 a1).cells) I I I I I) I <| Z1 I (Zg (v := (.sl 2 [] false)) I I) I <| Za <| Zd <| Zf ?_
 refine Z7 <| Z1 I (Zu (m := 3) (o := 0) I f42_2 I I) I <| Z1 I (Z1p (cs := (Z8 a1).cells) (vs := (Z2 a1.When).cells) I a40 I I I I) I <| Z1 I (Z1n (vs := [(Z2 a1.When)]) (enc := Z2) (l := [a1.When]) I el45 I I ⟨rfl, trivial⟩ I els_Tapi_Interval I I I I) I <| Z1 I (Zg (v := (.vs 10)) I I) I <| Za <| Zd <| Zf ?_
 refine Zf <| Z7 <| Z1 I (Zg (v := (.int .i64 0)) I I) I <| Za <| Zd <| AWp.ghost (st' := ⟨[(2, (.ptr 2 0)), (3, (.ptr 3 0)), (5, (.sl 2 ([a1.When].map Z2) false)), (6, (.int .i64 0))], [(2, (.box (Z6 a0).cells)), (3, (.box (Z8 a1).cells))]⟩) (fun a w h => (Z1h ⟨[(2, (.ptr 2 0)), (3, (.ptr 3 0)), (5, (.sl 2 ([a1.When].map Z2) false)), (6, (.int .i64 0))], [(2, (.box (Z6 a0).cells)), (3, (.box (Z8 a1).cells))]⟩ (ghost_freeze (m := 10) (sz := 2) (es := (List.map Z2 [a1.When])) a w (Z1h ⟨[(2, (.ptr 2 0)), (3, (.ptr 3 0)), (5, (.vs 10)), (6, (.int .i64 0))], [(10, (.vec 2 (List.map Z2 [a1.When]))), (2, (.box (Z6 a0).cells)), (3, (.box (Z8 a1).cells))]⟩ h ⟨rfl, rfl, rfl, rfl, trivial⟩ ⟨rfl, rfl, rfl, trivial⟩)) ⟨rfl, rfl, rfl, rfl, trivial⟩ ⟨rfl, rfl, trivial⟩)) <| AWp.weaken (st' := ⟨[(2, (.ptr 2 0)), (3, (.ptr 3 0)), (5, (.sl 2 ([a1.When].map Z2) false)), (6, (.int .i64 0))], [(2, (.box (Z6 a0).cells)), (3, (.box (Z8 a1).cells))]⟩) ⟨rfl, rfl, rfl, rfl, trivial⟩ ⟨rfl, rfl, trivial⟩ ?_
 refine Z1l (V := (List Z4) × Int) (X := (List Z4)) (lp := fun k v => F22_l3 K a0 a1 (F22_c5 K) k v.1 v.2 = some r) (sh := fun v => ⟨[(2, (.ptr 2 0)), (3, (.ptr 3 0)), (5, (.sl 2 (v.1.map Z2) false)), (6, (.int .i64 v.2))], [(2, (.box (Z6 a0).cells)), (3, (.box (Z8 a1).cells))]⟩) (x := fun v => F22_c5 K v = some r) (shx := fun v => ⟨[(5, (.sl 2 (v.map Z2) false))], []⟩) (k := K) (v := ([a1.When], 0)) h ?_ ?_
 ·intro v h
  revert h
  revert v
  intro v4 h
  try dsimp only at h ⊢
  unfold F22_c5 at h
  refine Zd <| Zf <| Z7 <| Z1 I (Ze (v := (.sl 2 (v4.map Z2) false)) I I) I <| Z1 I (Zg (v := (.sl 2 (v4.map Z2) false)) I I) I <| Za <| Zd <| Z18 ?_
  have h := Option.some.inj h
  subst h
  refine (hret _ ?_).1
  exact ⟨[(.sl 2 (v4.map Z2) false)], ⟨rfl, trivial⟩, rfl, trivial⟩
 ·intro N k3 v h IH3 J3
  obtain ⟨v1, v2⟩ := v
  try dsimp only at h IH3 J3 ⊢
  cases k3 with
  | zero => cases h
  | succ k3 =>
   rw [F22_l3] at h
   refine Zf <| Zf <| Z7 <| Z1 I (Ze (v := (.int .i64 v2)) I I) I <| Z1 I (Zu (m := 2) (o := 0) I f34_2 I I) I <| Z1 I (Z11 (cs := (Z6 a0).cells) (v := (.sl 5 (a0.Silences.map Zj) false)) I o31 I I I) I <| Z1 I (stx_len (l := a0.Silences) (enc := Zj) I s31 I) I <| Z1 I (Z1f (k := .i64) (a := v2) (b := (a0.Silences.length : Int)) (c := (decide (v2 < (a0.Silences.length : Int)))) I I I I) I ?_
   refine Za <| Zd ?_
   have hif := Z1g h
   refine Zs I (fun hc => ?_) (fun hc => ?_)
   ·have h := hif.1 hc
    refine Zx <| Zd <| Zf <| AWp.block <| Zf <| Z7 <| Z1 I (Zu (m := 2) (o := 0) I f34_2 I I) I <| Z1 I (Z11 (cs := (Z6 a0).cells) (v := (.sl 5 (a0.Silences.map Zj) false)) I o31 I I I) I ?_
    refine Z1 I (Ze (v := (.int .i64 v2)) I I) I ?_
    have ⟨hg8, h⟩ := Zz h
    refine Z1 I (st_index (k := .i64) (l := a0.Silences) (enc := Zj) (z := Zc) (n := v2) (cs := (Zj (a0.Silences.getD v2.toNat Zc)).cells) (full := false) I s31 I I hg8 I) I <| Z1 I (st_loadIA (cs := (Zj (a0.Silences.getD v2.toNat Zc)).cells) (vs := (Zj (a0.Silences.getD v2.toNat Zc)).cells) I a67 I I I) I <| Z1 I (st_alloc (cs := [(.int .i64 0), (.str []), (.str []), (.int .i64 0), (.int .i64 0)]) I z67 I I I) I <| Z1 I (Z1k (cs := [(.int .i64 0), (.str []), (.str []), (.int .i64 0), (.int .i64 0)]) (vs := (Zj (a0.Silences.getD v2.toNat Zc)).cells) (ds := (Zj (a0.Silences.getD v2.toNat Zc)).cells) (v := (Zj (a0.Silences.getD v2.toNat Zc))) sz67 I I I I I I I I) I <| Za <| Zd <| Zf ?_
    refine AWp.join (V := Bool) (lp := fun v => F22_j10 K v1 a0 v2 (F22_l3 K a0 a1 (F22_c5 K) k3) v = some r) (sh := fun v => ⟨[(2, (.ptr 2 0)), (3, (.ptr 3 0)), (5, (.sl 2 (v1.map Z2) false)), (6, (.int .i64 v2)), (7, (.ptr 7 0)), (44, (.bool v))], [(2, (.box (Z6 a0).cells)), (3, (.box (Z8 a1).cells)), (7, (.box (Zj (a0.Silences.getD v2.toNat Zc)).cells))]⟩) ?_ ?_
    ·intro v h
     revert h
     revert v
     intro v9 h
     try dsimp only at h ⊢
     unfold F22_j10 at h
     refine Zd ?_
     refine AWp.join (V := (List Z4)) (lp := fun v => F22_j12 K (F22_l3 K a0 a1 (F22_c5 K) k3) v2 v = some r) (sh := fun v => ⟨[(2, (.ptr 2 0)), (3, (.ptr 3 0)), (5, (.sl 2 (v.map Z2) false)), (6, (.int .i64 v2))], [(2, (.box (Z6 a0).cells)), (3, (.box (Z8 a1).cells))]⟩) ?_ ?_
     ·intro v h
      revert h
      revert v
      intro v11 h
      try dsimp only at h ⊢
      unfold F22_j12 at h
      refine At.end <| Zd <| Z7 <| Z1 I (Ze (v := (.int .i64 v2)) I I) I <| Z1 I (Z1o (k := .i64) (a := v2) (b := 1) (c := (IntKind.i64.wrap (v2 + 1))) I I I I) I <| Z1 I (Zg (v := (.int .i64 (IntKind.i64.wrap (v2 + 1)))) I I) I <| Za ?_
      exact Zp (st' := ⟨[(2, (.ptr 2 0)), (3, (.ptr 3 0)), (5, (.sl 2 (v11.map Z2) false)), (6, (.int .i64 (IntKind.i64.wrap (v2 + 1))))], [(2, (.box (Z6 a0).cells)), (3, (.box (Z8 a1).cells))]⟩) ⟨rfl, rfl, rfl, rfl, trivial⟩ ⟨rfl, rfl, trivial⟩ (IH3 _ (v11, (IntKind.i64.wrap (v2 + 1))) (Nat.lt_succ_self _) h)
     ·intro J12
      have hif := Z1g h
      refine Zs I (fun hc => ?_) (fun hc => ?_)
      ·have h := hif.1 hc
       refine Z7 <| Z1 I (Ze (v := (.sl 2 (v1.map Z2) false)) I I) I <| Z1 I (Zu (m := 7) (o := 0) I f67_3 I I) I <| Z1 I (Z1p (cs := (Zj (a0.Silences.getD v2.toNat Zc)).cells) (vs := (Z2 (a0.Silences.getD v2.toNat Zc).When).cells) I a40 I I I I) I <| Z1 I (Z1n (vs := [(Z2 (a0.Silences.getD v2.toNat Zc).When)]) (enc := Z2) (l := [(a0.Silences.getD v2.toNat Zc).When]) I el45 I I ⟨rfl, trivial⟩ I els_Tapi_Interval I I I I) I <| AOps.ghost (st' := ⟨[(2, (.ptr 2 0)), (3, (.ptr 3 0)), (5, (.sl 2 (v1.map Z2) false)), (6, (.int .i64 v2)), (45, (.sl 2 (v1.map Z2) false)), (48, (.sl 2 ([(a0.Silences.getD v2.toNat Zc).When].map Z2) false))], [(2, (.box (Z6 a0).cells)), (3, (.box (Z8 a1).cells))]⟩) (fun a w h => (Z1h ⟨[(2, (.ptr 2 0)), (3, (.ptr 3 0)), (5, (.sl 2 (v1.map Z2) false)), (6, (.int .i64 v2)), (45, (.sl 2 (v1.map Z2) false)), (48, (.sl 2 ([(a0.Silences.getD v2.toNat Zc).When].map Z2) false))], [(2, (.box (Z6 a0).cells)), (3, (.box (Z8 a1).cells))]⟩ (ghost_freeze (m := 48) (sz := 2) (es := (List.map Z2 [(a0.Silences.getD v2.toNat Zc).When])) a w (Z1h ⟨[(2, (.ptr 2 0)), (3, (.ptr 3 0)), (5, (.sl 2 (v1.map Z2) false)), (6, (.int .i64 v2)), (45, (.sl 2 (v1.map Z2) false)), (48, (.vs 48))], [(48, (.vec 2 (List.map Z2 [(a0.Silences.getD v2.toNat Zc).When]))), (2, (.box (Z6 a0).cells)), (3, (.box (Z8 a1).cells))]⟩ h ⟨rfl, rfl, rfl, rfl, rfl, rfl, trivial⟩ ⟨rfl, rfl, rfl, trivial⟩)) ⟨rfl, rfl, rfl, rfl, rfl, rfl, trivial⟩ ⟨rfl, rfl, trivial⟩)) ?_
       have ⟨v14, hv14, h⟩ := Z17 h
       refine Z1 I (Z1b (ar := [(.sl 2 (v1.map Z2) false), (.sl 2 ([(a0.Silences.getD v2.toNat Zc).When].map Z2) false)]) (caps := []) Try.call48 (F48_ok K v1 [(a0.Silences.getD v2.toNat Zc).When] v14 hv14) I I ⟨rfl, rfl, trivial⟩ I) I <| Z1 I (Zg (v := (.sl 2 (v14.map Z2) false)) I I) I <| Za ?_
       exact Zp (st' := ⟨[(2, (.ptr 2 0)), (3, (.ptr 3 0)), (5, (.sl 2 (v14.map Z2) false)), (6, (.int .i64 v2))], [(2, (.box (Z6 a0).cells)), (3, (.box (Z8 a1).cells))]⟩) ⟨rfl, rfl, rfl, rfl, trivial⟩ ⟨rfl, rfl, trivial⟩ (J12 v14 h)
      ·have h := hif.2 hc
       refine Zx ?_
       exact Zp (st' := ⟨[(2, (.ptr 2 0)), (3, (.ptr 3 0)), (5, (.sl 2 (v1.map Z2) false)), (6, (.int .i64 v2))], [(2, (.box (Z6 a0).cells)), (3, (.box (Z8 a1).cells))]⟩) ⟨rfl, rfl, rfl, rfl, trivial⟩ ⟨rfl, rfl, trivial⟩ (J12 v1 h)
    ·intro J10
     refine Z7 <| Z1 I (Zu (m := 7) (o := 0) I f67_1 I I) I <| Z1 I (Z11 (cs := (Zj (a0.Silences.getD v2.toNat Zc)).cells) (v := (.str (a0.Silences.getD v2.toNat Zc).Rule)) I o9 I I I) I <| Z1 I (st_cmpS (a := (a0.Silences.getD v2.toNat Zc).Rule) (b := []) (c := ((a0.Silences.getD v2.toNat Zc).Rule == [])) I I I I) I <| Z1 I (Ze (v := (.bool ((a0.Silences.getD v2.toNat Zc).Rule == []))) I I) I ?_
     have hif := Z1g h
     refine Z15 (fun hc => ?_) (fun hc => ?_)
     ·have h := hif.1 hc
      refine Z5 I I I I I I I <| Z5 I I I I I I I <| Z5 I I I I I I I <| Z5 I I I I I I I <| Z5 I I I I I I I <| Z1 I (Z1d (v := (.bool true)) I I I) I <| Z1 I (Ze (v := (.bool true)) I I) I <| Zh I I I I (Zu (m := 7) (o := 0) I f67_2 I I) I ?_
      refine Zh I I I I (Z11 (cs := (Zj (a0.Silences.getD v2.toNat Zc)).cells) (v := (.str (a0.Silences.getD v2.toNat Zc).Service)) I o9 I I I) I <| Zh I I I I (st_cmpS (a := (a0.Silences.getD v2.toNat Zc).Service) (b := []) (c := ((a0.Silences.getD v2.toNat Zc).Service == [])) I I I I) I <| Zh I I I I (Ze (v := (.bool ((a0.Silences.getD v2.toNat Zc).Service == []))) I I) I ?_
      have hif := Z1g h
      refine Z15 (fun hc => ?_) (fun hc => ?_)
      ·have h := hif.1 hc
       refine Z5 I I I I I I I <| Z5 I I I I I I I <| Z5 I I I I I I I <| Z5 I I I I I I I <| Z5 I I I I I I I <| Zh I I I I (Z1d (v := (.bool true)) I I I) I <| Z1 I (Z1d (v := (.bool true)) I I I) I <| Za ?_
       exact Zp (st' := ⟨[(2, (.ptr 2 0)), (3, (.ptr 3 0)), (5, (.sl 2 (v1.map Z2) false)), (6, (.int .i64 v2)), (7, (.ptr 7 0)), (44, (.bool true))], [(2, (.box (Z6 a0).cells)), (3, (.box (Z8 a1).cells)), (7, (.box (Zj (a0.Silences.getD v2.toNat Zc)).cells))]⟩) ⟨rfl, rfl, rfl, rfl, rfl, rfl, trivial⟩ ⟨rfl, rfl, rfl, trivial⟩ (J10 true h)
      ·have h := hif.2 hc
       refine Zh I I I I (Zu (m := 7) (o := 0) I f67_2 I I) I <| Zh I I I I (Z11 (cs := (Zj (a0.Silences.getD v2.toNat Zc)).cells) (v := (.str (a0.Silences.getD v2.toNat Zc).Service)) I o9 I I I) I <| Zh I I I I (Zu (m := 3) (o := 0) I f42_1 I I) I <| Zh I I I I (Z11 (cs := (Z8 a1).cells) (v := (.str a1.Service)) I o9 I I I) I <| Zh I I I I (st_cmpS (a := (a0.Silences.getD v2.toNat Zc).Service) (b := a1.Service) (c := ((a0.Silences.getD v2.toNat Zc).Service == a1.Service)) I I I I) I <| Zh I I I I (Z10 (v := (.bool ((a0.Silences.getD v2.toNat Zc).Service == a1.Service))) I I I) I <| Z1 I (Z1d (v := (.bool ((a0.Silences.getD v2.toNat Zc).Service == a1.Service))) I I I) I <| Za ?_
       exact Zp (st' := ⟨[(2, (.ptr 2 0)), (3, (.ptr 3 0)), (5, (.sl 2 (v1.map Z2) false)), (6, (.int .i64 v2)), (7, (.ptr 7 0)), (44, (.bool ((a0.Silences.getD v2.toNat Zc).Service == a1.Service)))], [(2, (.box (Z6 a0).cells)), (3, (.box (Z8 a1).cells)), (7, (.box (Zj (a0.Silences.getD v2.toNat Zc)).cells))]⟩) ⟨rfl, rfl, rfl, rfl, rfl, rfl, trivial⟩ ⟨rfl, rfl, rfl, trivial⟩ (J10 ((a0.Silences.getD v2.toNat Zc).Service == a1.Service) h)
     ·have h := hif.2 hc
      refine Zh I I I I (Zu (m := 7) (o := 0) I f67_1 I I) I <| Zh I I I I (Z11 (cs := (Zj (a0.Silences.getD v2.toNat Zc)).cells) (v := (.str (a0.Silences.getD v2.toNat Zc).Rule)) I o9 I I I) I <| Zh I I I I (Zu (m := 3) (o := 0) I f42_0 I I) I <| Zh I I I I (Z11 (cs := (Z8 a1).cells) (v := (.str a1.Rule)) I o9 I I I) I <| Zh I I I I (st_cmpS (a := (a0.Silences.getD v2.toNat Zc).Rule) (b := a1.Rule) (c := ((a0.Silences.getD v2.toNat Zc).Rule == a1.Rule)) I I I I) I <| Z1 I (Z10 (v := (.bool ((a0.Silences.getD v2.toNat Zc).Rule == a1.Rule))) I I I) I <| Z1 I (Ze (v := (.bool ((a0.Silences.getD v2.toNat Zc).Rule == a1.Rule))) I I) I ?_
      have hif := Z1g h
      refine Z15 (fun hc => ?_) (fun hc => ?_)
      ·have h := hif.1 hc
       refine Zh I I I I (Zu (m := 7) (o := 0) I f67_2 I I) I <| Zh I I I I (Z11 (cs := (Zj (a0.Silences.getD v2.toNat Zc)).cells) (v := (.str (a0.Silences.getD v2.toNat Zc).Service)) I o9 I I I) I <| Zh I I I I (st_cmpS (a := (a0.Silences.getD v2.toNat Zc).Service) (b := []) (c := ((a0.Silences.getD v2.toNat Zc).Service == [])) I I I I) I <| Zh I I I I (Ze (v := (.bool ((a0.Silences.getD v2.toNat Zc).Service == []))) I I) I ?_
       have hif := Z1g h
       refine Z15 (fun hc => ?_) (fun hc => ?_)
       ·have h := hif.1 hc
        refine Z5 I I I I I I I <| Z5 I I I I I I I <| Z5 I I I I I I I <| Z5 I I I I I I I <| Z5 I I I I I I I <| Zh I I I I (Z1d (v := (.bool true)) I I I) I <| Z1 I (Z1d (v := (.bool true)) I I I) I <| Za ?_
        exact Zp (st' := ⟨[(2, (.ptr 2 0)), (3, (.ptr 3 0)), (5, (.sl 2 (v1.map Z2) false)), (6, (.int .i64 v2)), (7, (.ptr 7 0)), (44, (.bool true))], [(2, (.box (Z6 a0).cells)), (3, (.box (Z8 a1).cells)), (7, (.box (Zj (a0.Silences.getD v2.toNat Zc)).cells))]⟩) ⟨rfl, rfl, rfl, rfl, rfl, rfl, trivial⟩ ⟨rfl, rfl, rfl, trivial⟩ (J10 true h)
       ·have h := hif.2 hc
        refine Zh I I I I (Zu (m := 7) (o := 0) I f67_2 I I) I <| Zh I I I I (Z11 (cs := (Zj (a0.Silences.getD v2.toNat Zc)).cells) (v := (.str (a0.Silences.getD v2.toNat Zc).Service)) I o9 I I I) I <| Zh I I I I (Zu (m := 3) (o := 0) I f42_1 I I) I <| Zh I I I I (Z11 (cs := (Z8 a1).cells) (v := (.str a1.Service)) I o9 I I I) I <| Zh I I I I (st_cmpS (a := (a0.Silences.getD v2.toNat Zc).Service) (b := a1.Service) (c := ((a0.Silences.getD v2.toNat Zc).Service == a1.Service)) I I I I) I <| Zh I I I I (Z10 (v := (.bool ((a0.Silences.getD v2.toNat Zc).Service == a1.Service))) I I I) I <| Z1 I (Z1d (v := (.bool ((a0.Silences.getD v2.toNat Zc).Service == a1.Service))) I I I) I <| Za ?_
        exact Zp (st' := ⟨[(2, (.ptr 2 0)), (3, (.ptr 3 0)), (5, (.sl 2 (v1.map Z2) false)), (6, (.int .i64 v2)), (7, (.ptr 7 0)), (44, (.bool ((a0.Silences.getD v2.toNat Zc).Service == a1.Service)))], [(2, (.box (Z6 a0).cells)), (3, (.box (Z8 a1).cells)), (7, (.box (Zj (a0.Silences.getD v2.toNat Zc)).cells))]⟩) ⟨rfl, rfl, rfl, rfl, rfl, rfl, trivial⟩ ⟨rfl, rfl, rfl, trivial⟩ (J10 ((a0.Silences.getD v2.toNat Zc).Service == a1.Service) h)
      ·have h := hif.2 hc
       refine Z5 I I I I I I I <| Z5 I I I I I I I <| Z5 I I I I I I I <| Z5 I I I I I I I <| Z5 (u := .tup []) I I I I I I I <| Z5 (u := .tup []) I I I I I I I <| Z5 (u := .tup []) I I I I I I I <| Z5 (u := .tup []) I I I I I I I ?_
       refine Z5 (u := .tup []) I I I I I I I <| Z5 I I I I I I I <| Z1 I (Z10 (v := (.bool false)) I I I) I <| Za ?_
       exact Zp (st' := ⟨[(2, (.ptr 2 0)), (3, (.ptr 3 0)), (5, (.sl 2 (v1.map Z2) false)), (6, (.int .i64 v2)), (7, (.ptr 7 0)), (44, (.bool false))], [(2, (.box (Z6 a0).cells)), (3, (.box (Z8 a1).cells)), (7, (.box (Zj (a0.Silences.getD v2.toNat Zc)).cells))]⟩) ⟨rfl, rfl, rfl, rfl, rfl, rfl, trivial⟩ ⟨rfl, rfl, rfl, trivial⟩ (J10 false h)
   ·have h := hif.2 hc
    refine AWp.exit <| At.thru ?_
    exact Zp (st' := ⟨[(5, (.sl 2 (v1.map Z2) false))], []⟩) ⟨rfl, trivial⟩ trivial (J3 v1 h)
def F24_c5 (K : Nat) (v4 : (List Z4)) : Option ((List Z4)) :=
 some v4
def F24_j12 (K : Nat) (b7 : (List Z4) → Int → Option ((List Z4))) (v2 : Int) (v11 : (List Z4)) : Option ((List Z4)) :=
 b7 v11 (IntKind.i64.wrap (v2 + 1))
def F24_l3 (K : Nat) (a0 : Zm) (a1 : Str) (c6 : (List Z4) → Option ((List Z4))) : Nat → (List Z4) → Int → Option ((List Z4))
 | 0, _, _ => none
 | k3 + 1, v1, v2 =>
  if (decide (v2 < (a0.Firings.length : Int))) = true then
   if (0 : Int) ≤ v2 ∧ v2 < a0.Firings.length then
    (F19 K a0.Policy (a0.Firings.getD v2.toNat Zi)).bind fun v10 =>
     if (v10 == a1) = true then
      if (0 : Int) ≤ v2 ∧ v2 < a0.Firings.length then
       (F22 K a0 (a0.Firings.getD v2.toNat Zi)).bind fun v15 =>
        (F47 K v1 v15).bind fun v17 =>
         F24_j12 K (F24_l3 K a0 a1 c6 k3) v2 v17
      else none
     else
      F24_j12 K (F24_l3 K a0 a1 c6 k3) v2 v1
   else none
  else
   c6 v1
def F24 (K : Nat) (a0 : Zm) (a1 : Str) : Option ((List Z4)) :=
 F24_l3 K a0 a1 (F24_c5 K) K [] 0
theorem F24_ok (K : Nat) (a0 : Zm) (a1 : Str) (r : (List Z4)) (h : F24 K a0 a1 = some r) : ACall P 24 ⟨[(Z6 a0), (.str a1)], [], (.sl 2 (r.map Z2) false), [], []⟩ := by
 refine acall_of Try.func24 Try.results24 rfl Try.ntmps24 rfl rfl rfl ?_
 intro E Q hP hN hro hret
 obtain ⟨P', nt', w0, F0, p0, S0, β0, ro0⟩ := E
 simp only at hP hN
 subst hP hN
 dsimp only [argT]
 unfold F24 at h
 refine Zf <| Z7 <| Z1 I (st_box (v := (Z6 a0)) (cs := (Z6 a0).cells) I I I I I) I <| Z1 I (Zg (v := (.sl 2 [] false)) I I) I <| Za <| Zd <| Zf <| Z7 ?_
 refine Z1 I (Zg (v := (.sl 2 [] false)) I I) I <| Za <| Zd <| Zf <| Zf <| Z7 <| Z1 I (Zg (v := (.int .i64 0)) I I) I <| Za ?_
 refine Zd <| AWp.weaken (st' := ⟨[(1, (.str a1)), (2, (.ptr 2 0)), (5, (.sl 2 ([].map Z2) false)), (6, (.int .i64 0))], [(2, (.box (Z6 a0).cells))]⟩) ⟨rfl, rfl, rfl, rfl, trivial⟩ ⟨rfl, trivial⟩ ?_
 refine Z1l (V := (List Z4) × Int) (X := (List Z4)) (lp := fun k v => F24_l3 K a0 a1 (F24_c5 K) k v.1 v.2 = some r) (sh := fun v => ⟨[(1, (.str a1)), (2, (.ptr 2 0)), (5, (.sl 2 (v.1.map Z2) false)), (6, (.int .i64 v.2))], [(2, (.box (Z6 a0).cells))]⟩) (x := fun v => F24_c5 K v = some r) (shx := fun v => ⟨[(5, (.sl 2 (v.map Z2) false))], []⟩) (k := K) (v := ([], 0)) h ?_ ?_
 ·intro v h
  revert h
  revert v
  intro v4 h
  try dsimp only at h ⊢
  unfold F24_c5 at h
  refine Zd <| Zf <| Z7 <| Z1 I (Ze (v := (.sl 2 (v4.map Z2) false)) I I) I <| Z1 I (Zg (v := (.sl 2 (v4.map Z2) false)) I I) I <| Za <| Zd <| Z18 ?_
  have h := Option.some.inj h
  subst h
  refine (hret _ ?_).1
  exact ⟨[(.sl 2 (v4.map Z2) false)], ⟨rfl, trivial⟩, rfl, trivial⟩
 ·intro N k3 v h IH3 J3
  obtain ⟨v1, v2⟩ := v
  try dsimp only at h IH3 J3 ⊢
  cases k3 with
  | zero => cases h
  | succ k3 =>
   rw [F24_l3] at h
   refine Zf <| Zf <| Z7 <| Z1 I (Ze (v := (.int .i64 v2)) I I) I <| Z1 I (Zu (m := 2) (o := 0) I f34_1 I I) I <| Z1 I (Z11 (cs := (Z6 a0).cells) (v := (.sl 4 (a0.Firings.map Z8) false)) I o30 I I I) I <| Z1 I (stx_len (l := a0.Firings) (enc := Z8) I s30 I) I <| Z1 I (Z1f (k := .i64) (a := v2) (b := (a0.Firings.length : Int)) (c := (decide (v2 < (a0.Firings.length : Int)))) I I I I) I ?_
   refine Za <| Zd ?_
   have hif := Z1g h
   refine Zs I (fun hc => ?_) (fun hc => ?_)
   ·have h := hif.1 hc
    refine Zx <| Zd <| Zf <| AWp.block <| Zf <| AWp.regionD mixed <| Zn 0 I (Zu (m := 2) (o := 0) I f34_0 I I) <| Zn 1 I (Z1p (cs := (Z6 a0).cells) (vs := (Z13 a0.Policy).cells) I a29 I I I I) ?_
    refine Zn 2 I (Zu (m := 2) (o := 0) I f34_1 I I) <| Zn 3 I (Z11 (cs := (Z6 a0).cells) (v := (.sl 4 (a0.Firings.map Z8) false)) I o30 I I I) <| Zn 4 I (Ze (v := (.int .i64 v2)) I I) ?_
    have ⟨hg8, h⟩ := Zz h
    refine Zn 5 I (st_index (k := .i64) (l := a0.Firings) (enc := Z8) (z := Zi) (n := v2) (cs := (Z8 (a0.Firings.getD v2.toNat Zi)).cells) (full := false) I s30 I I hg8 I) <| Zn 6 I (st_loadIA (cs := (Z8 (a0.Firings.getD v2.toNat Zi)).cells) (vs := (Z8 (a0.Firings.getD v2.toNat Zi)).cells) I a42 I I I) ?_
    have ⟨v10, hv10, h⟩ := Z17 h
    refine Zn 7 I (Z1b (ar := [(Z13 a0.Policy), (Z8 (a0.Firings.getD v2.toNat Zi))]) (caps := []) Try.call19 (F19_ok K a0.Policy (a0.Firings.getD v2.toNat Zi) v10 hv10) I I ⟨rfl, rfl, trivial⟩ I) <| Zn 8 I (Ze (v := (.str a1)) I I) <| Zn 9 I (st_cmpS (a := v10) (b := a1) (c := (v10 == a1)) I I I I) <| AOpsD.nil (by kernel_rfl) I <| Zd ?_
    refine AWp.join (V := (List Z4)) (lp := fun v => F24_j12 K (F24_l3 K a0 a1 (F24_c5 K) k3) v2 v = some r) (sh := fun v => ⟨[(1, (.str a1)), (2, (.ptr 2 0)), (5, (.sl 2 (v.map Z2) false)), (6, (.int .i64 v2))], [(2, (.box (Z6 a0).cells))]⟩) ?_ ?_
    ·intro v h
     revert h
     revert v
     intro v11 h
     try dsimp only at h ⊢
     unfold F24_j12 at h
     refine At.end <| Zd <| Z7 <| Z1 I (Ze (v := (.int .i64 v2)) I I) I <| Z1 I (Z1o (k := .i64) (a := v2) (b := 1) (c := (IntKind.i64.wrap (v2 + 1))) I I I I) I <| Z1 I (Zg (v := (.int .i64 (IntKind.i64.wrap (v2 + 1)))) I I) I <| Za ?_
     exact Zp (st' := ⟨[(1, (.str a1)), (2, (.ptr 2 0)), (5, (.sl 2 (v11.map Z2) false)), (6, (.int .i64 (IntKind.i64.wrap (v2 + 1))))], [(2, (.box (Z6 a0).cells))]⟩) ⟨rfl, rfl, rfl, rfl, trivial⟩ ⟨rfl, trivial⟩ (IH3 _ (v11, (IntKind.i64.wrap (v2 + 1))) (Nat.lt_succ_self _) h)
    ·intro J12
     have hif := Z1g h
     refine Zs I (fun hc => ?_) (fun hc => ?_)
     ·have h := hif.1 hc
      refine AWp.regionD mixed <| Zn 0 I (Ze (v := (.sl 2 (v1.map Z2) false)) I I) <| Zn 1 I (Z1p (cs := (Z6 a0).cells) (vs := (Z6 a0).cells) I a34 I I I I) <| Zn 2 I (Zu (m := 2) (o := 0) I f34_1 I I) <| Zn 3 I (Z11 (cs := (Z6 a0).cells) (v := (.sl 4 (a0.Firings.map Z8) false)) I o30 I I I) <| Zn 4 I (Ze (v := (.int .i64 v2)) I I) ?_
      have ⟨hg13, h⟩ := Zz h
      refine Zn 5 I (st_index (k := .i64) (l := a0.Firings) (enc := Z8) (z := Zi) (n := v2) (cs := (Z8 (a0.Firings.getD v2.toNat Zi)).cells) (full := false) I s30 I I hg13 I) <| Zn 6 I (st_loadIA (cs := (Z8 (a0.Firings.getD v2.toNat Zi)).cells) (vs := (Z8 (a0.Firings.getD v2.toNat Zi)).cells) I a42 I I I) ?_
      have ⟨v15, hv15, h⟩ := Z17 h
      refine Zn 7 I (Z1b (ar := [(Z6 a0), (Z8 (a0.Firings.getD v2.toNat Zi))]) (caps := []) Try.call22 (F22_ok K a0 (a0.Firings.getD v2.toNat Zi) v15 hv15) I I ⟨rfl, rfl, trivial⟩ I) ?_
      have ⟨v17, hv17, h⟩ := Z17 h
      refine Zn 8 I (Z1b (ar := [(.sl 2 (v1.map Z2) false), (.sl 2 (v15.map Z2) false)]) (caps := []) Try.call47 (F47_ok K v1 v15 v17 hv17) I I ⟨rfl, rfl, trivial⟩ I) <| Zn 9 I (Zg (v := (.sl 2 (v17.map Z2) false)) I I) <| AOpsD.nil (by kernel_rfl) I ?_
      exact Zp (st' := ⟨[(1, (.str a1)), (2, (.ptr 2 0)), (5, (.sl 2 (v17.map Z2) false)), (6, (.int .i64 v2))], [(2, (.box (Z6 a0).cells))]⟩) ⟨rfl, rfl, rfl, rfl, trivial⟩ ⟨rfl, trivial⟩ (J12 v17 h)
     ·have h := hif.2 hc
      refine Zx ?_
      exact Zp (st' := ⟨[(1, (.str a1)), (2, (.ptr 2 0)), (5, (.sl 2 (v1.map Z2) false)), (6, (.int .i64 v2))], [(2, (.box (Z6 a0).cells))]⟩) ⟨rfl, rfl, rfl, rfl, trivial⟩ ⟨rfl, trivial⟩ (J12 v1 h)
   ·have h := hif.2 hc
    refine AWp.exit <| At.thru ?_
    exact Zp (st' := ⟨[(5, (.sl 2 (v1.map Z2) false))], []⟩) ⟨rfl, trivial⟩ trivial (J3 v1 h)
end Go.AM.Noti
