/- What these functions compute, each with its walk: F26. -/
import Derived.Test.YtmdglfmfefmpkaaNotiT
import Derived.Test.YtmdglfmfefmpkaaNotiG1
import Derived.Test.YtmdglfmfefmpkaaNotiG5
import Derived.Test.YtmdglfmfefmpkaaNotiG6
namespace Go.AM.Noti
open Go Go.AM Go.Proofs
set_option maxRecDepth 100000
set_option maxHeartbeats 2000000
def F26_c5 (K : Nat) (v4 : (List Str)) : Option ((List Str)) :=
 some v4
def F26_j9 (K : Nat) (b7 : Int → (List Str) → Option ((List Str))) (v1 : Int) (v8 : (List Str)) : Option ((List Str)) :=
 b7 (IntKind.i64.wrap (v1 + 1)) v8
def F26_j18 (K : Nat) (b7 : Int → (List Str) → Option ((List Str))) (v1 : Int) (v17 : (List Str)) : Option ((List Str)) :=
 F26_j9 K b7 v1 v17
def F26_l3 (K : Nat) (a0 : Zm) (a1 : Str) (a2 : Int) (c6 : (List Str) → Option ((List Str))) : Nat → Int → (List Str) → Option ((List Str))
 | 0, _, _ => none
 | k3 + 1, v1, v2 =>
  if (decide (v1 < (a0.Firings.length : Int))) = true then
   if (0 : Int) ≤ v1 ∧ v1 < a0.Firings.length then
    (F19 K a0.Policy (a0.Firings.getD v1.toNat Zi)).bind fun v12 =>
     if (v12 == a1) = true then
      (F22 K a0 (a0.Firings.getD v1.toNat Zi)).bind fun v14 =>
       (F31 K v14 a2).bind fun v16 =>
        if v16 = true then
         (F44 K v2 (a0.Firings.getD v1.toNat Zi).Rule).bind fun v20 =>
          F26_j18 K (F26_l3 K a0 a1 a2 c6 k3) v1 v20
        else
         F26_j18 K (F26_l3 K a0 a1 a2 c6 k3) v1 v2
     else
      F26_j9 K (F26_l3 K a0 a1 a2 c6 k3) v1 v2
   else none
  else
   c6 v2
def F26 (K : Nat) (a0 : Zm) (a1 : Str) (a2 : Int) : Option ((List Str)) :=
 F26_l3 K a0 a1 a2 (F26_c5 K) K 0 []
theorem F26_ok (K : Nat) (a0 : Zm) (a1 : Str) (a2 : Int) (r : (List Str)) (h : F26 K a0 a1 a2 = some r) : ACall P 26 ⟨[(Z6 a0), (.str a1), (.int .i64 a2)], [], (.sl 1 (r.map Zv) false), [], []⟩ := by
 refine acall_of Try.func26 Try.results26 rfl Try.ntmps26 rfl rfl rfl ?_
 intro E Q hP hN hro hret
 obtain ⟨P', nt', w0, F0, p0, S0, β0, ro0⟩ := E
 simp only at hP hN
 subst hP hN
 dsimp only [argT]
 unfold F26 at h
 refine Zf <| Z7 <| Z1 I (st_box (v := (Z6 a0)) (cs := (Z6 a0).cells) I I I I I) I <| Z1 I (Zg (v := (.sl 1 [] false)) I I) I <| Za <| Zd <| Zf <| Z7 ?_
 refine Z1 I (Zg (v := (.sl 1 [] true)) I I) I <| Za <| Zd <| Zf <| Zf <| Z7 <| Z1 I (Zg (v := (.int .i64 0)) I I) I <| Za ?_
 refine Zd <| AWp.ghost (st' := ⟨[(1, (.str a1)), (2, (.int .i64 a2)), (3, (.ptr 3 0)), (7, (.vs 7)), (8, (.int .i64 0))], [(3, (.box (Z6 a0).cells)), (7, (.vec 1 (List.map Zv ([] : List Str))))]⟩) (fun a w h => (Z1h ⟨[(1, (.str a1)), (2, (.int .i64 a2)), (3, (.ptr 3 0)), (7, (.vs 7)), (8, (.int .i64 0))], [(3, (.box (Z6 a0).cells)), (7, (.vec 1 (List.map Zv ([] : List Str))))]⟩ (ghost_own (k := 7) (m := 7) (sz := 1) I I a w (Z1h ⟨[(7, (.sl 1 [] true)), (1, (.str a1)), (2, (.int .i64 a2)), (3, (.ptr 3 0)), (8, (.int .i64 0))], [(3, (.box (Z6 a0).cells))]⟩ h ⟨rfl, rfl, rfl, rfl, rfl, trivial⟩ ⟨rfl, trivial⟩)) ⟨rfl, rfl, rfl, rfl, rfl, trivial⟩ ⟨rfl, rfl, trivial⟩)) <| AWp.weaken (st' := ⟨[(1, (.str a1)), (2, (.int .i64 a2)), (3, (.ptr 3 0)), (7, (.vs 7)), (8, (.int .i64 0))], [(3, (.box (Z6 a0).cells)), (7, (.vec 1 (List.map Zv [])))]⟩) ⟨rfl, rfl, rfl, rfl, rfl, trivial⟩ ⟨rfl, rfl, trivial⟩ ?_
 refine Z1l (V := Int × (List Str)) (X := (List Str)) (lp := fun k v => F26_l3 K a0 a1 a2 (F26_c5 K) k v.1 v.2 = some r) (sh := fun v => ⟨[(1, (.str a1)), (2, (.int .i64 a2)), (3, (.ptr 3 0)), (7, (.vs 7)), (8, (.int .i64 v.1))], [(3, (.box (Z6 a0).cells)), (7, (.vec 1 (List.map Zv v.2)))]⟩) (x := fun v => F26_c5 K v = some r) (shx := fun v => ⟨[(7, (.vs 7))], [(7, (.vec 1 (List.map Zv v)))]⟩) (k := K) (v := (0, [])) h ?_ ?_
 ·intro v h
  revert h
  revert v
  intro v4 h
  try dsimp only at h ⊢
  unfold F26_c5 at h
  refine Zd <| Zf <| Z7 <| Z1 I (Ze (v := (.vs 7)) I I) I <| Z1 I (Zg (v := (.vs 7)) I I) I <| Za <| Zd <| Z18 ?_
  refine At.ghost (st' := ⟨[(6, (.sl 1 (v4.map Zv) false))], []⟩) (fun a w h => (Z1h ⟨[(6, (.sl 1 (v4.map Zv) false))], []⟩ (ghost_freeze (m := 7) (sz := 1) (es := (List.map Zv v4)) a w (Z1h ⟨[(6, (.vs 7))], [(7, (.vec 1 (List.map Zv v4)))]⟩ h ⟨rfl, trivial⟩ ⟨rfl, trivial⟩)) ⟨rfl, trivial⟩ trivial)) ?_
  have h := Option.some.inj h
  subst h
  refine (hret _ ?_).1
  exact ⟨[(.sl 1 (v4.map Zv) false)], ⟨rfl, trivial⟩, rfl, trivial⟩
 ·intro N k3 v h IH3 J3
  obtain ⟨v1, v2⟩ := v
  try dsimp only at h IH3 J3 ⊢
  cases k3 with
  | zero => cases h
  | succ k3 =>
   rw [F26_l3] at h
   refine Zf <| Zf <| Z7 <| Z1 I (Ze (v := (.int .i64 v1)) I I) I <| Z1 I (Zu (m := 3) (o := 0) I f34_1 I I) I <| Z1 I (Z11 (cs := (Z6 a0).cells) (v := (.sl 4 (a0.Firings.map Z8) false)) I o30 I I I) I <| Z1 I (stx_len (l := a0.Firings) (enc := Z8) I s30 I) I <| Z1 I (Z1f (k := .i64) (a := v1) (b := (a0.Firings.length : Int)) (c := (decide (v1 < (a0.Firings.length : Int)))) I I I I) I ?_
   refine Za <| Zd ?_
   have hif := Z1g h
   refine Zs I (fun hc => ?_) (fun hc => ?_)
   ·have h := hif.1 hc
    refine Zx <| Zd <| Zf ?_
    refine AWp.blockJoin (V := (List Str)) (lp := fun v => F26_j9 K (F26_l3 K a0 a1 a2 (F26_c5 K) k3) v1 v = some r) (sh := fun v => ⟨[(1, (.str a1)), (2, (.int .i64 a2)), (3, (.ptr 3 0)), (7, (.vs 7)), (8, (.int .i64 v1))], [(3, (.box (Z6 a0).cells)), (7, (.vec 1 (List.map Zv v)))]⟩) ?_ ?_
    ·intro v h
     revert h
     revert v
     intro v8 h
     try dsimp only at h ⊢
     unfold F26_j9 at h
     refine Zd <| Z7 <| Z1 I (Ze (v := (.int .i64 v1)) I I) I <| Z1 I (Z1o (k := .i64) (a := v1) (b := 1) (c := (IntKind.i64.wrap (v1 + 1))) I I I I) I <| Z1 I (Zg (v := (.int .i64 (IntKind.i64.wrap (v1 + 1)))) I I) I <| Za ?_
     exact Zp (st' := ⟨[(1, (.str a1)), (2, (.int .i64 a2)), (3, (.ptr 3 0)), (7, (.vs 7)), (8, (.int .i64 (IntKind.i64.wrap (v1 + 1))))], [(3, (.box (Z6 a0).cells)), (7, (.vec 1 (List.map Zv v8)))]⟩) ⟨rfl, rfl, rfl, rfl, rfl, trivial⟩ ⟨rfl, rfl, trivial⟩ (IH3 _ ((IntKind.i64.wrap (v1 + 1)), v8) (Nat.lt_succ_self _) h)
    ·intro J9
     refine Zf <| Z7 <| Z1 I (Zu (m := 3) (o := 0) I f34_1 I I) I <| Z1 I (Z11 (cs := (Z6 a0).cells) (v := (.sl 4 (a0.Firings.map Z8) false)) I o30 I I I) I <| Z1 I (Ze (v := (.int .i64 v1)) I I) I ?_
     have ⟨hg10, h⟩ := Zz h
     refine Z1 I (st_index (k := .i64) (l := a0.Firings) (enc := Z8) (z := Zi) (n := v1) (cs := (Z8 (a0.Firings.getD v1.toNat Zi)).cells) (full := false) I s30 I I hg10 I) I <| Z1 I (st_loadIA (cs := (Z8 (a0.Firings.getD v1.toNat Zi)).cells) (vs := (Z8 (a0.Firings.getD v1.toNat Zi)).cells) I a42 I I I) I <| Z1 I (st_alloc (cs := [(.str []), (.str []), (.int .i64 0), (.int .i64 0)]) I z42 I I I) I <| Z1 I (Z1k (cs := [(.str []), (.str []), (.int .i64 0), (.int .i64 0)]) (vs := (Z8 (a0.Firings.getD v1.toNat Zi)).cells) (ds := (Z8 (a0.Firings.getD v1.toNat Zi)).cells) (v := (Z8 (a0.Firings.getD v1.toNat Zi))) sz42 I I I I I I I I) I <| Za <| Zd <| Zf <| Z7 ?_
     refine Z1 I (Zu (m := 3) (o := 0) I f34_0 I I) I <| Z1 I (Z1p (cs := (Z6 a0).cells) (vs := (Z13 a0.Policy).cells) I a29 I I I I) I <| Z1 I (Z1p (cs := (Z8 (a0.Firings.getD v1.toNat Zi)).cells) (vs := (Z8 (a0.Firings.getD v1.toNat Zi)).cells) I a42 I I I I) I ?_
     have ⟨v12, hv12, h⟩ := Z17 h
     refine Z1 I (Z1b (ar := [(Z13 a0.Policy), (Z8 (a0.Firings.getD v1.toNat Zi))]) (caps := []) Try.call19 (F19_ok K a0.Policy (a0.Firings.getD v1.toNat Zi) v12 hv12) I I ⟨rfl, rfl, trivial⟩ I) I <| Z1 I (Ze (v := (.str a1)) I I) I <| Z1 I (st_cmpS (a := v12) (b := a1) (c := (v12 == a1)) I I I I) I <| Z1 I (Ze (v := (.bool (v12 == a1))) I I) I ?_
     have hif := Z1g h
     refine Z15 (fun hc => ?_) (fun hc => ?_)
     ·have h := hif.1 hc
      refine Zh I I I I (Z1p (cs := (Z6 a0).cells) (vs := (Z6 a0).cells) I a34 I I I I) I <| Zh I I I I (Z1p (cs := (Z8 (a0.Firings.getD v1.toNat Zi)).cells) (vs := (Z8 (a0.Firings.getD v1.toNat Zi)).cells) I a42 I I I I) I ?_
      have ⟨v14, hv14, h⟩ := Z17 h
      refine Zh I I I I (Z1b (ar := [(Z6 a0), (Z8 (a0.Firings.getD v1.toNat Zi))]) (caps := []) Try.call22 (F22_ok K a0 (a0.Firings.getD v1.toNat Zi) v14 hv14) I I ⟨rfl, rfl, trivial⟩ I) I <| Zh I I I I (Ze (v := (.int .i64 a2)) I I) I ?_
      have ⟨v16, hv16, h⟩ := Z17 h
      refine Zh I I I I (Z1b (ar := [(.sl 2 (v14.map Z2) false), (.int .i64 a2)]) (caps := []) Try.call31 (F31_ok K v14 a2 v16 hv16) I I ⟨rfl, rfl, trivial⟩ I) I <| Z1 I (Z1d (v := (.bool v16)) I I I) I <| Za <| Zd ?_
      refine AWp.join (V := (List Str)) (lp := fun v => F26_j18 K (F26_l3 K a0 a1 a2 (F26_c5 K) k3) v1 v = some r) (sh := fun v => ⟨[(1, (.str a1)), (2, (.int .i64 a2)), (3, (.ptr 3 0)), (7, (.vs 7)), (8, (.int .i64 v1))], [(3, (.box (Z6 a0).cells)), (7, (.vec 1 (List.map Zv v)))]⟩) ?_ ?_
      ·intro v h
       revert h
       revert v
       intro v17 h
       try dsimp only at h ⊢
       unfold F26_j18 at h
       refine At.end ?_
       exact Zp (st' := ⟨[(1, (.str a1)), (2, (.int .i64 a2)), (3, (.ptr 3 0)), (7, (.vs 7)), (8, (.int .i64 v1))], [(3, (.box (Z6 a0).cells)), (7, (.vec 1 (List.map Zv v17)))]⟩) ⟨rfl, rfl, rfl, rfl, rfl, trivial⟩ ⟨rfl, rfl, trivial⟩ (J9 v17 h)
      ·intro J18
       have hif := Z1g h
       refine Zs I (fun hc => ?_) (fun hc => ?_)
       ·have h := hif.1 hc
        refine Z7 <| Z1 I (Ze (v := (.vs 7)) I I) I <| Z1 I (Zu (m := 9) (o := 0) I f42_0 I I) I <| Z1 I (Z11 (cs := (Z8 (a0.Firings.getD v1.toNat Zi)).cells) (v := (.str (a0.Firings.getD v1.toNat Zi).Rule)) I o9 I I I) I ?_
        have ⟨v20, hv20, h⟩ := Z17 h
        refine Z1 I (st_call (d := some 38) (c := ⟨[(.vs 7), (.str (a0.Firings.getD v1.toNat Zi).Rule)] ++ [], [(7, (.vec 1 (List.map Zv v2)))], .vs 7, [(7, .vec 1 (List.map Zv v20))], [7]⟩) (ar := [(.vs 7), (.str (a0.Firings.getD v1.toNat Zi).Rule)]) (caps := []) (news := []) (forg := [7]) Try.call44 ((F44_ok K v2 (a0.Firings.getD v1.toNat Zi).Rule v20 hv20).sw 0 7) I I ⟨rfl, rfl, trivial⟩ I ⟨rfl, trivial⟩ I) I <| Z1 I (Zg (v := (.vs 7)) I I) I <| Za ?_
        exact Zp (st' := ⟨[(1, (.str a1)), (2, (.int .i64 a2)), (3, (.ptr 3 0)), (7, (.vs 7)), (8, (.int .i64 v1))], [(3, (.box (Z6 a0).cells)), (7, (.vec 1 (List.map Zv v20)))]⟩) ⟨rfl, rfl, rfl, rfl, rfl, trivial⟩ ⟨rfl, rfl, trivial⟩ (J18 v20 h)
       ·have h := hif.2 hc
        refine Zx ?_
        exact Zp (st' := ⟨[(1, (.str a1)), (2, (.int .i64 a2)), (3, (.ptr 3 0)), (7, (.vs 7)), (8, (.int .i64 v1))], [(3, (.box (Z6 a0).cells)), (7, (.vec 1 (List.map Zv v2)))]⟩) ⟨rfl, rfl, rfl, rfl, rfl, trivial⟩ ⟨rfl, rfl, trivial⟩ (J18 v2 h)
     ·have h := hif.2 hc
      refine Z5 I I I I I I I <| Z5 I I I I I I I <| Z5 I I I I I I I <| Z5 I I I I I I I <| Z5 I I I I I I I <| Z1 I (Z10 (v := (.bool false)) I I I) I <| Za <| Zd ?_
      refine Zs (b := false) I (fun hc => ?_) (fun hc => ?_)
      ·cases hc
      refine Zx <| At.end ?_
      exact Zp (st' := ⟨[(1, (.str a1)), (2, (.int .i64 a2)), (3, (.ptr 3 0)), (7, (.vs 7)), (8, (.int .i64 v1))], [(3, (.box (Z6 a0).cells)), (7, (.vec 1 (List.map Zv v2)))]⟩) ⟨rfl, rfl, rfl, rfl, rfl, trivial⟩ ⟨rfl, rfl, trivial⟩ (J9 v2 h)
   ·have h := hif.2 hc
    refine AWp.exit <| At.thru ?_
    exact Zp (st' := ⟨[(7, (.vs 7))], [(7, (.vec 1 (List.map Zv v2)))]⟩) ⟨rfl, trivial⟩ ⟨rfl, trivial⟩ (J3 v2 h)
end Go.AM.Noti
