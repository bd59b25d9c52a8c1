/- What these functions compute, each with its walk: F26. -/
import Derived.Test.YtmdglfmfefmpkaaNotiT
import Derived.Test.YtmdglfmfefmpkaaNotiG1
import Derived.Test.YtmdglfmfefmpkaaNotiG6
import Derived.Test.YtmdglfmfefmpkaaNotiG7
namespace Go.AM.Noti
open Go Go.AM Go.Proofs
set_option maxRecDepth 100000
set_option maxHeartbeats 2000000
def F26_c5 (_K : Nat) (v4 : (List Str)) : Option ((List Str)) :=
 some v4
def F26_j9 (_K : Nat) (b7 : Int → (List Str) → Option ((List Str))) (v1 : Int) (v8 : (List Str)) : Option ((List Str)) :=
 b7 (IntKind.i64.wrap (v1 + 1)) v8
def F26_j18 (K : Nat) (b7 : Int → (List Str) → Option ((List Str))) (v1 : Int) (v17 : (List Str)) : Option ((List Str)) :=
 F26_j9 K b7 v1 v17
def F26_l3 (K : Nat) (a0 : Ze) (a1 : Str) (a2 : Int) (c6 : (List Str) → Option ((List Str))) : Nat → Int → (List Str) → Option ((List Str))
 | 0, _, _ => none
 | k3 + 1, v1, v2 =>
 if (decide (v1 < (a0.Firings.length : Int))) = true then
 if (0 : Int) ≤ v1 ∧ v1 < a0.Firings.length then
 (F19 K a0.Policy (a0.Firings.getD v1.toNat Z12)).bind fun v12 =>
 if (v12 == a1) = true then
 (F22 K a0 (a0.Firings.getD v1.toNat Z12)).bind fun v14 =>
 (F31 K v14 a2).bind fun v16 =>
 if v16 = true then
 (F44 K v2 (a0.Firings.getD v1.toNat Z12).Rule).bind fun v20 =>
 F26_j18 K (F26_l3 K a0 a1 a2 c6 k3) v1 v20
 else
 F26_j18 K (F26_l3 K a0 a1 a2 c6 k3) v1 v2
 else
 F26_j9 K (F26_l3 K a0 a1 a2 c6 k3) v1 v2
 else none
 else
 c6 v2
def F26 (K : Nat) (a0 : Ze) (a1 : Str) (a2 : Int) : Option ((List Str)) :=
 F26_l3 K a0 a1 a2 (F26_c5 K) K 0 []
theorem F26_ok (K : Nat) (a0 : Ze) (a1 : Str) (a2 : Int) (r : (List Str)) (h : F26 K a0 a1 a2 = some r) : ACall P 26 ⟨[(Zf a0), (.str a1), (.int .i64 a2)], [], (.sl 1 (r.map Z1i) false), [], []⟩ := by
 refine Z1v Try.func26 Try.results26 rfl Try.ntmps26 rfl rfl rfl ?_
 intro E Q hP hN hro hret
 obtain ⟨P', nt', w0, F0, p0, S0, β0, ro0⟩ := E
 simp only at hP hN
 subst hP hN
 dsimp only [argT]
 unfold F26 at h
 refine Zb <| Z5 <| Z1 I (Z2r I I I I I) I <| Z1 I (Zd (v := (.sl 1 [] false)) I I) I <| Z7 <| Z8 <| Zb <| Z5 <| Z1 I (Zd (v := (.sl 1 [] true)) I I) I <| Z7 <| Z8 <| Zb <| Zb <| Z5 <| Z1 I (Zd (v := (.int .i64 0)) I I) I <| Z7 <| Z8 <| Z2p (st' := ⟨[(1, (.str a1)), (2, (.int .i64 a2)), (3, (.ptr 3 0)), (7, (.vs 7)), (8, (.int .i64 0))], [(3, (.box (Zf a0).cells)), (7, (.vec 1 (List.map Z1i ([] : List Str))))]⟩) (fun a w h => (Z1k _ (ghost_own (k := 7) (m := 7) (sz := 1) I I a w (Z1k ⟨[(7, (.sl 1 [] true)), (1, (.str a1)), (2, (.int .i64 a2)), (3, (.ptr 3 0)), (8, (.int .i64 0))], [(3, (.box (Zf a0).cells))]⟩ h ⟨I, I, I, I, I, J0⟩ ⟨I, J0⟩)) ⟨I, I, I, I, I, J0⟩ ⟨I, I, J0⟩)) <| Z1r (st' := ⟨[(1, (.str a1)), (2, (.int .i64 a2)), (3, (.ptr 3 0)), (7, (.vs 7)), (8, (.int .i64 0))], [(3, (.box (Zf a0).cells)), (7, (.vec 1 (List.map Z1i [])))]⟩) ⟨I, I, I, I, I, J0⟩ ⟨I, I, J0⟩ ?_
 refine Z1o (V := Int × (List Str)) (X := (List Str)) (lp := fun k v => F26_l3 K a0 a1 a2 (F26_c5 K) k v.1 v.2 = some r) (sh := fun v => ⟨[(1, (.str a1)), (2, (.int .i64 a2)), (3, (.ptr 3 0)), (7, (.vs 7)), (8, (.int .i64 v.1))], [(3, (.box (Zf a0).cells)), (7, (.vec 1 (List.map Z1i v.2)))]⟩) (x := fun v => F26_c5 K v = some r) (shx := fun v => ⟨[(7, (.vs 7))], [(7, (.vec 1 (List.map Z1i v)))]⟩) (k := K) (v := (0, [])) h ?_ ?_
 ·intro v h
  revert h
  revert v
  intro v4 h
  try dsimp only at h ⊢
  unfold F26_c5 at h
  refine Z8 <| Zb <| Z5 <| Z1 I (Z9 I I) I <| Z1 I (Zd I I) I <| Z7 <| Z8 <| Z1e <| Z2w (st' := ⟨[(6, (.sl 1 (v4.map Z1i) false))], []⟩) (fun a w h => (Z1k _ (Z22 (m := 7) (sz := 1) (es := (List.map Z1i v4)) a w (Z1k ⟨[(6, (.vs 7))], [(7, (.vec 1 (List.map Z1i v4)))]⟩ h ⟨I, J0⟩ ⟨I, J0⟩)) ⟨I, J0⟩ J0)) ?_
  have h := Option.some.inj h
  subst h
  refine (hret _ ?_).1
  exact ⟨[(.sl 1 (v4.map Z1i) false)], ⟨I, J0⟩, I, J0⟩
 intro N k3 v h IH3 J3
 obtain ⟨v1, v2⟩ := v
 try dsimp only at h IH3 J3 ⊢
 cases k3 with
 | zero => cases h
 | succ k3 =>
  rw [F26_l3] at h
  refine Zb <| Zb <| Z5 <| Z1 I (Z9 I I) I <| Z1 I (Zm I f34_1 I I) I <| Z1 I (Zs I o30 I I I) I <| Z1 I (Z24 (l := a0.Firings) (enc := Zh) I s30 I) I <| Z1 I (Z1c (c := (decide (v1 < (a0.Firings.length : Int)))) I I I I) I <| Z7 <| Z8 ?_
  have hif := Z1h h
  refine Zq I (fun hc => ?_) (fun hc => ?_)
  ·have h := hif.1 hc
   refine Z14 <| Z8 <| Zb ?_
   refine Z2m (V := (List Str)) (lp := fun v => F26_j9 K (F26_l3 K a0 a1 a2 (F26_c5 K) k3) v1 v = some r) (sh := fun v => ⟨[(1, (.str a1)), (2, (.int .i64 a2)), (3, (.ptr 3 0)), (7, (.vs 7)), (8, (.int .i64 v1))], [(3, (.box (Zf a0).cells)), (7, (.vec 1 (List.map Z1i v)))]⟩) ?_ ?_
   ·intro v h
    revert h
    revert v
    intro v8 h
    try dsimp only at h ⊢
    unfold F26_j9 at h
    refine Z8 <| Z5 <| Z1 I (Z9 I I) I <| Z1 I (Z1p (k := .i64) (b := 1) (c := (IntKind.i64.wrap (v1 + 1))) I I I I) I <| Z1 I (Zd I I) I <| Z7 ?_
    exact Zz (IH3 _ ((IntKind.i64.wrap (v1 + 1)), v8) (Nat.lt_succ_self _) h) ⟨I, I, I, I, I, J0⟩ ⟨I, I, J0⟩
   intro J9
   refine Zb <| Z5 <| Z1 I (Zm I f34_1 I I) I <| Z1 I (Zs I o30 I I I) I <| Z1 I (Z9 I I) I ?_
   have ⟨hg10, h⟩ := Zw h
   refine Z1 I (Z1s (k := .i64) (l := a0.Firings) (enc := Zh) (z := Z12) (n := v1) (full := false) I s30 I I hg10 I) I <| Z1 I (Z28 I a42 I I I) I <| Z1 I (Z1x I z42 I I I) I <| Z1 I (Z1f sz42 I I I I I I I I) I <| Z7 <| Z8 <| Zb <| Z5 <| Z1 I (Zm I f34_0 I I) I <| Z1 I (Z1n I a29 I I I I) I <| Z1 I (Z1n I a42 I I I I) I ?_
   have ⟨v12, hv12, h⟩ := Z1a h
   refine Z1 I (Z1d (ar := [(Z2i a0.Policy), (Zh (a0.Firings.getD v1.toNat Z12))]) Try.call19 (F19_ok K a0.Policy (a0.Firings.getD v1.toNat Z12) v12 hv12) I I ⟨I, I, J0⟩ I) I <| Z1 I (Z9 I I) I <| Z1 I (Z2z (c := (v12 == a1)) I I I I) I <| Z1 I (Z9 I I) I ?_
   have hif := Z1h h
   refine Z16 (fun hc => ?_) (fun hc => ?_)
   ·have h := hif.1 hc
    refine Zc I I I I (Z1n I a34 I I I I) I <| Zc I I I I (Z1n I a42 I I I I) I ?_
    have ⟨v14, hv14, h⟩ := Z1a h
    refine Zc I I I I (Z1d (ar := [(Zf a0), (Zh (a0.Firings.getD v1.toNat Z12))]) Try.call22 (F22_ok K a0 (a0.Firings.getD v1.toNat Z12) v14 hv14) I I ⟨I, I, J0⟩ I) I <| Zc I I I I (Z9 I I) I ?_
    have ⟨v16, hv16, h⟩ := Z1a h
    refine Zc I I I I (Z1d (ar := [(.sl 2 (v14.map Z6) false), (.int .i64 a2)]) Try.call31 (F31_ok K v14 a2 v16 hv16) I I ⟨I, I, J0⟩ I) I <| Z1 I (Z19 I I I) I <| Z7 <| Z8 ?_
    refine Z21 (V := (List Str)) (lp := fun v => F26_j18 K (F26_l3 K a0 a1 a2 (F26_c5 K) k3) v1 v = some r) (sh := fun v => ⟨[(1, (.str a1)), (2, (.int .i64 a2)), (3, (.ptr 3 0)), (7, (.vs 7)), (8, (.int .i64 v1))], [(3, (.box (Zf a0).cells)), (7, (.vec 1 (List.map Z1i v)))]⟩) ?_ ?_
    ·intro v h
     revert h
     revert v
     intro v17 h
     try dsimp only at h ⊢
     unfold F26_j18 at h
     refine Z27 ?_
     exact Zz (J9 v17 h) ⟨I, I, I, I, I, J0⟩ ⟨I, I, J0⟩
    intro J18
    have hif := Z1h h
    refine Zq I (fun hc => ?_) (fun hc => ?_)
    ·have h := hif.1 hc
     refine Z5 <| Z1 I (Z9 I I) I <| Z1 I (Zm I f42_0 I I) I <| Z1 I (Zs I o9 I I I) I ?_
     have ⟨v20, hv20, h⟩ := Z1a h
     refine Z1 I (st_call (d := some 38) (c := ⟨[(.vs 7), (.str (a0.Firings.getD v1.toNat Z12).Rule)] ++ [], [(7, (.vec 1 (List.map Z1i v2)))], .vs 7, [(7, .vec 1 (List.map Z1i v20))], [7]⟩) (ar := [(.vs 7), (.str (a0.Firings.getD v1.toNat Z12).Rule)]) (caps := []) (news := []) (forg := [7]) Try.call44 ((F44_ok K v2 (a0.Firings.getD v1.toNat Z12).Rule v20 hv20).sw 0 7) I I ⟨I, I, J0⟩ I ⟨I, J0⟩ I) I <| Z1 I (Zd I I) I <| Z7 ?_
     exact Zz (J18 v20 h) ⟨I, I, I, I, I, J0⟩ ⟨I, I, J0⟩
    have h := hif.2 hc
    refine Z14 ?_
    exact Zz (J18 v2 h) ⟨I, I, I, I, I, J0⟩ ⟨I, I, J0⟩
   have h := hif.2 hc
   iterate 5 refine Zg I I I I I I I ?_
   refine Z1 I (Zy (v := (.bool false)) I I I) I <| Z7 <| Z8 ?_
   refine Zq (b := false) I (fun hc => ?_) (fun hc => ?_)
   ·cases hc
   refine Z14 <| Z27 ?_
   exact Zz (J9 v2 h) ⟨I, I, I, I, I, J0⟩ ⟨I, I, J0⟩
  have h := hif.2 hc
  refine Z1u <| Z26 ?_
  exact Zz (J3 v2 h) ⟨I, J0⟩ ⟨I, J0⟩
end Go.AM.Noti
