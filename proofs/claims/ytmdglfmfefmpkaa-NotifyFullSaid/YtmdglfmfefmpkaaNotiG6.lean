/- What these functions compute, each with its walk: F19, F22, F24. -/
import Derived.Test.YtmdglfmfefmpkaaNotiT
import Derived.Test.YtmdglfmfefmpkaaNotiG1
namespace Go.AM.Noti
open Go Go.AM Go.Proofs
set_option maxRecDepth 100000
set_option maxHeartbeats 2000000
def F19 (_K : Nat) (a0 : Z29) (a1 : Zo) : Option (Str) :=
 if (0 : Int) ≤ a0.By ∧ a0.By < (([[], a1.Service, a1.Rule] : List Str).length : Nat) then
 if a0.By.toNat < ([[], a1.Service, a1.Rule] : List Str).length then
 some (([[], a1.Service, a1.Rule] : List Str).getD a0.By.toNat [])
 else none
 else none
theorem F19_ok (K : Nat) (a0 : Z29) (a1 : Zo) (r : Str) (h : F19 K a0 a1 = some r) : ACall P 19 ⟨[(Z2i a0), (Zh a1)], [], (.str r), [], []⟩ := by
 refine Z1v Try.func19 Try.results19 rfl Try.ntmps19 rfl rfl rfl ?_
 intro E Q hP hN hro hret
 obtain ⟨P', nt', w0, F0, p0, S0, β0, ro0⟩ := E
 simp only at hP hN
 subst hP hN
 dsimp only [argT]
 unfold F19 at h
 refine Zb <| Z5 <| Z1 I (Z2r I I I I I) I <| Z1 I (Z2r I I I I I) I <| Z1 I (Zd (v := (.str [])) I I) I <| Z7 <| Z8 <| Zb <| Z5 <| Z1 I (Zm I f42_1 I I) I <| Z1 I (Zs I o9 I I I) I <| Z1 I (Zm I f42_0 I I) I <| Z1 I (Zs I o9 I I I) I <| Z1 I (Z1m (vs := [(.str []), (.str a1.Service), (.str a1.Rule)]) (enc := Z1i) (l := ([[], a1.Service, a1.Rule] : List Str)) I el36 I I ⟨I, I, I, J0⟩ I Z39 I I I I) I <| Z1 I (Zm I f29_0 I I) I <| Z1 I (Zs I o3 I I I) I ?_
 have ⟨hg1, h⟩ := Zw h
 refine Z1 I (Z32 (k := .i64) (v := (.vs 9)) (n := 9) (off := 0) (len := ([[], a1.Service, a1.Rule] : List Str).length) (es := (List.map Z1i ([[], a1.Service, a1.Rule] : List Str))) (j := a0.By) (m := a0.By.toNat) I s36 I I (Z31 _ _ _) I hg1 (Nat.zero_add _)) I ?_
 have ⟨hg2, h⟩ := Zw h
 refine Z1 I (Z3o (l := ([[], a1.Service, a1.Rule] : List Str)) (enc := Z1i) (z := []) (v := (.str (([[], a1.Service, a1.Rule] : List Str).getD a0.By.toNat []))) I o9 I I hg2 I) I <| Z1 I (Zd I I) I <| Z7 <| Z8 <| Z1e ?_
 have h := Option.some.inj h
 subst h
 refine (hret _ ?_).1
 exact ⟨[(.str (([[], a1.Service, a1.Rule] : List Str).getD a0.By.toNat []))], ⟨I, J0⟩, I, J0⟩
def F22_c5 (_K : Nat) (v4 : (List Z4)) : Option ((List Z4)) :=
 some v4
def F22_j12 (_K : Nat) (b7 : (List Z4) → Int → Option ((List Z4))) (v2 : Int) (v11 : (List Z4)) : Option ((List Z4)) :=
 b7 v11 (IntKind.i64.wrap (v2 + 1))
def F22_j10 (K : Nat) (v1 : (List Z4)) (a0 : Ze) (v2 : Int) (b7 : (List Z4) → Int → Option ((List Z4))) (v9 : Bool) : Option ((List Z4)) :=
 if v9 = true then
 (F48 K v1 [(a0.Silences.getD v2.toNat Zr).When]).bind fun v14 =>
 F22_j12 K b7 v2 v14
 else
 F22_j12 K b7 v2 v1
def F22_l3 (K : Nat) (a0 : Ze) (a1 : Zo) (c6 : (List Z4) → Option ((List Z4))) : Nat → (List Z4) → Int → Option ((List Z4))
 | 0, _, _ => none
 | k3 + 1, v1, v2 =>
 if (decide (v2 < (a0.Silences.length : Int))) = true then
 if (0 : Int) ≤ v2 ∧ v2 < a0.Silences.length then
 if ((a0.Silences.getD v2.toNat Zr).Rule == []) = true then
 if ((a0.Silences.getD v2.toNat Zr).Service == []) = true then
 F22_j10 K v1 a0 v2 (F22_l3 K a0 a1 c6 k3) true
 else
 F22_j10 K v1 a0 v2 (F22_l3 K a0 a1 c6 k3) ((a0.Silences.getD v2.toNat Zr).Service == a1.Service)
 else
 if ((a0.Silences.getD v2.toNat Zr).Rule == a1.Rule) = true then
 if ((a0.Silences.getD v2.toNat Zr).Service == []) = true then
 F22_j10 K v1 a0 v2 (F22_l3 K a0 a1 c6 k3) true
 else
 F22_j10 K v1 a0 v2 (F22_l3 K a0 a1 c6 k3) ((a0.Silences.getD v2.toNat Zr).Service == a1.Service)
 else
 F22_j10 K v1 a0 v2 (F22_l3 K a0 a1 c6 k3) false
 else none
 else
 c6 v1
def F22 (K : Nat) (a0 : Ze) (a1 : Zo) : Option ((List Z4)) :=
 F22_l3 K a0 a1 (F22_c5 K) K [a1.When] 0
theorem F22_ok (K : Nat) (a0 : Ze) (a1 : Zo) (r : (List Z4)) (h : F22 K a0 a1 = some r) : ACall P 22 ⟨[(Zf a0), (Zh a1)], [], (.sl 2 (r.map Z6) false), [], []⟩ := by
 refine Z1v Try.func22 Try.results22 rfl Try.ntmps22 rfl rfl rfl ?_
 intro E Q hP hN hro hret
 obtain ⟨P', nt', w0, F0, p0, S0, β0, ro0⟩ := E
 simp only at hP hN
 subst hP hN
 dsimp only [argT]
 unfold F22 at h
 refine Zb <| Z5 <| Z1 I (Z2r I I I I I) I <| Z1 I (Z2r I I I I I) I <| Z1 I (Zd (v := (.sl 2 [] false)) I I) I <| Z7 <| Z8 <| Zb <| Z5 <| Z1 I (Zm I f42_2 I I) I <| Z1 I (Z1n I a40 I I I I) I <| Z1 I (Z1m (vs := [(Z6 a1.When)]) (enc := Z6) (l := [a1.When]) I el45 I I ⟨I, J0⟩ I Z2u I I I I) I <| Z1 I (Zd I I) I <| Z7 <| Z8 <| Zb <| Zb <| Z5 <| Z1 I (Zd (v := (.int .i64 0)) I I) I <| Z7 <| Z8 <| Z2p (st' := ⟨[(2, (.ptr 2 0)), (3, (.ptr 3 0)), (5, (.sl 2 ([a1.When].map Z6) false)), (6, (.int .i64 0))], [(2, (.box (Zf a0).cells)), (3, (.box (Zh a1).cells))]⟩) (fun a w h => (Z1k _ (Z22 (m := 10) (sz := 2) (es := (List.map Z6 [a1.When])) a w (Z1k ⟨[(2, (.ptr 2 0)), (3, (.ptr 3 0)), (5, (.vs 10)), (6, (.int .i64 0))], [(10, (.vec 2 (List.map Z6 [a1.When]))), (2, (.box (Zf a0).cells)), (3, (.box (Zh a1).cells))]⟩ h ⟨I, I, I, I, J0⟩ ⟨I, I, I, J0⟩)) ⟨I, I, I, I, J0⟩ ⟨I, I, J0⟩)) <| Z1r (st' := ⟨[(2, (.ptr 2 0)), (3, (.ptr 3 0)), (5, (.sl 2 ([a1.When].map Z6) false)), (6, (.int .i64 0))], [(2, (.box (Zf a0).cells)), (3, (.box (Zh a1).cells))]⟩) ⟨I, I, I, I, J0⟩ ⟨I, I, J0⟩ ?_
 refine Z1o (V := (List Z4) × Int) (X := (List Z4)) (lp := fun k v => F22_l3 K a0 a1 (F22_c5 K) k v.1 v.2 = some r) (sh := fun v => ⟨[(2, (.ptr 2 0)), (3, (.ptr 3 0)), (5, (.sl 2 (v.1.map Z6) false)), (6, (.int .i64 v.2))], [(2, (.box (Zf a0).cells)), (3, (.box (Zh a1).cells))]⟩) (x := fun v => F22_c5 K v = some r) (shx := fun v => ⟨[(5, (.sl 2 (v.map Z6) false))], []⟩) (k := K) (v := ([a1.When], 0)) h ?_ ?_
 ·intro v h
  revert h
  revert v
  intro v4 h
  try dsimp only at h ⊢
  unfold F22_c5 at h
  refine Z8 <| Zb <| Z5 <| Z1 I (Z9 I I) I <| Z1 I (Zd I I) I <| Z7 <| Z8 <| Z1e ?_
  have h := Option.some.inj h
  subst h
  refine (hret _ ?_).1
  exact ⟨[(.sl 2 (v4.map Z6) false)], ⟨I, J0⟩, I, J0⟩
 intro N k3 v h IH3 J3
 obtain ⟨v1, v2⟩ := v
 try dsimp only at h IH3 J3 ⊢
 cases k3 with
 | zero => cases h
 | succ k3 =>
  rw [F22_l3] at h
  refine Zb <| Zb <| Z5 <| Z1 I (Z9 I I) I <| Z1 I (Zm I f34_2 I I) I <| Z1 I (Zs I o31 I I I) I <| Z1 I (Z24 (l := a0.Silences) (enc := Zk) I s31 I) I <| Z1 I (Z1c (c := (decide (v2 < (a0.Silences.length : Int)))) I I I I) I <| Z7 <| Z8 ?_
  have hif := Z1h h
  refine Zq I (fun hc => ?_) (fun hc => ?_)
  ·have h := hif.1 hc
   refine Z14 <| Z8 <| Zb <| Z1t <| Zb <| Z5 <| Z1 I (Zm I f34_2 I I) I <| Z1 I (Zs I o31 I I I) I <| Z1 I (Z9 I I) I ?_
   have ⟨hg8, h⟩ := Zw h
   refine Z1 I (Z1s (k := .i64) (l := a0.Silences) (enc := Zk) (z := Zr) (n := v2) (full := false) I s31 I I hg8 I) I <| Z1 I (Z28 I a67 I I I) I <| Z1 I (Z1x I z67 I I I) I <| Z1 I (Z1f sz67 I I I I I I I I) I <| Z7 <| Z8 <| Zb ?_
   refine Z21 (V := Bool) (lp := fun v => F22_j10 K v1 a0 v2 (F22_l3 K a0 a1 (F22_c5 K) k3) v = some r) (sh := fun v => ⟨[(2, (.ptr 2 0)), (3, (.ptr 3 0)), (5, (.sl 2 (v1.map Z6) false)), (6, (.int .i64 v2)), (7, (.ptr 7 0)), (44, (.bool v))], [(2, (.box (Zf a0).cells)), (3, (.box (Zh a1).cells)), (7, (.box (Zk (a0.Silences.getD v2.toNat Zr)).cells))]⟩) ?_ ?_
   ·intro v h
    revert h
    revert v
    intro v9 h
    try dsimp only at h ⊢
    unfold F22_j10 at h
    refine Z8 ?_
    refine Z21 (V := (List Z4)) (lp := fun v => F22_j12 K (F22_l3 K a0 a1 (F22_c5 K) k3) v2 v = some r) (sh := fun v => ⟨[(2, (.ptr 2 0)), (3, (.ptr 3 0)), (5, (.sl 2 (v.map Z6) false)), (6, (.int .i64 v2))], [(2, (.box (Zf a0).cells)), (3, (.box (Zh a1).cells))]⟩) ?_ ?_
    ·intro v h
     revert h
     revert v
     intro v11 h
     try dsimp only at h ⊢
     unfold F22_j12 at h
     refine Z27 <| Z8 <| Z5 <| Z1 I (Z9 I I) I <| Z1 I (Z1p (k := .i64) (b := 1) (c := (IntKind.i64.wrap (v2 + 1))) I I I I) I <| Z1 I (Zd I I) I <| Z7 ?_
     exact Zz (IH3 _ (v11, (IntKind.i64.wrap (v2 + 1))) (Nat.lt_succ_self _) h) ⟨I, I, I, I, J0⟩ ⟨I, I, J0⟩
    intro J12
    have hif := Z1h h
    refine Zq I (fun hc => ?_) (fun hc => ?_)
    ·have h := hif.1 hc
     refine Z5 <| Z1 I (Z9 I I) I <| Z1 I (Zm I f67_3 I I) I <| Z1 I (Z1n I a40 I I I I) I <| Z1 I (Z1m (vs := [(Z6 (a0.Silences.getD v2.toNat Zr).When)]) (enc := Z6) (l := [(a0.Silences.getD v2.toNat Zr).When]) I el45 I I ⟨I, J0⟩ I Z2u I I I I) I <| Z3b (st' := ⟨[(2, (.ptr 2 0)), (3, (.ptr 3 0)), (5, (.sl 2 (v1.map Z6) false)), (6, (.int .i64 v2)), (45, (.sl 2 (v1.map Z6) false)), (48, (.sl 2 ([(a0.Silences.getD v2.toNat Zr).When].map Z6) false))], [(2, (.box (Zf a0).cells)), (3, (.box (Zh a1).cells))]⟩) (fun a w h => (Z1k _ (Z22 (m := 48) (sz := 2) (es := (List.map Z6 [(a0.Silences.getD v2.toNat Zr).When])) a w (Z1k ⟨[(2, (.ptr 2 0)), (3, (.ptr 3 0)), (5, (.sl 2 (v1.map Z6) false)), (6, (.int .i64 v2)), (45, (.sl 2 (v1.map Z6) false)), (48, (.vs 48))], [(48, (.vec 2 (List.map Z6 [(a0.Silences.getD v2.toNat Zr).When]))), (2, (.box (Zf a0).cells)), (3, (.box (Zh a1).cells))]⟩ h ⟨I, I, I, I, I, I, J0⟩ ⟨I, I, I, J0⟩)) ⟨I, I, I, I, I, I, J0⟩ ⟨I, I, J0⟩)) ?_
     have ⟨v14, hv14, h⟩ := Z1a h
     refine Z1 I (Z1d (ar := [(.sl 2 (v1.map Z6) false), (.sl 2 ([(a0.Silences.getD v2.toNat Zr).When].map Z6) false)]) Try.call48 (F48_ok K v1 [(a0.Silences.getD v2.toNat Zr).When] v14 hv14) I I ⟨I, I, J0⟩ I) I <| Z1 I (Zd I I) I <| Z7 ?_
     exact Zz (J12 v14 h) ⟨I, I, I, I, J0⟩ ⟨I, I, J0⟩
    have h := hif.2 hc
    refine Z14 ?_
    exact Zz (J12 v1 h) ⟨I, I, I, I, J0⟩ ⟨I, I, J0⟩
   intro J10
   refine Z5 <| Z1 I (Zm I f67_1 I I) I <| Z1 I (Zs I o9 I I I) I <| Z1 I (Z2z (b := []) (c := ((a0.Silences.getD v2.toNat Zr).Rule == [])) I I I I) I <| Z1 I (Z9 I I) I ?_
   have hif := Z1h h
   refine Z16 (fun hc => ?_) (fun hc => ?_)
   ·have h := hif.1 hc
    iterate 5 refine Zg I I I I I I I ?_
    refine Z1 I (Z19 (v := (.bool true)) I I I) I <| Z1 I (Z9 (v := (.bool true)) I I) I <| Zc I I I I (Zm I f67_2 I I) I <| Zc I I I I (Zs I o9 I I I) I <| Zc I I I I (Z2z (b := []) (c := ((a0.Silences.getD v2.toNat Zr).Service == [])) I I I I) I <| Zc I I I I (Z9 I I) I ?_
    have hif := Z1h h
    refine Z16 (fun hc => ?_) (fun hc => ?_)
    ·have h := hif.1 hc
     iterate 5 refine Zg I I I I I I I ?_
     refine Zc I I I I (Z19 (v := (.bool true)) I I I) I <| Z1 I (Z19 (v := (.bool true)) I I I) I <| Z7 ?_
     exact Zz (J10 true h) ⟨I, I, I, I, I, I, J0⟩ ⟨I, I, I, J0⟩
    have h := hif.2 hc
    refine Zc I I I I (Zm I f67_2 I I) I <| Zc I I I I (Zs I o9 I I I) I <| Zc I I I I (Zm I f42_1 I I) I <| Zc I I I I (Zs I o9 I I I) I <| Zc I I I I (Z2z (c := ((a0.Silences.getD v2.toNat Zr).Service == a1.Service)) I I I I) I <| Zc I I I I (Zy I I I) I <| Z1 I (Z19 I I I) I <| Z7 ?_
    exact Zz (J10 ((a0.Silences.getD v2.toNat Zr).Service == a1.Service) h) ⟨I, I, I, I, I, I, J0⟩ ⟨I, I, I, J0⟩
   have h := hif.2 hc
   refine Zc I I I I (Zm I f67_1 I I) I <| Zc I I I I (Zs I o9 I I I) I <| Zc I I I I (Zm I f42_0 I I) I <| Zc I I I I (Zs I o9 I I I) I <| Zc I I I I (Z2z (c := ((a0.Silences.getD v2.toNat Zr).Rule == a1.Rule)) I I I I) I <| Z1 I (Zy I I I) I <| Z1 I (Z9 I I) I ?_
   have hif := Z1h h
   refine Z16 (fun hc => ?_) (fun hc => ?_)
   ·have h := hif.1 hc
    refine Zc I I I I (Zm I f67_2 I I) I <| Zc I I I I (Zs I o9 I I I) I <| Zc I I I I (Z2z (b := []) (c := ((a0.Silences.getD v2.toNat Zr).Service == [])) I I I I) I <| Zc I I I I (Z9 I I) I ?_
    have hif := Z1h h
    refine Z16 (fun hc => ?_) (fun hc => ?_)
    ·have h := hif.1 hc
     iterate 5 refine Zg I I I I I I I ?_
     refine Zc I I I I (Z19 (v := (.bool true)) I I I) I <| Z1 I (Z19 (v := (.bool true)) I I I) I <| Z7 ?_
     exact Zz (J10 true h) ⟨I, I, I, I, I, I, J0⟩ ⟨I, I, I, J0⟩
    have h := hif.2 hc
    refine Zc I I I I (Zm I f67_2 I I) I <| Zc I I I I (Zs I o9 I I I) I <| Zc I I I I (Zm I f42_1 I I) I <| Zc I I I I (Zs I o9 I I I) I <| Zc I I I I (Z2z (c := ((a0.Silences.getD v2.toNat Zr).Service == a1.Service)) I I I I) I <| Zc I I I I (Zy I I I) I <| Z1 I (Z19 I I I) I <| Z7 ?_
    exact Zz (J10 ((a0.Silences.getD v2.toNat Zr).Service == a1.Service) h) ⟨I, I, I, I, I, I, J0⟩ ⟨I, I, I, J0⟩
   have h := hif.2 hc
   iterate 4 refine Zg I I I I I I I ?_
   iterate 5 refine Zg (u := .tup []) I I I I I I I ?_
   refine Zg I I I I I I I <| Z1 I (Zy (v := (.bool false)) I I I) I <| Z7 ?_
   exact Zz (J10 false h) ⟨I, I, I, I, I, I, J0⟩ ⟨I, I, I, J0⟩
  have h := hif.2 hc
  refine Z1u <| Z26 ?_
  exact Zz (J3 v1 h) ⟨I, J0⟩ trivial
def F24_c5 (_K : Nat) (v4 : (List Z4)) : Option ((List Z4)) :=
 some v4
def F24_j12 (_K : Nat) (b7 : (List Z4) → Int → Option ((List Z4))) (v2 : Int) (v11 : (List Z4)) : Option ((List Z4)) :=
 b7 v11 (IntKind.i64.wrap (v2 + 1))
def F24_l3 (K : Nat) (a0 : Ze) (a1 : Str) (c6 : (List Z4) → Option ((List Z4))) : Nat → (List Z4) → Int → Option ((List Z4))
 | 0, _, _ => none
 | k3 + 1, v1, v2 =>
 if (decide (v2 < (a0.Firings.length : Int))) = true then
 if (0 : Int) ≤ v2 ∧ v2 < a0.Firings.length then
 (F19 K a0.Policy (a0.Firings.getD v2.toNat Z12)).bind fun v10 =>
 if (v10 == a1) = true then
 if (0 : Int) ≤ v2 ∧ v2 < a0.Firings.length then
 (F22 K a0 (a0.Firings.getD v2.toNat Z12)).bind fun v15 =>
 (F47 K v1 v15).bind fun v17 =>
 F24_j12 K (F24_l3 K a0 a1 c6 k3) v2 v17
 else none
 else
 F24_j12 K (F24_l3 K a0 a1 c6 k3) v2 v1
 else none
 else
 c6 v1
def F24 (K : Nat) (a0 : Ze) (a1 : Str) : Option ((List Z4)) :=
 F24_l3 K a0 a1 (F24_c5 K) K [] 0
theorem F24_ok (K : Nat) (a0 : Ze) (a1 : Str) (r : (List Z4)) (h : F24 K a0 a1 = some r) : ACall P 24 ⟨[(Zf a0), (.str a1)], [], (.sl 2 (r.map Z6) false), [], []⟩ := by
 refine Z1v Try.func24 Try.results24 rfl Try.ntmps24 rfl rfl rfl ?_
 intro E Q hP hN hro hret
 obtain ⟨P', nt', w0, F0, p0, S0, β0, ro0⟩ := E
 simp only at hP hN
 subst hP hN
 dsimp only [argT]
 unfold F24 at h
 refine Zb <| Z5 <| Z1 I (Z2r I I I I I) I <| Z1 I (Zd (v := (.sl 2 [] false)) I I) I <| Z7 <| Z8 <| Zb <| Z5 <| Z1 I (Zd (v := (.sl 2 [] false)) I I) I <| Z7 <| Z8 <| Zb <| Zb <| Z5 <| Z1 I (Zd (v := (.int .i64 0)) I I) I <| Z7 <| Z8 <| Z1r (st' := ⟨[(1, (.str a1)), (2, (.ptr 2 0)), (5, (.sl 2 ([].map Z6) false)), (6, (.int .i64 0))], [(2, (.box (Zf a0).cells))]⟩) ⟨I, I, I, I, J0⟩ ⟨I, J0⟩ ?_
 refine Z1o (V := (List Z4) × Int) (X := (List Z4)) (lp := fun k v => F24_l3 K a0 a1 (F24_c5 K) k v.1 v.2 = some r) (sh := fun v => ⟨[(1, (.str a1)), (2, (.ptr 2 0)), (5, (.sl 2 (v.1.map Z6) false)), (6, (.int .i64 v.2))], [(2, (.box (Zf a0).cells))]⟩) (x := fun v => F24_c5 K v = some r) (shx := fun v => ⟨[(5, (.sl 2 (v.map Z6) false))], []⟩) (k := K) (v := ([], 0)) h ?_ ?_
 ·intro v h
  revert h
  revert v
  intro v4 h
  try dsimp only at h ⊢
  unfold F24_c5 at h
  refine Z8 <| Zb <| Z5 <| Z1 I (Z9 I I) I <| Z1 I (Zd I I) I <| Z7 <| Z8 <| Z1e ?_
  have h := Option.some.inj h
  subst h
  refine (hret _ ?_).1
  exact ⟨[(.sl 2 (v4.map Z6) false)], ⟨I, J0⟩, I, J0⟩
 intro N k3 v h IH3 J3
 obtain ⟨v1, v2⟩ := v
 try dsimp only at h IH3 J3 ⊢
 cases k3 with
 | zero => cases h
 | succ k3 =>
  rw [F24_l3] at h
  refine Zb <| Zb <| Z5 <| Z1 I (Z9 I I) I <| Z1 I (Zm I f34_1 I I) I <| Z1 I (Zs I o30 I I I) I <| Z1 I (Z24 (l := a0.Firings) (enc := Zh) I s30 I) I <| Z1 I (Z1c (c := (decide (v2 < (a0.Firings.length : Int)))) I I I I) I <| Z7 <| Z8 ?_
  have hif := Z1h h
  refine Zq I (fun hc => ?_) (fun hc => ?_)
  ·have h := hif.1 hc
   refine Z14 <| Z8 <| Zb <| Z1t <| Zb <| Z1y mixed <| Za 0 I (Zm I f34_0 I I) <| Za 1 I (Z1n I a29 I I I I) <| Za 2 I (Zm I f34_1 I I) <| Za 3 I (Zs I o30 I I I) <| Za 4 I (Z9 I I) ?_
   have ⟨hg8, h⟩ := Zw h
   refine Za 5 I (Z1s (k := .i64) (l := a0.Firings) (enc := Zh) (z := Z12) (n := v2) (full := false) I s30 I I hg8 I) <| Za 6 I (Z28 I a42 I I I) ?_
   have ⟨v10, hv10, h⟩ := Z1a h
   refine Za 7 I (Z1d (ar := [(Z2i a0.Policy), (Zh (a0.Firings.getD v2.toNat Z12))]) Try.call19 (F19_ok K a0.Policy (a0.Firings.getD v2.toNat Z12) v10 hv10) I I ⟨I, I, J0⟩ I) <| Za 8 I (Z9 I I) <| Za 9 I (Z2z (c := (v10 == a1)) I I I I) <| Z1z (by kernel_rfl) I <| Z8 ?_
   refine Z21 (V := (List Z4)) (lp := fun v => F24_j12 K (F24_l3 K a0 a1 (F24_c5 K) k3) v2 v = some r) (sh := fun v => ⟨[(1, (.str a1)), (2, (.ptr 2 0)), (5, (.sl 2 (v.map Z6) false)), (6, (.int .i64 v2))], [(2, (.box (Zf a0).cells))]⟩) ?_ ?_
   ·intro v h
    revert h
    revert v
    intro v11 h
    try dsimp only at h ⊢
    unfold F24_j12 at h
    refine Z27 <| Z8 <| Z5 <| Z1 I (Z9 I I) I <| Z1 I (Z1p (k := .i64) (b := 1) (c := (IntKind.i64.wrap (v2 + 1))) I I I I) I <| Z1 I (Zd I I) I <| Z7 ?_
    exact Zz (IH3 _ (v11, (IntKind.i64.wrap (v2 + 1))) (Nat.lt_succ_self _) h) ⟨I, I, I, I, J0⟩ ⟨I, J0⟩
   intro J12
   have hif := Z1h h
   refine Zq I (fun hc => ?_) (fun hc => ?_)
   ·have h := hif.1 hc
    refine Z1y mixed <| Za 0 I (Z9 I I) <| Za 1 I (Z1n I a34 I I I I) <| Za 2 I (Zm I f34_1 I I) <| Za 3 I (Zs I o30 I I I) <| Za 4 I (Z9 I I) ?_
    have ⟨hg13, h⟩ := Zw h
    refine Za 5 I (Z1s (k := .i64) (l := a0.Firings) (enc := Zh) (z := Z12) (n := v2) (full := false) I s30 I I hg13 I) <| Za 6 I (Z28 I a42 I I I) ?_
    have ⟨v15, hv15, h⟩ := Z1a h
    refine Za 7 I (Z1d (ar := [(Zf a0), (Zh (a0.Firings.getD v2.toNat Z12))]) Try.call22 (F22_ok K a0 (a0.Firings.getD v2.toNat Z12) v15 hv15) I I ⟨I, I, J0⟩ I) ?_
    have ⟨v17, hv17, h⟩ := Z1a h
    refine Za 8 I (Z1d (ar := [(.sl 2 (v1.map Z6) false), (.sl 2 (v15.map Z6) false)]) Try.call47 (F47_ok K v1 v15 v17 hv17) I I ⟨I, I, J0⟩ I) <| Za 9 I (Zd I I) <| Z1z (by kernel_rfl) I ?_
    exact Zz (J12 v17 h) ⟨I, I, I, I, J0⟩ ⟨I, J0⟩
   have h := hif.2 hc
   refine Z14 ?_
   exact Zz (J12 v1 h) ⟨I, I, I, I, J0⟩ ⟨I, J0⟩
  have h := hif.2 hc
  refine Z1u <| Z26 ?_
  exact Zz (J3 v1 h) ⟨I, J0⟩ trivial
end Go.AM.Noti
