/- What these functions compute, each with its walk: F36, F11. -/
import Derived.Test.YtmdglfmfefmpkaaNotiT
import Derived.Test.YtmdglfmfefmpkaaNotiG2
import Derived.Test.YtmdglfmfefmpkaaNotiG4
import Derived.Test.YtmdglfmfefmpkaaNotiG6
import Derived.Test.YtmdglfmfefmpkaaNotiG7
import Derived.Test.YtmdglfmfefmpkaaNotiG9
import Derived.Test.YtmdglfmfefmpkaaNotiG11
import Derived.Test.YtmdglfmfefmpkaaNotiG14
namespace Go.AM.Noti
open Go Go.AM Go.Proofs
set_option maxRecDepth 100000
set_option maxHeartbeats 2000000
def F36_c5 (_K : Nat) : Option (Z1j) :=
 some z_Tnotify_Status
def F36_j8 (_K : Nat) (b7 : Int → Option (Z1j)) (v3 : Int) : Option (Z1j) :=
 b7 (IntKind.i64.wrap (v3 + 1))
def F36_c19 (_K : Nat) (v18 : Z1j) : Option (Z1j) :=
 some v18
def F36_j23 (_K : Nat) (b21 : Int → Z1j → Option (Z1j)) (v15 : Int) (v22 : Z1j) : Option (Z1j) :=
 b21 (IntKind.i64.wrap (v15 + 1)) v22
def F36_j30 (K : Nat) (b21 : Int → Z1j → Option (Z1j)) (v15 : Int) (v29 : Z1j) : Option (Z1j) :=
 F36_j23 K b21 v15 v29
def F36_l17 (K : Nat) (a0 : Ze) (v3 : Int) (v2 : (List Z4)) (a2 : Int) (a1 : Str) (c20 : Z1j → Option (Z1j)) : Nat → Int → Z1j → Option (Z1j)
 | 0, _, _ => none
 | k17 + 1, v15, v16 =>
 if (decide (v15 < (a0.Policy.Steps.length : Int))) = true then
 if (0 : Int) ≤ v3 ∧ v3 < v2.length then
 if (0 : Int) ≤ v15 ∧ v15 < a0.Policy.Steps.length then
 if (decide ((IntKind.i64.wrap ((v2.getD v3.toNat Z10).From + (a0.Policy.Steps.getD v15.toNat Zl).After)) ≤ a2)) = true then
 if (0 : Int) ≤ v3 ∧ v3 < v2.length then
 (F61 K a0 a1 (v2.getD v3.toNat Z10).From (IntKind.i64.wrap ((v2.getD v3.toNat Z10).From + (a0.Policy.Steps.getD v15.toNat Zl).After))).bind fun v28 =>
 if (!v28) = true then
 F36_j30 K (F36_l17 K a0 v3 v2 a2 a1 c20 k17) v15 (⟨v16.Active, v16.Since, (IntKind.i64.wrap (v16.Steps + 1)), v16.Acked⟩ : Z1j)
 else
 F36_j30 K (F36_l17 K a0 v3 v2 a2 a1 c20 k17) v15 v16
 else none
 else
 F36_j23 K (F36_l17 K a0 v3 v2 a2 a1 c20 k17) v15 v16
 else none
 else none
 else
 c20 v16
def F36_l4 (K : Nat) (v2 : (List Z4)) (a2 : Int) (a0 : Ze) (a1 : Str) (c6 : Option (Z1j)) : Nat → Int → Option (Z1j)
 | 0, _ => none
 | k4 + 1, v3 =>
 if (decide (v3 < (v2.length : Int))) = true then
 if (0 : Int) ≤ v3 ∧ v3 < v2.length then
 if (decide ((v2.getD v3.toNat Z10).From > a2)) = true then
 F36_j8 K (F36_l4 K v2 a2 a0 a1 c6 k4) v3
 else
 if (0 : Int) ≤ v3 ∧ v3 < v2.length then
 if (decide (a2 ≥ (v2.getD v3.toNat Z10).To)) = true then
 F36_j8 K (F36_l4 K v2 a2 a0 a1 c6 k4) v3
 else
 if (0 : Int) ≤ v3 ∧ v3 < v2.length then
 if (0 : Int) ≤ v3 ∧ v3 < v2.length then
 (F61 K a0 a1 (v2.getD v3.toNat Z10).From a2).bind fun v14 =>
 F36_l17 K a0 v3 v2 a2 a1 (F36_c19 K) K 0 (⟨true, (v2.getD v3.toNat Z10).From, 0, v14⟩ : Z1j)
 else none
 else none
 else none
 else none
 else
 c6
def F36 (K : Nat) (a0 : Ze) (a1 : Str) (a2 : Int) : Option (Z1j) :=
 (F24 K a0 a1).bind fun v2 =>
 F36_l4 K v2 a2 a0 a1 (F36_c5 K) K 0
theorem F36_ok (K : Nat) (a0 : Ze) (a1 : Str) (a2 : Int) (r : Z1j) (h : F36 K a0 a1 a2 = some r) : ACall P 36 ⟨[(Zf a0), (.str a1), (.int .i64 a2)], [], (Z2f r), [], []⟩ := by
 refine Z1v Try.func36 Try.results36 rfl Try.ntmps36 rfl rfl rfl ?_
 intro E Q hP hN hro hret
 obtain ⟨P', nt', w0, F0, p0, S0, β0, ro0⟩ := E
 simp only at hP hN
 subst hP hN
 dsimp only [argT]
 unfold F36 at h
 refine Zb <| Z5 <| Z1 I (Z2r I I I I I) I <| Z1 I (Z1x I z76 I I I) I <| Z7 <| Z8 <| Zb <| Z5 <| Z1 I (Z1n I a34 I I I I) I <| Z1 I (Z9 I I) I ?_
 have ⟨v2, hv2, h⟩ := Z1a h
 refine Z1 I (Z1d (ar := [(Zf a0), (.str a1)]) Try.call24 (F24_ok K a0 a1 v2 hv2) I I ⟨I, I, J0⟩ I) I <| Z1 I (Zd I I) I <| Z7 <| Z8 <| Zb <| Zb <| Z5 <| Z1 I (Zd (v := (.int .i64 0)) I I) I <| Z7 <| Z8 <| Z1r (st' := ⟨[(1, (.str a1)), (2, (.int .i64 a2)), (3, (.ptr 3 0)), (6, (.ptr 6 0)), (7, (.sl 2 (v2.map Z6) false)), (8, (.int .i64 0))], [(3, (.box (Zf a0).cells)), (6, (.box [(.bool false), (.int .i64 0), (.int .i64 0), (.bool false)]))]⟩) ⟨I, I, I, I, I, I, J0⟩ ⟨I, I, J0⟩ ?_
 refine Z1o (V := Int) (X := Unit) (lp := fun k v => F36_l4 K v2 a2 a0 a1 (F36_c5 K) k v = some r) (sh := fun v => ⟨[(1, (.str a1)), (2, (.int .i64 a2)), (3, (.ptr 3 0)), (6, (.ptr 6 0)), (7, (.sl 2 (v2.map Z6) false)), (8, (.int .i64 v))], [(3, (.box (Zf a0).cells)), (6, (.box [(.bool false), (.int .i64 0), (.int .i64 0), (.bool false)]))]⟩) (x := fun v => F36_c5 K = some r) (shx := fun v => ⟨[(6, (.ptr 6 0))], [(6, (.box [(.bool false), (.int .i64 0), (.int .i64 0), (.bool false)]))]⟩) (k := K) (v := 0) h ?_ ?_
 ·intro v h
  try dsimp only at h ⊢
  unfold F36_c5 at h
  refine Z8 <| Zb <| Z5 <| Z1 I (Z23 (vs := []) I st76 J0 I) I <| Z1 I (Z1f (cs := [(.bool false), (.int .i64 0), (.int .i64 0), (.bool false)]) (vs := [(.bool false), (.int .i64 0), (.int .i64 0), (.bool false)]) (ds := [(.bool false), (.int .i64 0), (.int .i64 0), (.bool false)]) (v := (.ag [(.bool false), (.int .i64 0), (.int .i64 0), (.bool false)])) sz76 I I I I I I I I) I <| Z7 <| Z8 <| Z1e ?_
  have h := Option.some.inj h
  subst h
  refine (hret _ ?_).1
  exact ⟨[(.ag [(.bool false), (.int .i64 0), (.int .i64 0), (.bool false)])], ⟨⟨6, _, I, I, .inr ⟨_, a76, I, I⟩⟩, J0⟩, I, J0⟩
 intro N k4 v h IH4 J4
 revert h
 revert v
 intro v3 h
 try dsimp only at h IH4 J4 ⊢
 cases k4 with
 | zero => cases h
 | succ k4 =>
  rw [F36_l4] at h
  refine Zb <| Zb <| Z5 <| Z1 I (Z9 I I) I <| Z1 I (Z9 I I) I <| Z1 I (Z24 (l := v2) (enc := Z6) I s45 I) I <| Z1 I (Z1c (c := (decide (v3 < (v2.length : Int)))) I I I I) I <| Z7 <| Z8 ?_
  have hif := Z1h h
  refine Zq I (fun hc => ?_) (fun hc => ?_)
  ·have h := hif.1 hc
   refine Z14 <| Z8 <| Zb ?_
   refine Z2m (V := Unit) (lp := fun v => F36_j8 K (F36_l4 K v2 a2 a0 a1 (F36_c5 K) k4) v3 = some r) (sh := fun v => ⟨[(1, (.str a1)), (2, (.int .i64 a2)), (3, (.ptr 3 0)), (6, (.ptr 6 0)), (7, (.sl 2 (v2.map Z6) false)), (8, (.int .i64 v3))], [(3, (.box (Zf a0).cells)), (6, (.box [(.bool false), (.int .i64 0), (.int .i64 0), (.bool false)]))]⟩) ?_ ?_
   ·intro v h
    try dsimp only at h ⊢
    unfold F36_j8 at h
    refine Z8 <| Z5 <| Z1 I (Z9 I I) I <| Z1 I (Z1p (k := .i64) (b := 1) (c := (IntKind.i64.wrap (v3 + 1))) I I I I) I <| Z1 I (Zd I I) I <| Z7 ?_
    exact Zz (IH4 _ (IntKind.i64.wrap (v3 + 1)) (Nat.lt_succ_self _) h) ⟨I, I, I, I, I, I, J0⟩ ⟨I, I, J0⟩
   intro J8
   refine Zb <| Zb <| Z5 <| Z1 I (Z9 I I) I <| Z1 I (Z9 I I) I ?_
   have ⟨hg9, h⟩ := Zw h
   refine Z1 I (Z1s (k := .i64) (l := v2) (enc := Z6) (z := Z10) (n := v3) (full := false) I s45 I I hg9 I) I <| Z1 I (Z1w I f40_0 I I I) I <| Z1 I (Z1l I o3 I I) I <| Z1 I (Z9 I I) I <| Z1 I (Z1c (c := (decide ((v2.getD v3.toNat Z10).From > a2))) I I I I) I <| Z1 I (Z9 I I) I ?_
   have hif := Z1h h
   refine Z16 (fun hc => ?_) (fun hc => ?_)
   ·have h := hif.1 hc
    iterate 7 refine Zg I I I I I I I ?_
    refine Z1 I (Z19 (v := (.bool true)) I I I) I <| Z7 <| Z8 ?_
    refine Zq (b := true) I (fun hc => ?_) (fun hc => ?_)
    rotate_left
    ·cases hc
    refine Z1u <| Z26 <| At.out ?_
    exact Zz (J8 () h) ⟨I, I, I, I, I, I, J0⟩ ⟨I, I, J0⟩
   have h := hif.2 hc
   refine Zc I I I I (Z9 I I) I <| Zc I I I I (Z9 I I) I <| Zc I I I I (Z9 I I) I ?_
   have ⟨hg10, h⟩ := Zw h
   refine Zc I I I I (Z1s (k := .i64) (l := v2) (enc := Z6) (z := Z10) (n := v3) (full := false) I s45 I I hg10 I) I <| Zc I I I I (Z1w I f40_1 I I I) I <| Zc I I I I (Z1l I o3 I I) I <| Zc I I I I (Z1c (c := (decide (a2 ≥ (v2.getD v3.toNat Z10).To))) I I I I) I <| Z1 I (Zy I I I) I <| Z7 <| Z8 ?_
   have hif := Z1h h
   refine Zq I (fun hc => ?_) (fun hc => ?_)
   ·have h := hif.1 hc
    refine Z1u <| Z26 <| At.out ?_
    exact Zz (J8 () h) ⟨I, I, I, I, I, I, J0⟩ ⟨I, I, J0⟩
   have h := hif.2 hc
   refine Z14 <| Z8 <| Zb <| Z1y mixed <| Za 0 I (Z9 I I) <| Za 1 I (Z9 I I) ?_
   have ⟨hg11, h⟩ := Zw h
   refine Za 2 I (Z1s (k := .i64) (l := v2) (enc := Z6) (z := Z10) (n := v3) (full := false) I s45 I I hg11 I) <| Za 3 I (Z1w I f40_0 I I I) <| Za 4 I (Z1l I o3 I I) <| Za 5 I (Z1n I a34 I I I I) <| Za 6 I (Z9 I I) <| Za 7 I (Z9 I I) <| Za 8 I (Z9 I I) ?_
   have ⟨hg12, h⟩ := Zw h
   refine Za 9 I (Z1s (k := .i64) (l := v2) (enc := Z6) (z := Z10) (n := v3) (full := false) I s45 I I hg12 I) <| Za 10 I (Z1w I f40_0 I I I) <| Za 11 I (Z1l I o3 I I) <| Za 12 I (Z9 I I) ?_
   have ⟨v14, hv14, h⟩ := Z1a h
   refine Za 13 I (Z1d (ar := [(Zf a0), (.str a1), (.int .i64 (v2.getD v3.toNat Z10).From), (.int .i64 a2)]) Try.call61 (F61_ok K a0 a1 (v2.getD v3.toNat Z10).From a2 v14 hv14) I I ⟨I, I, I, I, J0⟩ I) <| Za 14 I (Z23 (vs := [(0, (.bool true)), (1, (.int .i64 (v2.getD v3.toNat Z10).From)), (3, (.bool v14))]) I st76 ⟨I, I, I, I, I, I, J0⟩ I) <| Za 15 I (Z1x I z76 I I I) <| Za 16 I (Z1f sz76 I I I I I I I I) <| Z1z (by kernel_rfl) I <| Z8 <| Zb <| Zb <| Z5 <| Z1 I (Zd (v := (.int .i64 0)) I I) I <| Z7 <| Z8 <| Z1r (st' := ⟨[(1, (.str a1)), (2, (.int .i64 a2)), (3, (.ptr 3 0)), (6, (.ptr 6 0)), (7, (.sl 2 (v2.map Z6) false)), (8, (.int .i64 v3)), (9, (.ptr 9 0)), (10, (.int .i64 0))], [(3, (.box (Zf a0).cells)), (6, (.box [(.bool false), (.int .i64 0), (.int .i64 0), (.bool false)])), (9, (.box (Z2f (⟨true, (v2.getD v3.toNat Z10).From, 0, v14⟩ : Z1j)).cells))]⟩) ⟨I, I, I, I, I, I, I, I, J0⟩ ⟨I, I, I, J0⟩ ?_
   refine Z1o (V := Int × Z1j) (X := Z1j) (lp := fun k v => F36_l17 K a0 v3 v2 a2 a1 (F36_c19 K) k v.1 v.2 = some r) (sh := fun v => ⟨[(1, (.str a1)), (2, (.int .i64 a2)), (3, (.ptr 3 0)), (6, (.ptr 6 0)), (7, (.sl 2 (v2.map Z6) false)), (8, (.int .i64 v3)), (9, (.ptr 9 0)), (10, (.int .i64 v.1))], [(3, (.box (Zf a0).cells)), (6, (.box [(.bool false), (.int .i64 0), (.int .i64 0), (.bool false)])), (9, (.box (Z2f v.2).cells))]⟩) (x := fun v => F36_c19 K v = some r) (shx := fun v => ⟨[(6, (.ptr 6 0)), (9, (.ptr 9 0))], [(6, (.box [(.bool false), (.int .i64 0), (.int .i64 0), (.bool false)])), (9, (.box (Z2f v).cells))]⟩) (k := K) (v := (0, (⟨true, (v2.getD v3.toNat Z10).From, 0, v14⟩ : Z1j))) h ?_ ?_
   ·intro v h
    revert h
    revert v
    intro v18 h
    try dsimp only at h ⊢
    unfold F36_c19 at h
    refine Z8 <| Zb <| Z5 <| Z1 I (Z1n I a76 I I I I) I <| Z1 I (Z1f sz76 I I I I I I I I) I <| Z7 <| Z8 <| Z1e <| Z18 <| Zx ?_
    refine Zx (Z18 ?_)
    refine Zx ?_
    have h := Option.some.inj h
    subst h
    refine (hret _ ?_).1
    exact ⟨[(Z2f v18)], ⟨⟨6, _, I, I, .inr ⟨_, a76, I, I⟩⟩, J0⟩, I, J0⟩
   intro N k17 v h IH17 J17
   obtain ⟨v15, v16⟩ := v
   try dsimp only at h IH17 J17 ⊢
   cases k17 with
   | zero => cases h
   | succ k17 =>
    rw [F36_l17] at h
    refine Zb <| Zb <| Z5 <| Z1 I (Z9 I I) I <| Z1 I (Zm I f34_0 I I) I <| Z1 I (Zm I f29_2 I I) I <| Z1 I (Zs I o27 I I I) I <| Z1 I (Z24 (l := a0.Policy.Steps) (enc := Zj) I s27 I) I <| Z1 I (Z1c (c := (decide (v15 < (a0.Policy.Steps.length : Int)))) I I I I) I <| Z7 <| Z8 ?_
    have hif := Z1h h
    refine Zq I (fun hc => ?_) (fun hc => ?_)
    ·have h := hif.1 hc
     refine Z14 <| Z8 <| Zb ?_
     refine Z2m (V := Z1j) (lp := fun v => F36_j23 K (F36_l17 K a0 v3 v2 a2 a1 (F36_c19 K) k17) v15 v = some r) (sh := fun v => ⟨[(1, (.str a1)), (2, (.int .i64 a2)), (3, (.ptr 3 0)), (6, (.ptr 6 0)), (7, (.sl 2 (v2.map Z6) false)), (8, (.int .i64 v3)), (9, (.ptr 9 0)), (10, (.int .i64 v15))], [(3, (.box (Zf a0).cells)), (6, (.box [(.bool false), (.int .i64 0), (.int .i64 0), (.bool false)])), (9, (.box (Z2f v).cells))]⟩) ?_ ?_
     ·intro v h
      revert h
      revert v
      intro v22 h
      try dsimp only at h ⊢
      unfold F36_j23 at h
      refine Z8 <| Z5 <| Z1 I (Z9 I I) I <| Z1 I (Z1p (k := .i64) (b := 1) (c := (IntKind.i64.wrap (v15 + 1))) I I I I) I <| Z1 I (Zd I I) I <| Z7 ?_
      exact Zz (IH17 _ ((IntKind.i64.wrap (v15 + 1)), v22) (Nat.lt_succ_self _) h) ⟨I, I, I, I, I, I, I, I, J0⟩ ⟨I, I, I, J0⟩
     intro J23
     refine Zb <| Z1y mixed <| Za 0 I (Z9 I I) <| Za 1 I (Z9 I I) ?_
     have ⟨hg24, h⟩ := Zw h
     refine Za 2 I (Z1s (k := .i64) (l := v2) (enc := Z6) (z := Z10) (n := v3) (full := false) I s45 I I hg24 I) <| Za 3 I (Z1w I f40_0 I I I) <| Za 4 I (Z1l I o3 I I) <| Za 5 I (Zm I f34_0 I I) <| Za 6 I (Zm I f29_2 I I) <| Za 7 I (Zs I o27 I I I) <| Za 8 I (Z9 I I) ?_
     have ⟨hg25, h⟩ := Zw h
     refine Za 9 I (Z1s (k := .i64) (l := a0.Policy.Steps) (enc := Zj) (z := Zl) (n := v15) (full := false) I s27 I I hg25 I) <| Za 10 I (Z1w I f71_0 I I I) <| Za 11 I (Z1l I o3 I I) <| Za 12 I (Z1p (k := .i64) (c := (IntKind.i64.wrap ((v2.getD v3.toNat Z10).From + (a0.Policy.Steps.getD v15.toNat Zl).After))) I I I I) <| Za 13 I (Zd I I) <| Z1z (by kernel_rfl) I <| Z8 <| Zb <| Z1y mixed <| Za 0 I (Z9 I I) <| Za 1 I (Z9 I I) <| Za 2 I (Z1c (c := (decide ((IntKind.i64.wrap ((v2.getD v3.toNat Z10).From + (a0.Policy.Steps.getD v15.toNat Zl).After)) ≤ a2))) I I I I) <| Za 3 I (Z9 I I) ?_
     have hif := Z1h h
     refine Z3f (fun hc => ?_) (fun hc => ?_)
     ·have h := hif.1 hc
      refine Z17 4 I I I I (Z1n I a34 I I I I) <| Z17 5 I I I I (Z9 I I) <| Z17 6 I I I I (Z9 I I) <| Z17 7 I I I I (Z9 I I) ?_
      have ⟨hg26, h⟩ := Zw h
      refine Z17 8 I I I I (Z1s (k := .i64) (l := v2) (enc := Z6) (z := Z10) (n := v3) (full := false) I s45 I I hg26 I) <| Z17 9 I I I I (Z1w I f40_0 I I I) <| Z17 10 I I I I (Z1l I o3 I I) <| Z17 11 I I I I (Z9 I I) ?_
      have ⟨v28, hv28, h⟩ := Z1a h
      refine Z17 12 I I I I (Z1d (ar := [(Zf a0), (.str a1), (.int .i64 (v2.getD v3.toNat Z10).From), (.int .i64 (IntKind.i64.wrap ((v2.getD v3.toNat Z10).From + (a0.Policy.Steps.getD v15.toNat Zl).After)))]) Try.call61 (F61_ok K a0 a1 (v2.getD v3.toNat Z10).From (IntKind.i64.wrap ((v2.getD v3.toNat Z10).From + (a0.Policy.Steps.getD v15.toNat Zl).After)) v28 hv28) I I ⟨I, I, I, I, J0⟩ I) <| Z17 13 I I I I (Z2c I I) <| Za 14 I (Z19 I I I) <| Z1z (by kernel_rfl) I <| Z8 ?_
      refine Z21 (V := Z1j) (lp := fun v => F36_j30 K (F36_l17 K a0 v3 v2 a2 a1 (F36_c19 K) k17) v15 v = some r) (sh := fun v => ⟨[(1, (.str a1)), (2, (.int .i64 a2)), (3, (.ptr 3 0)), (6, (.ptr 6 0)), (7, (.sl 2 (v2.map Z6) false)), (8, (.int .i64 v3)), (9, (.ptr 9 0)), (10, (.int .i64 v15))], [(3, (.box (Zf a0).cells)), (6, (.box [(.bool false), (.int .i64 0), (.int .i64 0), (.bool false)])), (9, (.box (Z2f v).cells))]⟩) ?_ ?_
      ·intro v h
       revert h
       revert v
       intro v29 h
       try dsimp only at h ⊢
       unfold F36_j30 at h
       refine Z27 ?_
       exact Zz (J23 v29 h) ⟨I, I, I, I, I, I, I, I, J0⟩ ⟨I, I, I, J0⟩
      intro J30
      have hif := Z1h h
      refine Zq I (fun hc => ?_) (fun hc => ?_)
      ·have h := hif.1 hc
       refine Z5 <| Z1 I (Zm I f76_2 I I) I <| Z1 I (Zs I o3 I I I) I <| Z1 I (Z1p (k := .i64) (b := 1) (c := (IntKind.i64.wrap (v16.Steps + 1))) I I I I) I <| Z1 I (Zm I f76_2 I I) I <| Z1 I (Z1f sz3 I I I I I I I I) I <| Z7 ?_
       exact Zz (J30 (⟨v16.Active, v16.Since, (IntKind.i64.wrap (v16.Steps + 1)), v16.Acked⟩ : Z1j) h) ⟨I, I, I, I, I, I, I, I, J0⟩ ⟨I, I, I, J0⟩
      have h := hif.2 hc
      refine Z14 ?_
      exact Zz (J30 v16 h) ⟨I, I, I, I, I, I, I, I, J0⟩ ⟨I, I, I, J0⟩
     have h := hif.2 hc
     refine Z11 4 I I I I I I I <| Z11 5 I I I I I I I <| Z11 6 I I I I I I I <| Z11 7 I I I I I I I <| Z11 8 I I I I I I I <| Z11 9 I I I I I I I <| Z11 10 I I I I I I I <| Z11 11 I I I I I I I <| Z11 12 I I I I I I I <| Z11 13 I I I I I I I <| Za 14 I (Zy (v := (.bool false)) I I I) <| Z1z (by kernel_rfl) I <| Z8 ?_
     refine Zq (b := false) I (fun hc => ?_) (fun hc => ?_)
     ·cases hc
     refine Z14 <| Z27 ?_
     exact Zz (J23 v16 h) ⟨I, I, I, I, I, I, I, I, J0⟩ ⟨I, I, I, J0⟩
    have h := hif.2 hc
    refine Z1u <| Z26 ?_
    exact Zz (J17 v16 h) ⟨I, I, J0⟩ ⟨I, I, J0⟩
  have h := hif.2 hc
  refine Z1u <| Z26 ?_
  exact Zz (J4 () h) ⟨I, J0⟩ ⟨I, J0⟩
def F11_c10 (_K : Nat) : Option (Bool) :=
 some true
def F11_j13 (_K : Nat) (b12 : Int → Option (Bool)) (v8 : Int) : Option (Bool) :=
 b12 (IntKind.i64.wrap (v8 + 1))
def F11_l9 (K : Nat) (v6 : (List Str)) (v4 : Ze) (a1 : Int) (c11 : Option (Bool)) : Nat → Int → Option (Bool)
 | 0, _ => none
 | k9 + 1, v8 =>
 if (decide (v8 < ((v6 ++ ([[110, 111, 98, 111, 100, 121]] : List Str)).length : Int))) = true then
 if (0 : Int) ≤ v8 ∧ v8 < ((v6 ++ ([[110, 111, 98, 111, 100, 121]] : List Str)).length : Nat) then
 if v8.toNat < (v6 ++ ([[110, 111, 98, 111, 100, 121]] : List Str)).length then
 (F35 K v4 ((v6 ++ ([[110, 111, 98, 111, 100, 121]] : List Str)).getD v8.toNat []) a1).bind fun v17 =>
 (F28 K a1).bind fun v19 =>
 if (!v19) = true then
 if (!((v17.1.Active == false) && ((v17.1.Since == 0) && ((v17.1.Steps == 0) && ((v17.1.Acked == false) && true))))) = true then
 some false
 else
 if (v17.2 != 32) = true then
 some false
 else
 F11_j13 K (F11_l9 K v6 v4 a1 c11 k9) v8
 else
 if (0 : Int) ≤ v8 ∧ v8 < ((v6 ++ ([[110, 111, 98, 111, 100, 121]] : List Str)).length : Nat) then
 if v8.toNat < (v6 ++ ([[110, 111, 98, 111, 100, 121]] : List Str)).length then
 (F36 K v4 ((v6 ++ ([[110, 111, 98, 111, 100, 121]] : List Str)).getD v8.toNat []) a1).bind fun v23 =>
 if (!((v17.1.Active == v23.Active) && ((v17.1.Since == v23.Since) && ((v17.1.Steps == v23.Steps) && ((v17.1.Acked == v23.Acked) && true))))) = true then
 some false
 else
 if (v17.2 != 0) = true then
 some false
 else
 F11_j13 K (F11_l9 K v6 v4 a1 c11 k9) v8
 else none
 else none
 else none
 else none
 else
 c11
noncomputable def F11 (K : Nat) (a0 : Z15) (a1 : Int) : Option (Bool) :=
 (F13 K).bind fun v2 =>
 if (!v2) = true then
 some false
 else
 (F14 K a0).bind fun v4 =>
 (F15 K v4).bind fun v6 =>
 if v6.length + ([[110, 111, 98, 111, 100, 121]] : List Str).length ≤ 1073741824 then
 F11_l9 K v6 v4 a1 (F11_c10 K) K 0
 else none
theorem F11_ok (K : Nat) (a0 : Z15) (a1 : Int) (r : Bool) (h : F11 K a0 a1 = some r) : ACall P 11 ⟨[(Zv a0), (.int .i64 a1)], [], (.bool r), [], []⟩ := by
 refine Z1v Try.func11 Try.results11 rfl Try.ntmps11 rfl rfl rfl ?_
 intro E Q hP hN hro hret
 obtain ⟨P', nt', w0, F0, p0, S0, β0, ro0⟩ := E
 simp only at hP hN
 subst hP hN
 dsimp only [argT]
 unfold F11 at h
 refine Zb <| Z5 <| Z1 I (Z2r I I I I I) I <| Z1 I (Zd (v := (.bool false)) I I) I <| Z7 <| Z8 <| Zb <| Zb <| Z5 ?_
 have ⟨v2, hv2, h⟩ := Z1a h
 refine Z1 I (Z1d (ar := []) Try.call13 (F13_ok K v2 hv2) I I J0 I) I <| Z1 I (Z2c I I) I <| Z7 <| Z8 ?_
 have hif := Z1h h
 refine Zq I (fun hc => ?_) (fun hc => ?_)
 ·have h := hif.1 hc
  refine Zb <| Z5 <| Z1 I (Zd (v := (.bool false)) I I) I <| Z7 <| Z8 <| Z1e <| Zx ?_
  have h := Option.some.inj h
  subst h
  refine (hret _ ?_).1
  exact ⟨[(.bool false)], ⟨I, J0⟩, I, J0⟩
 have h := hif.2 hc
 refine Z14 <| Z8 <| Zb <| Z5 <| Z1 I (Z1n I a25 I I I I) I ?_
 have ⟨v4, hv4, h⟩ := Z1a h
 refine Z1 I (Z1d (ar := [(Zv a0)]) Try.call14 (F14_ok K a0 v4 hv4) I I ⟨I, J0⟩ I) I <| Z1 I (Z1x I z34 I I I) I <| Z1 I (Z1f sz34 I I I I I I I I) I <| Z7 <| Z8 <| Zb <| Z5 <| Z1 I (Z1n I a34 I I I I) I ?_
 have ⟨v6, hv6, h⟩ := Z1a h
 refine Z1 I (st_callO (sz := 1) (es := (List.map Z1i v6)) (ar := [(Zf v4)]) (caps := []) Try.call15 ((F15_ok K v4 v6 hv6).sw 2 15) I I ⟨I, J0⟩ I) I <| Z1 I (Z1m (vs := [(.str [110, 111, 98, 111, 100, 121])]) (enc := Z1i) (l := ([[110, 111, 98, 111, 100, 121]] : List Str)) I el36 I I ⟨I, J0⟩ I Z39 I I I I) I ?_
 have ⟨hg7, h⟩ := Zw h
 refine Z1 I (Z2d (m := 15) (enc := Z1i) (l := v6) (l' := ([[110, 111, 98, 111, 100, 121]] : List Str)) (src := (.vs 16)) (rd := [(16, (.vec 1 (List.map Z1i ([[110, 111, 98, 111, 100, 121]] : List Str))))]) I I el36 I u36 I I I I (oneRead I) Z39 hg7) I <| Z1 I (Zd I I) I <| Z7 <| Z8 <| Zb <| Zb <| Z5 <| Z1 I (Zd (v := (.int .i64 0)) I I) I <| Z7 <| Z8 <| Z2p (st' := ⟨[(1, (.int .i64 a1)), (5, (.ptr 5 0)), (6, (.vs 6)), (7, (.int .i64 0))], [(5, (.box (Zf v4).cells)), (6, (.vec 1 (List.map Z1i (v6 ++ ([[110, 111, 98, 111, 100, 121]] : List Str)))))]⟩) (fun a w h => (Z1k _ (ghost_sw (a := 15) (b := 6) I I a w (Z1k ⟨[(1, (.int .i64 a1)), (5, (.ptr 5 0)), (6, (.vs 15)), (7, (.int .i64 0))], [(5, (.box (Zf v4).cells)), (15, (.vec 1 (List.map Z1i (v6 ++ ([[110, 111, 98, 111, 100, 121]] : List Str)))))]⟩ h ⟨I, I, I, I, J0⟩ ⟨I, I, J0⟩)) ⟨I, I, I, I, J0⟩ ⟨I, I, J0⟩)) <| Z1r (st' := ⟨[(1, (.int .i64 a1)), (5, (.ptr 5 0)), (6, (.vs 6)), (7, (.int .i64 0))], [(5, (.box (Zf v4).cells)), (6, (.vec 1 (List.map Z1i (v6 ++ ([[110, 111, 98, 111, 100, 121]] : List Str)))))]⟩) ⟨I, I, I, I, J0⟩ ⟨I, I, J0⟩ ?_
 refine Z1o (V := Int) (X := Unit) (lp := fun k v => F11_l9 K v6 v4 a1 (F11_c10 K) k v = some r) (sh := fun v => ⟨[(1, (.int .i64 a1)), (5, (.ptr 5 0)), (6, (.vs 6)), (7, (.int .i64 v))], [(5, (.box (Zf v4).cells)), (6, (.vec 1 (List.map Z1i (v6 ++ ([[110, 111, 98, 111, 100, 121]] : List Str)))))]⟩) (x := fun v => F11_c10 K = some r) (shx := fun v => ⟨[], []⟩) (k := K) (v := 0) h ?_ ?_
 ·intro v h
  try dsimp only at h ⊢
  unfold F11_c10 at h
  refine Z8 <| Zb <| Z5 <| Z1 I (Zd (v := (.bool true)) I I) I <| Z7 <| Z8 <| Z1e ?_
  have h := Option.some.inj h
  subst h
  refine (hret _ ?_).1
  exact ⟨[(.bool true)], ⟨I, J0⟩, I, J0⟩
 intro N k9 v h IH9 J9
 revert h
 revert v
 intro v8 h
 try dsimp only at h IH9 J9 ⊢
 cases k9 with
 | zero => cases h
 | succ k9 =>
  rw [F11_l9] at h
  refine Zb <| Zb <| Z5 <| Z1 I (Z9 I I) I <| Z1 I (Z9 I I) I <| Z1 I (stx_lenV I u36 I I) I <| Z1 I (Z1c (c := (decide (v8 < ((v6 ++ ([[110, 111, 98, 111, 100, 121]] : List Str)).length : Int)))) I I I I) I <| Z7 <| Z8 ?_
  have hif := Z1h h
  refine Zq I (fun hc => ?_) (fun hc => ?_)
  ·have h := hif.1 hc
   refine Z14 <| Z8 <| Zb ?_
   refine Z2m (V := Unit) (lp := fun v => F11_j13 K (F11_l9 K v6 v4 a1 (F11_c10 K) k9) v8 = some r) (sh := fun v => ⟨[(1, (.int .i64 a1)), (5, (.ptr 5 0)), (6, (.vs 6)), (7, (.int .i64 v8))], [(5, (.box (Zf v4).cells)), (6, (.vec 1 (List.map Z1i (v6 ++ ([[110, 111, 98, 111, 100, 121]] : List Str)))))]⟩) ?_ ?_
   ·intro v h
    try dsimp only at h ⊢
    unfold F11_j13 at h
    refine Z8 <| Z5 <| Z1 I (Z9 I I) I <| Z1 I (Z1p (k := .i64) (b := 1) (c := (IntKind.i64.wrap (v8 + 1))) I I I I) I <| Z1 I (Zd I I) I <| Z7 ?_
    exact Zz (IH9 _ (IntKind.i64.wrap (v8 + 1)) (Nat.lt_succ_self _) h) ⟨I, I, I, I, J0⟩ ⟨I, I, J0⟩
   intro J13
   refine Zb <| Z1y mixed <| Za 0 I (Z1n I a34 I I I I) <| Za 1 I (Z9 I I) <| Za 2 I (Z9 I I) ?_
   have ⟨hg14, h⟩ := Zw h
   refine Za 3 I (Z32 (k := .i64) (v := (.vs 6)) (n := 6) (off := 0) (len := (v6 ++ ([[110, 111, 98, 111, 100, 121]] : List Str)).length) (es := (List.map Z1i (v6 ++ ([[110, 111, 98, 111, 100, 121]] : List Str)))) (j := v8) (m := v8.toNat) I s36 I I (Z31 _ _ _) I hg14 (Nat.zero_add _)) ?_
   have ⟨hg15, h⟩ := Zw h
   refine Za 4 I (Z3o (l := (v6 ++ ([[110, 111, 98, 111, 100, 121]] : List Str))) (enc := Z1i) (z := []) (v := (.str ((v6 ++ ([[110, 111, 98, 111, 100, 121]] : List Str)).getD v8.toNat []))) I o9 I I hg15 I) <| Za 5 I (Z9 I I) ?_
   have ⟨v17, hv17, h⟩ := Z1a h
   refine Za 6 I (Z1d (ar := [(Zf v4), (.str ((v6 ++ ([[110, 111, 98, 111, 100, 121]] : List Str)).getD v8.toNat [])), (.int .i64 a1)]) Try.call35 (F35_ok K v4 ((v6 ++ ([[110, 111, 98, 111, 100, 121]] : List Str)).getD v8.toNat []) a1 v17 hv17) I I ⟨I, I, I, J0⟩ I) <| Za 7 I (Z9 I I) <| Za 8 I (Z20 I I I) <| Za 9 I (Z20 I I I) <| Za 10 I (Z1x I z76 I I I) <| Za 11 I (Z1f sz76 I I I I I I I I) <| Za 12 I (Zd I I) <| Z1z (by kernel_rfl) I <| Z8 <| Zb <| Zb <| Z5 <| Z1 I (Z9 I I) I ?_
   have ⟨v19, hv19, h⟩ := Z1a h
   refine Z1 I (Z1d (ar := [(.int .i64 a1)]) Try.call28 (F28_ok K a1 v19 hv19) I I ⟨I, J0⟩ I) I <| Z1 I (Z2c I I) I <| Z7 <| Z8 ?_
   have hif := Z1h h
   refine Zq I (fun hc => ?_) (fun hc => ?_)
   ·have h := hif.1 hc
    refine Zb <| Zb <| Z5 <| Z1 I (Z1n I a76 I I I I) I <| Z1 I (Z23 (vs := []) I st76 J0 I) I <| Z1 I (st_cmpA (xs := (Z2f v17.1).cells) (ys := [(.bool false), (.int .i64 0), (.int .i64 0), (.bool false)]) (b := ((v17.1.Active == false) && ((v17.1.Since == 0) && ((v17.1.Steps == 0) && ((v17.1.Acked == false) && true))))) (c := (!((v17.1.Active == false) && ((v17.1.Since == 0) && ((v17.1.Steps == 0) && ((v17.1.Acked == false) && true)))))) I eq76 I I I I) I <| Z1 I (Z9 I I) I ?_
    have hif := Z1h h
    refine Z16 (fun hc => ?_) (fun hc => ?_)
    ·have h := hif.1 hc
     refine Zg I I I I I I I <| Zg I I I I I I I <| Z1 I (Z19 (v := (.bool true)) I I I) I <| Z7 <| Z8 ?_
     refine Zq (b := true) I (fun hc => ?_) (fun hc => ?_)
     rotate_left
     ·cases hc
     refine Zb <| Z5 <| Z1 I (Zd (v := (.bool false)) I I) I <| Z7 <| Z8 <| Z1e <| Zx <| Zx <| Z18 <| Zx ?_
     refine Zx (Z18 ?_)
     refine Zx ?_
     have h := Option.some.inj h
     subst h
     refine (hret _ ?_).1
     exact ⟨[(.bool false)], ⟨I, J0⟩, I, J0⟩
    have h := hif.2 hc
    refine Zc I I I I (Z9 I I) I <| Zc I I I I (Z1c (b := 32) (c := (v17.2 != 32)) I I I I) I <| Z1 I (Zy I I I) I <| Z7 <| Z8 ?_
    have hif := Z1h h
    refine Zq I (fun hc => ?_) (fun hc => ?_)
    ·have h := hif.1 hc
     refine Zb <| Z5 <| Z1 I (Zd (v := (.bool false)) I I) I <| Z7 <| Z8 <| Z1e <| Zx <| Zx <| Z18 <| Zx ?_
     refine Zx (Z18 ?_)
     refine Zx ?_
     have h := Option.some.inj h
     subst h
     refine (hret _ ?_).1
     exact ⟨[(.bool false)], ⟨I, J0⟩, I, J0⟩
    have h := hif.2 hc
    refine Z14 <| Z8 <| Z1u <| Z26 <| At.out ?_
    exact Zz (J13 () h) ⟨I, I, I, I, J0⟩ ⟨I, I, J0⟩
   have h := hif.2 hc
   refine Z14 <| Z8 <| Zb <| Z1y mixed <| Za 0 I (Z1n I a76 I I I I) <| Za 1 I (Z1n I a34 I I I I) <| Za 2 I (Z9 I I) <| Za 3 I (Z9 I I) ?_
   have ⟨hg20, h⟩ := Zw h
   refine Za 4 I (Z32 (k := .i64) (v := (.vs 6)) (n := 6) (off := 0) (len := (v6 ++ ([[110, 111, 98, 111, 100, 121]] : List Str)).length) (es := (List.map Z1i (v6 ++ ([[110, 111, 98, 111, 100, 121]] : List Str)))) (j := v8) (m := v8.toNat) I s36 I I (Z31 _ _ _) I hg20 (Nat.zero_add _)) ?_
   have ⟨hg21, h⟩ := Zw h
   refine Za 5 I (Z3o (l := (v6 ++ ([[110, 111, 98, 111, 100, 121]] : List Str))) (enc := Z1i) (z := []) (v := (.str ((v6 ++ ([[110, 111, 98, 111, 100, 121]] : List Str)).getD v8.toNat []))) I o9 I I hg21 I) <| Za 6 I (Z9 I I) ?_
   have ⟨v23, hv23, h⟩ := Z1a h
   refine Za 7 I (Z1d (ar := [(Zf v4), (.str ((v6 ++ ([[110, 111, 98, 111, 100, 121]] : List Str)).getD v8.toNat [])), (.int .i64 a1)]) Try.call36 (F36_ok K v4 ((v6 ++ ([[110, 111, 98, 111, 100, 121]] : List Str)).getD v8.toNat []) a1 v23 hv23) I I ⟨I, I, I, J0⟩ I) <| Za 8 I (st_cmpA (xs := (Z2f v17.1).cells) (ys := (Z2f v23).cells) (b := ((v17.1.Active == v23.Active) && ((v17.1.Since == v23.Since) && ((v17.1.Steps == v23.Steps) && ((v17.1.Acked == v23.Acked) && true))))) (c := (!((v17.1.Active == v23.Active) && ((v17.1.Since == v23.Since) && ((v17.1.Steps == v23.Steps) && ((v17.1.Acked == v23.Acked) && true)))))) I eq76 I I I I) <| Za 9 I (Z9 I I) ?_
   have hif := Z1h h
   refine Z3f (fun hc => ?_) (fun hc => ?_)
   ·have h := hif.1 hc
    refine Z11 10 I I I I I I I <| Z11 11 I I I I I I I <| Za 12 I (Z19 (v := (.bool true)) I I I) <| Z1z (by kernel_rfl) I <| Z8 ?_
    refine Zq (b := true) I (fun hc => ?_) (fun hc => ?_)
    rotate_left
    ·cases hc
    refine Zb <| Z5 <| Z1 I (Zd (v := (.bool false)) I I) I <| Z7 <| Z8 <| Z1e <| Z18 <| Zx ?_
    refine Zx (Z18 ?_)
    refine Zx ?_
    have h := Option.some.inj h
    subst h
    refine (hret _ ?_).1
    exact ⟨[(.bool false)], ⟨I, J0⟩, I, J0⟩
   have h := hif.2 hc
   refine Z17 10 I I I I (Z9 I I) <| Z17 11 I I I I (Z1c (b := 0) (c := (v17.2 != 0)) I I I I) <| Za 12 I (Zy I I I) <| Z1z (by kernel_rfl) I <| Z8 ?_
   have hif := Z1h h
   refine Zq I (fun hc => ?_) (fun hc => ?_)
   ·have h := hif.1 hc
    refine Zb <| Z5 <| Z1 I (Zd (v := (.bool false)) I I) I <| Z7 <| Z8 <| Z1e <| Z18 <| Zx ?_
    refine Zx (Z18 ?_)
    refine Zx ?_
    have h := Option.some.inj h
    subst h
    refine (hret _ ?_).1
    exact ⟨[(.bool false)], ⟨I, J0⟩, I, J0⟩
   have h := hif.2 hc
   refine Z14 <| Z27 ?_
   exact Zz (J13 () h) ⟨I, I, I, I, J0⟩ ⟨I, I, J0⟩
  have h := hif.2 hc
  refine Z1u <| Z26 ?_
  exact Zz (J9 () h) J0 trivial
end Go.AM.Noti
