/- What these functions compute, each with its walk: F20, F60, F42, F41, F9. -/
import Derived.Test.YtkhbjnkckblkjaaGreatTopZT
import Derived.Test.YtkhbjnkckblkjaaGreatTopZG0
import Derived.Test.YtkhbjnkckblkjaaGreatTopZG1
import Derived.Test.YtkhbjnkckblkjaaGreatTopZG2
import Derived.Test.YtkhbjnkckblkjaaGreatTopZG3
namespace Go.AM.TopZ
open Go Go.AM Go.Proofs
set_option maxRecDepth 100000
set_option maxHeartbeats 2000000
def F20_c5 (_K : Nat) (v4 : Zd) : Option (Zd) :=
 some v4
def F20_c16 (_K : Nat) (b7 : Int → Zd → Option (Zd)) (v1 : Int) (v15 : Zd) : Option (Zd) :=
 b7 (IntKind.i64.wrap (v1 + 1)) v15
def F20_c34 (_K : Nat) (b18 : Int → Zd → Option (Zd)) (v12 : Int) (v33 : Zd) : Option (Zd) :=
 b18 (IntKind.i64.wrap (v12 + 1)) v33
def F20_j38 (_K : Nat) (b36 : Int → Zd → Option (Zd)) (v30 : Int) (v37 : Zd) : Option (Zd) :=
 b36 (IntKind.i64.wrap (v30 + 1)) v37
def F20_j52 (K : Nat) (v31 : Zd) (b36 : Int → Zd → Option (Zd)) (v30 : Int) (v51 : Zl) : Option (Zd) :=
 (F55 K v31 v51).bind fun v54 =>
 F20_j38 K b36 v30 v54
def F20_l32 (K : Nat) (v10 : (List Zg)) (v12 : Int) (a0 : (List Zo)) (v1 : Int) (c35 : Zd → Option (Zd)) : Nat → Int → Zd → Option (Zd)
 | 0, _, _ => none
 | k32 + 1, v30, v31 =>
 if (decide (v30 < (v10.length : Int))) = true then
 if (0 : Int) ≤ v30 ∧ v30 < v10.length then
 if (0 : Int) ≤ v12 ∧ v12 < v10.length then
 if ((v10.getD v30.toNat Z2).Id != (v10.getD v12.toNat Z2).Parent) = true then
 F20_j38 K (F20_l32 K v10 v12 a0 v1 c35 k32) v30 v31
 else
 if (0 : Int) ≤ v30 ∧ v30 < v10.length then
 if (0 : Int) ≤ v12 ∧ v12 < v10.length then
 if ((v10.getD v30.toNat Z2).Service == (v10.getD v12.toNat Z2).Service) = true then
 F20_j38 K (F20_l32 K v10 v12 a0 v1 c35 k32) v30 v31
 else
 if (0 : Int) ≤ v30 ∧ v30 < v10.length then
 if (0 : Int) ≤ v12 ∧ v12 < v10.length then
 (F54 K v31 (v10.getD v30.toNat Z2).Service (v10.getD v12.toNat Z2).Service).bind fun v46 =>
 if (0 : Int) ≤ v12 ∧ v12 < v10.length then
 (F51 K (v10.getD v12.toNat Z2)).bind fun v49 =>
 if (0 : Int) ≤ v12 ∧ v12 < v10.length then
 if (v10.getD v12.toNat Z2).Error = true then
 F20_j52 K v31 (F20_l32 K v10 v12 a0 v1 c35 k32) v30 (⟨v46.Caller, v46.Callee, (IntKind.i64.wrap (v46.Count + (a0.getD v1.toNat Zq).Weight)), (IntKind.i64.wrap (v46.Errors + (a0.getD v1.toNat Zq).Weight)), (IntKind.i64.wrap (v46.Time + (IntKind.i64.wrap ((a0.getD v1.toNat Zq).Weight * v49))))⟩ : Zl)
 else
 F20_j52 K v31 (F20_l32 K v10 v12 a0 v1 c35 k32) v30 (⟨v46.Caller, v46.Callee, (IntKind.i64.wrap (v46.Count + (a0.getD v1.toNat Zq).Weight)), v46.Errors, (IntKind.i64.wrap (v46.Time + (IntKind.i64.wrap ((a0.getD v1.toNat Zq).Weight * v49))))⟩ : Zl)
 else none
 else none
 else none
 else none
 else none
 else none
 else none
 else none
 else
 c35 v31
def F20_j27 (K : Nat) (v13 : Zd) (v10 : (List Zg)) (v12 : Int) (a0 : (List Zo)) (v1 : Int) (b18 : Int → Zd → Option (Zd)) (v26 : Zc) : Option (Zd) :=
 (F53 K v13 v26).bind fun v29 =>
 F20_l32 K v10 v12 a0 v1 (F20_c34 K b18 v12) K 0 v29
def F20_j24 (K : Nat) (v12 : Int) (v10 : (List Zg)) (v13 : Zd) (a0 : (List Zo)) (v1 : Int) (b18 : Int → Zd → Option (Zd)) (v23 : Zc) : Option (Zd) :=
 if (0 : Int) ≤ v12 ∧ v12 < v10.length then
 if ((v10.getD v12.toNat Z2).Parent == 0) = true then
 F20_j27 K v13 v10 v12 a0 v1 b18 (⟨v23.Name, v23.Spans, v23.Errors, (IntKind.i64.wrap (v23.Roots + (a0.getD v1.toNat Zq).Weight))⟩ : Zc)
 else
 F20_j27 K v13 v10 v12 a0 v1 b18 v23
 else none
def F20_l14 (K : Nat) (v10 : (List Zg)) (a0 : (List Zo)) (v1 : Int) (c17 : Zd → Option (Zd)) : Nat → Int → Zd → Option (Zd)
 | 0, _, _ => none
 | k14 + 1, v12, v13 =>
 if (decide (v12 < (v10.length : Int))) = true then
 if (0 : Int) ≤ v12 ∧ v12 < v10.length then
 (F31 K v13 (v10.getD v12.toNat Z2).Service).bind fun v21 =>
 if (0 : Int) ≤ v12 ∧ v12 < v10.length then
 if (v10.getD v12.toNat Z2).Error = true then
 F20_j24 K v12 v10 v13 a0 v1 (F20_l14 K v10 a0 v1 c17 k14) (⟨v21.Name, (IntKind.i64.wrap (v21.Spans + (a0.getD v1.toNat Zq).Weight)), (IntKind.i64.wrap (v21.Errors + (a0.getD v1.toNat Zq).Weight)), v21.Roots⟩ : Zc)
 else
 F20_j24 K v12 v10 v13 a0 v1 (F20_l14 K v10 a0 v1 c17 k14) (⟨v21.Name, (IntKind.i64.wrap (v21.Spans + (a0.getD v1.toNat Zq).Weight)), v21.Errors, v21.Roots⟩ : Zc)
 else none
 else none
 else
 c17 v13
def F20_l3 (K : Nat) (a0 : (List Zo)) (c6 : Zd → Option (Zd)) : Nat → Int → Zd → Option (Zd)
 | 0, _, _ => none
 | k3 + 1, v1, v2 =>
 if (decide (v1 < (a0.length : Int))) = true then
 if (0 : Int) ≤ v1 ∧ v1 < a0.length then
 (F47 K (a0.getD v1.toNat Zq).Spans).bind fun v10 =>
 if (0 : Int) ≤ v1 ∧ v1 < a0.length then
 F20_l14 K v10 a0 v1 (F20_c16 K (F20_l3 K a0 c6 k3) v1) K 0 v2
 else none
 else none
 else
 c6 v2
def F20 (K : Nat) (a0 : (List Zo)) : Option (Zd) :=
 F20_l3 K a0 (F20_c5 K) K 0 z_Ttopology_Map
theorem F20_ok (K : Nat) (a0 : (List Zo)) (r : Zd) (h : F20 K a0 = some r) : ACall P 20 ⟨[(.sl 3 (a0.map Zp) false)], [], (Zm r), [], []⟩ := by
 refine Z1r Tryz.func20 Tryz.results20 rfl Tryz.ntmps20 rfl rfl rfl ?_
 intro E Q hP hN hro hret
 obtain ⟨P', nt', w0, F0, p0, S0, β0, ro0⟩ := E
 simp only at hP hN
 subst hP hN
 dsimp only [argT]
 unfold F20 at h
 refine Zb <| Z4 <| Z1 I (Z1z I z44 I I I) I <| Z8 <| Z9 <| Zb <| Z4 <| Z1 I (Z1z I z44 I I I) I <| Z8 <| Z9 <| Zb <| Zb <| Z4 <| Z1 I (Zj (v := (.int .i64 0)) I I) I <| Z8 <| Z9 <| Z1v (st' := ⟨[(0, (.sl 3 (a0.map Zp) false)), (2, (.ptr 2 0)), (3, (.ptr 3 0)), (4, (.int .i64 0))], [(2, (.box [(.sl 4 [] false), (.sl 5 [] false)])), (3, (.box (Zm z_Ttopology_Map).cells))]⟩) ⟨I, I, I, I, J0⟩ ⟨I, I, J0⟩ ?_
 refine Z1g (V := Int × Zd) (X := Zd) (lp := fun k v => F20_l3 K a0 (F20_c5 K) k v.1 v.2 = some r) (sh := fun v => ⟨[(0, (.sl 3 (a0.map Zp) false)), (2, (.ptr 2 0)), (3, (.ptr 3 0)), (4, (.int .i64 v.1))], [(2, (.box [(.sl 4 [] false), (.sl 5 [] false)])), (3, (.box (Zm v.2).cells))]⟩) (x := fun v => F20_c5 K v = some r) (shx := fun v => ⟨[(2, (.ptr 2 0)), (3, (.ptr 3 0))], [(2, (.box [(.sl 4 [] false), (.sl 5 [] false)])), (3, (.box (Zm v).cells))]⟩) (k := K) (v := (0, z_Ttopology_Map)) h ?_ ?_
 ·intro v h
  revert h
  revert v
  intro v4 h
  try dsimp only at h ⊢
  unfold F20_c5 at h
  refine Z9 <| Zb <| Z4 <| Z1 I (Z1l I a44 I I I I) I <| Z1 I (Z19 sz44 I I I I I I I I) I <| Z8 <| Z9 <| Z1e ?_
  have h := Option.some.inj h
  subst h
  refine (hret _ ?_).1
  exact ⟨[(Zm v4)], ⟨⟨2, _, I, I, .inr ⟨_, a44, I, I⟩⟩, J0⟩, I, J0⟩
 intro N k3 v h IH3 J3
 obtain ⟨v1, v2⟩ := v
 try dsimp only at h IH3 J3 ⊢
 cases k3 with
 | zero => cases h
 | succ k3 =>
  rw [F20_l3] at h
  refine Zb <| Zb <| Z4 <| Z1 I (Zh I I) I <| Z1 I (Zh I I) I <| Z1 I (stx_len (l := a0) (enc := Zp) I s31 I) I <| Z1 I (Z1y (c := (decide (v1 < (a0.length : Int)))) I I I I) I <| Z8 <| Z9 ?_
  have hif := Z2a h
  refine Z15 I (fun hc => ?_) (fun hc => ?_)
  ·have h := hif.1 hc
   refine Z18 <| Z9 <| Zb <| Z25 <| Zb <| Z4 <| Z1 I (Zh I I) I <| Z1 I (Zh I I) I ?_
   have ⟨hg8, h⟩ := Zx h
   refine Z1 I (Z1s (k := .i64) (l := a0) (enc := Zp) (z := Zq) (n := v1) (full := false) I s31 I I hg8 I) I <| Z1 I (st_fieldI I f39_2 I I I) I <| Z1 I (st_loadI I o37 I I) I ?_
   have ⟨v10, hv10, h⟩ := Z1b h
   refine Z1 I (Z1h (ar := [(.sl 14 ((a0.getD v1.toNat Zq).Spans.map Zf) false)]) Tryz.call47 (F47_ok K (a0.getD v1.toNat Zq).Spans v10 hv10) I I ⟨I, J0⟩ I) I <| Z1 I (Zj I I) I <| Z8 <| Z9 <| Zb <| Z4 <| Z1 I (Zh I I) I <| Z1 I (Zh I I) I ?_
   have ⟨hg11, h⟩ := Zx h
   refine Z1 I (Z1s (k := .i64) (l := a0) (enc := Zp) (z := Zq) (n := v1) (full := false) I s31 I I hg11 I) I <| Z1 I (st_fieldI I f39_1 I I I) I <| Z1 I (st_loadI I o3 I I) I <| Z1 I (Zj I I) I <| Z8 <| Z9 <| Zb <| Z4 <| Z1 I (Zj (v := (.int .i64 0)) I I) I <| Z8 <| Z9 <| Z1v (st' := ⟨[(0, (.sl 3 (a0.map Zp) false)), (2, (.ptr 2 0)), (3, (.ptr 3 0)), (4, (.int .i64 v1)), (5, (.sl 14 (v10.map Zf) false)), (6, (.int .i64 (a0.getD v1.toNat Zq).Weight)), (7, (.int .i64 0))], [(2, (.box [(.sl 4 [] false), (.sl 5 [] false)])), (3, (.box (Zm v2).cells))]⟩) ⟨I, I, I, I, I, I, I, J0⟩ ⟨I, I, J0⟩ ?_
   refine Z1g (V := Int × Zd) (X := Zd) (lp := fun k v => F20_l14 K v10 a0 v1 (F20_c16 K (F20_l3 K a0 (F20_c5 K) k3) v1) k v.1 v.2 = some r) (sh := fun v => ⟨[(0, (.sl 3 (a0.map Zp) false)), (2, (.ptr 2 0)), (3, (.ptr 3 0)), (4, (.int .i64 v1)), (5, (.sl 14 (v10.map Zf) false)), (6, (.int .i64 (a0.getD v1.toNat Zq).Weight)), (7, (.int .i64 v.1))], [(2, (.box [(.sl 4 [] false), (.sl 5 [] false)])), (3, (.box (Zm v.2).cells))]⟩) (x := fun v => F20_c16 K (F20_l3 K a0 (F20_c5 K) k3) v1 v = some r) (shx := fun v => ⟨[(0, (.sl 3 (a0.map Zp) false)), (2, (.ptr 2 0)), (3, (.ptr 3 0)), (4, (.int .i64 v1))], [(2, (.box [(.sl 4 [] false), (.sl 5 [] false)])), (3, (.box (Zm v).cells))]⟩) (k := K) (v := (0, v2)) h ?_ ?_
   ·intro v h
    revert h
    revert v
    intro v15 h
    try dsimp only at h ⊢
    unfold F20_c16 at h
    refine At.end <| Z9 <| Z4 <| Z1 I (Zh I I) I <| Z1 I (Z1c (k := .i64) (b := 1) (c := (IntKind.i64.wrap (v1 + 1))) I I I I) I <| Z1 I (Zj I I) I <| Z8 ?_
    exact Z1d (IH3 _ ((IntKind.i64.wrap (v1 + 1)), v15) (Nat.lt_succ_self _) h) ⟨I, I, I, I, J0⟩ ⟨I, I, J0⟩
   intro N k14 v h IH14 J14
   obtain ⟨v12, v13⟩ := v
   try dsimp only at h IH14 J14 ⊢
   cases k14 with
   | zero => cases h
   | succ k14 =>
    rw [F20_l14] at h
    refine Zb <| Zb <| Z4 <| Z1 I (Zh I I) I <| Z1 I (Zh I I) I <| Z1 I (stx_len (l := v10) (enc := Zf) I s37 I) I <| Z1 I (Z1y (c := (decide (v12 < (v10.length : Int)))) I I I I) I <| Z8 <| Z9 ?_
    have hif := Z2a h
    refine Z15 I (fun hc => ?_) (fun hc => ?_)
    ·have h := hif.1 hc
     refine Z18 <| Z9 <| Zb <| Z25 <| Zb <| Z1t mixed <| Z3 0 I (Z1l I a44 I I I I) <| Z3 1 I (Zh I I) <| Z3 2 I (Zh I I) ?_
     have ⟨hg19, h⟩ := Zx h
     refine Z3 3 I (Z1s (k := .i64) (l := v10) (enc := Zf) (z := Z2) (n := v12) (full := false) I s37 I I hg19 I) <| Z3 4 I (st_fieldI I f56_6 I I I) <| Z3 5 I (st_loadI I o9 I I) ?_
     have ⟨v21, hv21, h⟩ := Z1b h
     refine Z3 6 I (Z1h (ar := [(Zm v13), (.str (v10.getD v12.toNat Z2).Service)]) Tryz.call31 (F31_ok K v13 (v10.getD v12.toNat Z2).Service v21 hv21) I I ⟨I, I, J0⟩ I) <| Z3 7 I (Z1z I z68 I I I) <| Z3 8 I (Z19 sz68 I I I I I I I I) <| Z21 (by kernel_rfl) I <| Z9 <| Zb <| Z4 <| Z1 I (Zn I f68_1 I I) I <| Z1 I (Zs I o3 I I I) I <| Z1 I (Zh I I) I <| Z1 I (Z1c (k := .i64) (c := (IntKind.i64.wrap (v21.Spans + (a0.getD v1.toNat Zq).Weight))) I I I I) I <| Z1 I (Zn I f68_1 I I) I <| Z1 I (Z19 sz3 I I I I I I I I) I <| Z8 <| Z9 <| Zb <| Zb <| Z4 <| Z1 I (Zh I I) I <| Z1 I (Zh I I) I ?_
     have ⟨hg22, h⟩ := Zx h
     refine Z1 I (Z1s (k := .i64) (l := v10) (enc := Zf) (z := Z2) (n := v12) (full := false) I s37 I I hg22 I) I <| Z1 I (st_fieldI I f56_11 I I I) I <| Z1 I (st_loadI I o4 I I) I <| Z8 <| Z9 ?_
     refine AWp.join (V := Zc) (lp := fun v => F20_j24 K v12 v10 v13 a0 v1 (F20_l14 K v10 a0 v1 (F20_c16 K (F20_l3 K a0 (F20_c5 K) k3) v1) k14) v = some r) (sh := fun v => ⟨[(0, (.sl 3 (a0.map Zp) false)), (2, (.ptr 2 0)), (3, (.ptr 3 0)), (4, (.int .i64 v1)), (5, (.sl 14 (v10.map Zf) false)), (6, (.int .i64 (a0.getD v1.toNat Zq).Weight)), (7, (.int .i64 v12)), (8, (.ptr 8 0))], [(2, (.box [(.sl 4 [] false), (.sl 5 [] false)])), (3, (.box (Zm v13).cells)), (8, (.box (Z6 v).cells))]⟩) ?_ ?_
     ·intro v h
      revert h
      revert v
      intro v23 h
      try dsimp only at h ⊢
      unfold F20_j24 at h
      refine Z9 <| Zb <| Zb <| Z4 <| Z1 I (Zh I I) I <| Z1 I (Zh I I) I ?_
      have ⟨hg25, h⟩ := Zx h
      refine Z1 I (Z1s (k := .i64) (l := v10) (enc := Zf) (z := Z2) (n := v12) (full := false) I s37 I I hg25 I) I <| Z1 I (st_fieldI I f56_2 I I I) I <| Z1 I (st_loadI I o3 I I) I <| Z1 I (Z1y (b := 0) (c := ((v10.getD v12.toNat Z2).Parent == 0)) I I I I) I <| Z8 <| Z9 ?_
      refine AWp.join (V := Zc) (lp := fun v => F20_j27 K v13 v10 v12 a0 v1 (F20_l14 K v10 a0 v1 (F20_c16 K (F20_l3 K a0 (F20_c5 K) k3) v1) k14) v = some r) (sh := fun v => ⟨[(0, (.sl 3 (a0.map Zp) false)), (2, (.ptr 2 0)), (3, (.ptr 3 0)), (4, (.int .i64 v1)), (5, (.sl 14 (v10.map Zf) false)), (6, (.int .i64 (a0.getD v1.toNat Zq).Weight)), (7, (.int .i64 v12)), (8, (.ptr 8 0))], [(2, (.box [(.sl 4 [] false), (.sl 5 [] false)])), (3, (.box (Zm v13).cells)), (8, (.box (Z6 v).cells))]⟩) ?_ ?_
      ·intro v h
       revert h
       revert v
       intro v26 h
       try dsimp only at h ⊢
       unfold F20_j27 at h
       refine Z9 <| Zb <| Z4 <| Z1 I (Z1l I a44 I I I I) I <| Z1 I (Z1l I a68 I I I I) I ?_
       have ⟨v29, hv29, h⟩ := Z1b h
       refine Z1 I (Z1h (ar := [(Zm v13), (Z6 v26)]) Tryz.call53 (F53_ok K v13 v26 v29 hv29) I I ⟨I, I, J0⟩ I) I <| Z1 I (Z19 sz44 I I I I I I I I) I <| Z8 <| Z9 <| Zb <| Z4 <| Z1 I (Zj (v := (.int .i64 0)) I I) I <| Z8 <| Z9 <| Z1v (st' := ⟨[(0, (.sl 3 (a0.map Zp) false)), (2, (.ptr 2 0)), (3, (.ptr 3 0)), (4, (.int .i64 v1)), (5, (.sl 14 (v10.map Zf) false)), (6, (.int .i64 (a0.getD v1.toNat Zq).Weight)), (7, (.int .i64 v12)), (9, (.int .i64 0))], [(2, (.box [(.sl 4 [] false), (.sl 5 [] false)])), (3, (.box (Zm v29).cells))]⟩) ⟨I, I, I, I, I, I, I, I, J0⟩ ⟨I, I, J0⟩ ?_
       refine Z1g (V := Int × Zd) (X := Zd) (lp := fun k v => F20_l32 K v10 v12 a0 v1 (F20_c34 K (F20_l14 K v10 a0 v1 (F20_c16 K (F20_l3 K a0 (F20_c5 K) k3) v1) k14) v12) k v.1 v.2 = some r) (sh := fun v => ⟨[(0, (.sl 3 (a0.map Zp) false)), (2, (.ptr 2 0)), (3, (.ptr 3 0)), (4, (.int .i64 v1)), (5, (.sl 14 (v10.map Zf) false)), (6, (.int .i64 (a0.getD v1.toNat Zq).Weight)), (7, (.int .i64 v12)), (9, (.int .i64 v.1))], [(2, (.box [(.sl 4 [] false), (.sl 5 [] false)])), (3, (.box (Zm v.2).cells))]⟩) (x := fun v => F20_c34 K (F20_l14 K v10 a0 v1 (F20_c16 K (F20_l3 K a0 (F20_c5 K) k3) v1) k14) v12 v = some r) (shx := fun v => ⟨[(0, (.sl 3 (a0.map Zp) false)), (2, (.ptr 2 0)), (3, (.ptr 3 0)), (4, (.int .i64 v1)), (5, (.sl 14 (v10.map Zf) false)), (6, (.int .i64 (a0.getD v1.toNat Zq).Weight)), (7, (.int .i64 v12))], [(2, (.box [(.sl 4 [] false), (.sl 5 [] false)])), (3, (.box (Zm v).cells))]⟩) (k := K) (v := (0, v29)) h ?_ ?_
       ·intro v h
        revert h
        revert v
        intro v33 h
        try dsimp only at h ⊢
        unfold F20_c34 at h
        refine At.end <| Z9 <| Z4 <| Z1 I (Zh I I) I <| Z1 I (Z1c (k := .i64) (b := 1) (c := (IntKind.i64.wrap (v12 + 1))) I I I I) I <| Z1 I (Zj I I) I <| Z8 ?_
        exact Z1d (IH14 _ ((IntKind.i64.wrap (v12 + 1)), v33) (Nat.lt_succ_self _) h) ⟨I, I, I, I, I, I, I, J0⟩ ⟨I, I, J0⟩
       intro N k32 v h IH32 J32
       obtain ⟨v30, v31⟩ := v
       try dsimp only at h IH32 J32 ⊢
       cases k32 with
       | zero => cases h
       | succ k32 =>
        rw [F20_l32] at h
        refine Zb <| Zb <| Z4 <| Z1 I (Zh I I) I <| Z1 I (Zh I I) I <| Z1 I (stx_len (l := v10) (enc := Zf) I s37 I) I <| Z1 I (Z1y (c := (decide (v30 < (v10.length : Int)))) I I I I) I <| Z8 <| Z9 ?_
        have hif := Z2a h
        refine Z15 I (fun hc => ?_) (fun hc => ?_)
        ·have h := hif.1 hc
         refine Z18 <| Z9 <| Zb ?_
         refine AWp.blockJoin (V := Zd) (lp := fun v => F20_j38 K (F20_l32 K v10 v12 a0 v1 (F20_c34 K (F20_l14 K v10 a0 v1 (F20_c16 K (F20_l3 K a0 (F20_c5 K) k3) v1) k14) v12) k32) v30 v = some r) (sh := fun v => ⟨[(0, (.sl 3 (a0.map Zp) false)), (2, (.ptr 2 0)), (3, (.ptr 3 0)), (4, (.int .i64 v1)), (5, (.sl 14 (v10.map Zf) false)), (6, (.int .i64 (a0.getD v1.toNat Zq).Weight)), (7, (.int .i64 v12)), (9, (.int .i64 v30))], [(2, (.box [(.sl 4 [] false), (.sl 5 [] false)])), (3, (.box (Zm v).cells))]⟩) ?_ ?_
         ·intro v h
          revert h
          revert v
          intro v37 h
          try dsimp only at h ⊢
          unfold F20_j38 at h
          refine Z9 <| Z4 <| Z1 I (Zh I I) I <| Z1 I (Z1c (k := .i64) (b := 1) (c := (IntKind.i64.wrap (v30 + 1))) I I I I) I <| Z1 I (Zj I I) I <| Z8 ?_
          exact Z1d (IH32 _ ((IntKind.i64.wrap (v30 + 1)), v37) (Nat.lt_succ_self _) h) ⟨I, I, I, I, I, I, I, I, J0⟩ ⟨I, I, J0⟩
         intro J38
         refine Zb <| Zb <| Z1t mixed <| Z3 0 I (Zh I I) <| Z3 1 I (Zh I I) ?_
         have ⟨hg39, h⟩ := Zx h
         refine Z3 2 I (Z1s (k := .i64) (l := v10) (enc := Zf) (z := Z2) (n := v30) (full := false) I s37 I I hg39 I) <| Z3 3 I (st_fieldI I f56_1 I I I) <| Z3 4 I (st_loadI I o3 I I) <| Z3 5 I (Zh I I) <| Z3 6 I (Zh I I) ?_
         have ⟨hg40, h⟩ := Zx h
         refine Z3 7 I (Z1s (k := .i64) (l := v10) (enc := Zf) (z := Z2) (n := v12) (full := false) I s37 I I hg40 I) <| Z3 8 I (st_fieldI I f56_2 I I I) <| Z3 9 I (st_loadI I o3 I I) <| Z3 10 I (Z1y (c := ((v10.getD v30.toNat Z2).Id != (v10.getD v12.toNat Z2).Parent)) I I I I) <| Z3 11 I (Zh I I) ?_
         have hif := Z2a h
         refine AOpsD.split (fun hc => ?_) (fun hc => ?_)
         ·have h := hif.1 hc
          refine Z14 12 I I I I I I I <| Z14 13 I I I I I I I <| Z14 14 I I I I I I I <| Z14 15 I I I I I I I <| Z14 16 I I I I I I I <| Z14 17 I I I I I I I <| Z14 18 I I I I I I I <| Z14 19 I I I I I I I <| Z14 20 I I I I I I I <| Z14 21 I I I I I I I <| Z14 22 I I I I I I I <| Z3 23 I (st_pickT (v := (.bool true)) I I I) <| Z21 (by kernel_rfl) I <| Z9 ?_
          refine Z15 (b := true) I (fun hc => ?_) (fun hc => ?_)
          rotate_left
          ·cases hc
          refine Z29 <| At.thru <| At.out ?_
          exact Z1d (J38 v31 h) ⟨I, I, I, I, I, I, I, I, J0⟩ ⟨I, I, J0⟩
         have h := hif.2 hc
         refine Z16 12 I I I I (Zh I I) <| Z16 13 I I I I (Zh I I) ?_
         have ⟨hg41, h⟩ := Zx h
         refine Z16 14 I I I I (Z1s (k := .i64) (l := v10) (enc := Zf) (z := Z2) (n := v30) (full := false) I s37 I I hg41 I) <| Z16 15 I I I I (st_fieldI I f56_6 I I I) <| Z16 16 I I I I (st_loadI I o9 I I) <| Z16 17 I I I I (Zh I I) <| Z16 18 I I I I (Zh I I) ?_
         have ⟨hg42, h⟩ := Zx h
         refine Z16 19 I I I I (Z1s (k := .i64) (l := v10) (enc := Zf) (z := Z2) (n := v12) (full := false) I s37 I I hg42 I) <| Z16 20 I I I I (st_fieldI I f56_6 I I I) <| Z16 21 I I I I (st_loadI I o9 I I) <| Z16 22 I I I I (st_cmpS (c := ((v10.getD v30.toNat Z2).Service == (v10.getD v12.toNat Z2).Service)) I I I I) <| Z3 23 I (st_pickF I I I) <| Z21 (by kernel_rfl) I <| Z9 ?_
         have hif := Z2a h
         refine Z15 I (fun hc => ?_) (fun hc => ?_)
         ·have h := hif.1 hc
          refine Z29 <| At.thru <| At.out ?_
          exact Z1d (J38 v31 h) ⟨I, I, I, I, I, I, I, I, J0⟩ ⟨I, I, J0⟩
         have h := hif.2 hc
         refine Z18 <| Z9 <| Zb <| Z1t mixed <| Z3 0 I (Z1l I a44 I I I I) <| Z3 1 I (Zh I I) <| Z3 2 I (Zh I I) ?_
         have ⟨hg43, h⟩ := Zx h
         refine Z3 3 I (Z1s (k := .i64) (l := v10) (enc := Zf) (z := Z2) (n := v30) (full := false) I s37 I I hg43 I) <| Z3 4 I (st_fieldI I f56_6 I I I) <| Z3 5 I (st_loadI I o9 I I) <| Z3 6 I (Zh I I) <| Z3 7 I (Zh I I) ?_
         have ⟨hg44, h⟩ := Zx h
         refine Z3 8 I (Z1s (k := .i64) (l := v10) (enc := Zf) (z := Z2) (n := v12) (full := false) I s37 I I hg44 I) <| Z3 9 I (st_fieldI I f56_6 I I I) <| Z3 10 I (st_loadI I o9 I I) ?_
         have ⟨v46, hv46, h⟩ := Z1b h
         refine Z3 11 I (Z1h (ar := [(Zm v31), (.str (v10.getD v30.toNat Z2).Service), (.str (v10.getD v12.toNat Z2).Service)]) Tryz.call54 (F54_ok K v31 (v10.getD v30.toNat Z2).Service (v10.getD v12.toNat Z2).Service v46 hv46) I I ⟨I, I, I, J0⟩ I) <| Z3 12 I (Z1z I z88 I I I) <| Z3 13 I (Z19 sz88 I I I I I I I I) <| Z21 (by kernel_rfl) I <| Z9 <| Zb <| Z1t mixed <| Z3 0 I (Zn I f88_2 I I) <| Z3 1 I (Zs I o3 I I I) <| Z3 2 I (Zh I I) <| Z3 3 I (Z1c (k := .i64) (c := (IntKind.i64.wrap (v46.Count + (a0.getD v1.toNat Zq).Weight))) I I I I) <| Z3 4 I (Zn I f88_4 I I) <| Z3 5 I (Zs I o3 I I I) <| Z3 6 I (Zh I I) <| Z3 7 I (Zh I I) <| Z3 8 I (Zh I I) ?_
         have ⟨hg47, h⟩ := Zx h
         refine Z3 9 I (Z1s (k := .i64) (l := v10) (enc := Zf) (z := Z2) (n := v12) (full := false) I s37 I I hg47 I) <| Z3 10 I (st_loadIA I a56 I I I) ?_
         have ⟨v49, hv49, h⟩ := Z1b h
         refine Z3 11 I (Z1h (ar := [(Zf (v10.getD v12.toNat Z2))]) Tryz.call51 (F51_ok K (v10.getD v12.toNat Z2) v49 hv49) I I ⟨I, J0⟩ I) <| Z3 12 I (Z1c (k := .i64) (c := (IntKind.i64.wrap ((a0.getD v1.toNat Zq).Weight * v49))) I I I I) <| Z3 13 I (Z1c (k := .i64) (c := (IntKind.i64.wrap (v46.Time + (IntKind.i64.wrap ((a0.getD v1.toNat Zq).Weight * v49))))) I I I I) <| Z3 14 I (Zn I f88_2 I I) <| Z3 15 I (Z19 sz3 I I I I I I I I) <| Z3 16 I (Zn I f88_4 I I) <| Z3 17 I (Z19 sz3 I I I I I I I I) <| Z21 (by kernel_rfl) I <| Z9 <| Zb <| Zb <| Z4 <| Z1 I (Zh I I) I <| Z1 I (Zh I I) I ?_
         have ⟨hg50, h⟩ := Zx h
         refine Z1 I (Z1s (k := .i64) (l := v10) (enc := Zf) (z := Z2) (n := v12) (full := false) I s37 I I hg50 I) I <| Z1 I (st_fieldI I f56_11 I I I) I <| Z1 I (st_loadI I o4 I I) I <| Z8 <| Z9 ?_
         refine AWp.join (V := Zl) (lp := fun v => F20_j52 K v31 (F20_l32 K v10 v12 a0 v1 (F20_c34 K (F20_l14 K v10 a0 v1 (F20_c16 K (F20_l3 K a0 (F20_c5 K) k3) v1) k14) v12) k32) v30 v = some r) (sh := fun v => ⟨[(0, (.sl 3 (a0.map Zp) false)), (2, (.ptr 2 0)), (3, (.ptr 3 0)), (4, (.int .i64 v1)), (5, (.sl 14 (v10.map Zf) false)), (6, (.int .i64 (a0.getD v1.toNat Zq).Weight)), (7, (.int .i64 v12)), (9, (.int .i64 v30)), (10, (.ptr 10 0))], [(2, (.box [(.sl 4 [] false), (.sl 5 [] false)])), (3, (.box (Zm v31).cells)), (10, (.box (Ze v).cells))]⟩) ?_ ?_
         ·intro v h
          revert h
          revert v
          intro v51 h
          try dsimp only at h ⊢
          unfold F20_j52 at h
          refine Z9 <| Z4 <| Z1 I (Z1l I a44 I I I I) I <| Z1 I (Z1l I a88 I I I I) I ?_
          have ⟨v54, hv54, h⟩ := Z1b h
          refine Z1 I (Z1h (ar := [(Zm v31), (Ze v51)]) Tryz.call55 (F55_ok K v31 v51 v54 hv54) I I ⟨I, I, J0⟩ I) I <| Z1 I (Z19 sz44 I I I I I I I I) I <| Z8 <| At.end ?_
          exact Z1d (J38 v54 h) ⟨I, I, I, I, I, I, I, I, J0⟩ ⟨I, I, J0⟩
         intro J52
         have hif := Z2a h
         refine Z15 I (fun hc => ?_) (fun hc => ?_)
         ·have h := hif.1 hc
          refine Z4 <| Z1 I (Zn I f88_3 I I) I <| Z1 I (Zs I o3 I I I) I <| Z1 I (Zh I I) I <| Z1 I (Z1c (k := .i64) (c := (IntKind.i64.wrap (v46.Errors + (a0.getD v1.toNat Zq).Weight))) I I I I) I <| Z1 I (Zn I f88_3 I I) I <| Z1 I (Z19 sz3 I I I I I I I I) I <| Z8 ?_
          exact Z1d (J52 (⟨v46.Caller, v46.Callee, (IntKind.i64.wrap (v46.Count + (a0.getD v1.toNat Zq).Weight)), (IntKind.i64.wrap (v46.Errors + (a0.getD v1.toNat Zq).Weight)), (IntKind.i64.wrap (v46.Time + (IntKind.i64.wrap ((a0.getD v1.toNat Zq).Weight * v49))))⟩ : Zl) h) ⟨I, I, I, I, I, I, I, I, I, J0⟩ ⟨I, I, I, J0⟩
         have h := hif.2 hc
         refine Z18 ?_
         exact Z1d (J52 (⟨v46.Caller, v46.Callee, (IntKind.i64.wrap (v46.Count + (a0.getD v1.toNat Zq).Weight)), v46.Errors, (IntKind.i64.wrap (v46.Time + (IntKind.i64.wrap ((a0.getD v1.toNat Zq).Weight * v49))))⟩ : Zl) h) ⟨I, I, I, I, I, I, I, I, I, J0⟩ ⟨I, I, I, J0⟩
        have h := hif.2 hc
        refine Z29 <| At.thru ?_
        exact Z1d (J32 v31 h) ⟨I, I, I, I, I, I, I, J0⟩ ⟨I, I, J0⟩
      intro J27
      have hif := Z2a h
      refine Z15 I (fun hc => ?_) (fun hc => ?_)
      ·have h := hif.1 hc
       refine Z4 <| Z1 I (Zn I f68_3 I I) I <| Z1 I (Zs I o3 I I I) I <| Z1 I (Zh I I) I <| Z1 I (Z1c (k := .i64) (c := (IntKind.i64.wrap (v23.Roots + (a0.getD v1.toNat Zq).Weight))) I I I I) I <| Z1 I (Zn I f68_3 I I) I <| Z1 I (Z19 sz3 I I I I I I I I) I <| Z8 ?_
       exact Z1d (J27 (⟨v23.Name, v23.Spans, v23.Errors, (IntKind.i64.wrap (v23.Roots + (a0.getD v1.toNat Zq).Weight))⟩ : Zc) h) ⟨I, I, I, I, I, I, I, I, J0⟩ ⟨I, I, I, J0⟩
      have h := hif.2 hc
      refine Z18 ?_
      exact Z1d (J27 v23 h) ⟨I, I, I, I, I, I, I, I, J0⟩ ⟨I, I, I, J0⟩
     intro J24
     have hif := Z2a h
     refine Z15 I (fun hc => ?_) (fun hc => ?_)
     ·have h := hif.1 hc
      refine Z4 <| Z1 I (Zn I f68_2 I I) I <| Z1 I (Zs I o3 I I I) I <| Z1 I (Zh I I) I <| Z1 I (Z1c (k := .i64) (c := (IntKind.i64.wrap (v21.Errors + (a0.getD v1.toNat Zq).Weight))) I I I I) I <| Z1 I (Zn I f68_2 I I) I <| Z1 I (Z19 sz3 I I I I I I I I) I <| Z8 ?_
      exact Z1d (J24 (⟨v21.Name, (IntKind.i64.wrap (v21.Spans + (a0.getD v1.toNat Zq).Weight)), (IntKind.i64.wrap (v21.Errors + (a0.getD v1.toNat Zq).Weight)), v21.Roots⟩ : Zc) h) ⟨I, I, I, I, I, I, I, I, J0⟩ ⟨I, I, I, J0⟩
     have h := hif.2 hc
     refine Z18 ?_
     exact Z1d (J24 (⟨v21.Name, (IntKind.i64.wrap (v21.Spans + (a0.getD v1.toNat Zq).Weight)), v21.Errors, v21.Roots⟩ : Zc) h) ⟨I, I, I, I, I, I, I, I, J0⟩ ⟨I, I, I, J0⟩
    have h := hif.2 hc
    refine Z29 <| At.thru ?_
    exact Z1d (J14 v13 h) ⟨I, I, I, I, J0⟩ ⟨I, I, J0⟩
  have h := hif.2 hc
  refine Z29 <| At.thru ?_
  exact Z1d (J3 v2 h) ⟨I, I, J0⟩ ⟨I, I, J0⟩
def F60_c11 (_K : Nat) (v10 : Zd) : Option (Zd) :=
 some v10
def F60_l9 (K : Nat) (a1 : Zd) (c12 : Zd → Option (Zd)) : Nat → Int → Zd → Option (Zd)
 | 0, _, _ => none
 | k9 + 1, v7, v8 =>
 if (decide (v7 < (a1.Calls.length : Int))) = true then
 if (0 : Int) ≤ v7 ∧ v7 < a1.Calls.length then
 if (0 : Int) ≤ v7 ∧ v7 < a1.Calls.length then
 (F54 K v8 (a1.Calls.getD v7.toNat Zk).Caller (a1.Calls.getD v7.toNat Zk).Callee).bind fun v17 =>
 if (0 : Int) ≤ v7 ∧ v7 < a1.Calls.length then
 (F55 K v8 (⟨(a1.Calls.getD v7.toNat Zk).Caller, (a1.Calls.getD v7.toNat Zk).Callee, (IntKind.i64.wrap (v17.Count + (a1.Calls.getD v7.toNat Zk).Count)), (IntKind.i64.wrap (v17.Errors + (a1.Calls.getD v7.toNat Zk).Errors)), (IntKind.i64.wrap (v17.Time + (a1.Calls.getD v7.toNat Zk).Time))⟩ : Zl)).bind fun v20 =>
 (F60_l9 K a1 c12 k9) (IntKind.i64.wrap (v7 + 1)) v20
 else none
 else none
 else none
 else
 c12 v8
def F60_c5 (K : Nat) (a1 : Zd) (v4 : Zd) : Option (Zd) :=
 F60_l9 K a1 (F60_c11 K) K 0 v4
def F60_l3 (K : Nat) (a1 : Zd) (c6 : Zd → Option (Zd)) : Nat → Int → Zd → Option (Zd)
 | 0, _, _ => none
 | k3 + 1, v1, v2 =>
 if (decide (v1 < (a1.Services.length : Int))) = true then
 if (0 : Int) ≤ v1 ∧ v1 < a1.Services.length then
 (F31 K v2 (a1.Services.getD v1.toNat Zr).Name).bind fun v24 =>
 if (0 : Int) ≤ v1 ∧ v1 < a1.Services.length then
 (F53 K v2 (⟨(a1.Services.getD v1.toNat Zr).Name, (IntKind.i64.wrap (v24.Spans + (a1.Services.getD v1.toNat Zr).Spans)), (IntKind.i64.wrap (v24.Errors + (a1.Services.getD v1.toNat Zr).Errors)), (IntKind.i64.wrap (v24.Roots + (a1.Services.getD v1.toNat Zr).Roots))⟩ : Zc)).bind fun v27 =>
 (F60_l3 K a1 c6 k3) (IntKind.i64.wrap (v1 + 1)) v27
 else none
 else none
 else
 c6 v2
def F60 (K : Nat) (a0 : Zd) (a1 : Zd) : Option (Zd) :=
 F60_l3 K a1 (F60_c5 K a1) K 0 a0
theorem F60_ok (K : Nat) (a0 : Zd) (a1 : Zd) (r : Zd) (h : F60 K a0 a1 = some r) : ACall P 60 ⟨[(Zm a0), (Zm a1)], [], (Zm r), [], []⟩ := by
 refine Z1r Tryz.func60 Tryz.results60 rfl Tryz.ntmps60 rfl rfl rfl ?_
 intro E Q hP hN hro hret
 obtain ⟨P', nt', w0, F0, p0, S0, β0, ro0⟩ := E
 simp only at hP hN
 subst hP hN
 dsimp only [argT]
 unfold F60 at h
 refine Zb <| Z4 <| Z1 I (st_box I I I I I) I <| Z1 I (st_box I I I I I) I <| Z1 I (Z1z I z44 I I I) I <| Z8 <| Z9 <| Zb <| Zb <| Z4 <| Z1 I (Zj (v := (.int .i64 0)) I I) I <| Z8 <| Z9 <| Z1v (st' := ⟨[(2, (.ptr 2 0)), (3, (.ptr 3 0)), (4, (.ptr 4 0)), (5, (.int .i64 0))], [(2, (.box (Zm a0).cells)), (3, (.box (Zm a1).cells)), (4, (.box [(.sl 4 [] false), (.sl 5 [] false)]))]⟩) ⟨I, I, I, I, J0⟩ ⟨I, I, I, J0⟩ ?_
 refine Z1g (V := Int × Zd) (X := Zd) (lp := fun k v => F60_l3 K a1 (F60_c5 K a1) k v.1 v.2 = some r) (sh := fun v => ⟨[(2, (.ptr 2 0)), (3, (.ptr 3 0)), (4, (.ptr 4 0)), (5, (.int .i64 v.1))], [(2, (.box (Zm v.2).cells)), (3, (.box (Zm a1).cells)), (4, (.box [(.sl 4 [] false), (.sl 5 [] false)]))]⟩) (x := fun v => F60_c5 K a1 v = some r) (shx := fun v => ⟨[(2, (.ptr 2 0)), (3, (.ptr 3 0)), (4, (.ptr 4 0))], [(2, (.box (Zm v).cells)), (3, (.box (Zm a1).cells)), (4, (.box [(.sl 4 [] false), (.sl 5 [] false)]))]⟩) (k := K) (v := (0, a0)) h ?_ ?_
 ·intro v h
  revert h
  revert v
  intro v4 h
  try dsimp only at h ⊢
  unfold F60_c5 at h
  refine Z9 <| Zb <| Zb <| Z4 <| Z1 I (Zj (v := (.int .i64 0)) I I) I <| Z8 <| Z9 <| Z1v (st' := ⟨[(2, (.ptr 2 0)), (3, (.ptr 3 0)), (4, (.ptr 4 0)), (8, (.int .i64 0))], [(2, (.box (Zm v4).cells)), (3, (.box (Zm a1).cells)), (4, (.box [(.sl 4 [] false), (.sl 5 [] false)]))]⟩) ⟨I, I, I, I, J0⟩ ⟨I, I, I, J0⟩ ?_
  refine Z1g (V := Int × Zd) (X := Zd) (lp := fun k v => F60_l9 K a1 (F60_c11 K) k v.1 v.2 = some r) (sh := fun v => ⟨[(2, (.ptr 2 0)), (3, (.ptr 3 0)), (4, (.ptr 4 0)), (8, (.int .i64 v.1))], [(2, (.box (Zm v.2).cells)), (3, (.box (Zm a1).cells)), (4, (.box [(.sl 4 [] false), (.sl 5 [] false)]))]⟩) (x := fun v => F60_c11 K v = some r) (shx := fun v => ⟨[(2, (.ptr 2 0)), (4, (.ptr 4 0))], [(2, (.box (Zm v).cells)), (4, (.box [(.sl 4 [] false), (.sl 5 [] false)]))]⟩) (k := K) (v := (0, v4)) h ?_ ?_
  ·intro v h
   revert h
   revert v
   intro v10 h
   try dsimp only at h ⊢
   unfold F60_c11 at h
   refine Z9 <| Zb <| Z4 <| Z1 I (Z1l I a44 I I I I) I <| Z1 I (Z19 sz44 I I I I I I I I) I <| Z8 <| Z9 <| Z1e ?_
   have h := Option.some.inj h
   subst h
   refine (hret _ ?_).1
   exact ⟨[(Zm v10)], ⟨⟨4, _, I, I, .inr ⟨_, a44, I, I⟩⟩, J0⟩, I, J0⟩
  intro N k9 v h IH9 J9
  obtain ⟨v7, v8⟩ := v
  try dsimp only at h IH9 J9 ⊢
  cases k9 with
  | zero => cases h
  | succ k9 =>
   rw [F60_l9] at h
   refine Zb <| Zb <| Z4 <| Z1 I (Zh I I) I <| Z1 I (Zn I f44_1 I I) I <| Z1 I (Zs I o42 I I I) I <| Z1 I (stx_len (l := a1.Calls) (enc := Ze) I s42 I) I <| Z1 I (Z1y (c := (decide (v7 < (a1.Calls.length : Int)))) I I I I) I <| Z8 <| Z9 ?_
   have hif := Z2a h
   refine Z15 I (fun hc => ?_) (fun hc => ?_)
   ·have h := hif.1 hc
    refine Z18 <| Z9 <| Zb <| Z25 <| Zb <| Z1t mixed <| Z3 0 I (Z1l I a44 I I I I) <| Z3 1 I (Zn I f44_1 I I) <| Z3 2 I (Zs I o42 I I I) <| Z3 3 I (Zh I I) ?_
    have ⟨hg14, h⟩ := Zx h
    refine Z3 4 I (Z1s (k := .i64) (l := a1.Calls) (enc := Ze) (z := Zk) (n := v7) (full := false) I s42 I I hg14 I) <| Z3 5 I (st_fieldI I f88_0 I I I) <| Z3 6 I (st_loadI I o9 I I) <| Z3 7 I (Zn I f44_1 I I) <| Z3 8 I (Zs I o42 I I I) <| Z3 9 I (Zh I I) ?_
    have ⟨hg15, h⟩ := Zx h
    refine Z3 10 I (Z1s (k := .i64) (l := a1.Calls) (enc := Ze) (z := Zk) (n := v7) (full := false) I s42 I I hg15 I) <| Z3 11 I (st_fieldI I f88_1 I I I) <| Z3 12 I (st_loadI I o9 I I) ?_
    have ⟨v17, hv17, h⟩ := Z1b h
    refine Z3 13 I (Z1h (ar := [(Zm v8), (.str (a1.Calls.getD v7.toNat Zk).Caller), (.str (a1.Calls.getD v7.toNat Zk).Callee)]) Tryz.call54 (F54_ok K v8 (a1.Calls.getD v7.toNat Zk).Caller (a1.Calls.getD v7.toNat Zk).Callee v17 hv17) I I ⟨I, I, I, J0⟩ I) <| Z3 14 I (Zn I f44_1 I I) <| Z3 15 I (Zs I o42 I I I) <| Z3 16 I (Zh I I) ?_
    have ⟨hg18, h⟩ := Zx h
    refine Z3 17 I (Z1s (k := .i64) (l := a1.Calls) (enc := Ze) (z := Zk) (n := v7) (full := false) I s42 I I hg18 I) <| Z3 18 I (st_loadIA I a88 I I I) <| Z3 19 I (Z1z I z88 I I I) <| Z3 20 I (Z1z I z88 I I I) <| Z3 21 I (Z19 sz88 I I I I I I I I) <| Z3 22 I (Z19 sz88 I I I I I I I I) <| Z21 (by kernel_rfl) I <| Z9 <| Z4 <| Z1 I (Z1l I a44 I I I I) I <| Z1 I (Zn I f88_0 I I) I <| Z1 I (Zs I o9 I I I) I <| Z1 I (Zn I f88_1 I I) I <| Z1 I (Zs I o9 I I I) I <| Z1 I (Zn I f88_2 I I) I <| Z1 I (Zs I o3 I I I) I <| Z1 I (Zn I f88_2 I I) I <| Z1 I (Zs I o3 I I I) I <| Z1 I (Z1c (k := .i64) (c := (IntKind.i64.wrap (v17.Count + (a1.Calls.getD v7.toNat Zk).Count))) I I I I) I <| Z1 I (Zn I f88_3 I I) I <| Z1 I (Zs I o3 I I I) I <| Z1 I (Zn I f88_3 I I) I <| Z1 I (Zs I o3 I I I) I <| Z1 I (Z1c (k := .i64) (c := (IntKind.i64.wrap (v17.Errors + (a1.Calls.getD v7.toNat Zk).Errors))) I I I I) I ?_
    refine Z1 I (Zn I f88_4 I I) I <| Z1 I (Zs I o3 I I I) I <| Z1 I (Zn I f88_4 I I) I <| Z1 I (Zs I o3 I I I) I <| Z1 I (Z1c (k := .i64) (c := (IntKind.i64.wrap (v17.Time + (a1.Calls.getD v7.toNat Zk).Time))) I I I I) I <| Z1 I (stx_build (vs := [(0, (.str (a1.Calls.getD v7.toNat Zk).Caller)), (1, (.str (a1.Calls.getD v7.toNat Zk).Callee)), (2, (.int .i64 (IntKind.i64.wrap (v17.Count + (a1.Calls.getD v7.toNat Zk).Count)))), (3, (.int .i64 (IntKind.i64.wrap (v17.Errors + (a1.Calls.getD v7.toNat Zk).Errors)))), (4, (.int .i64 (IntKind.i64.wrap (v17.Time + (a1.Calls.getD v7.toNat Zk).Time))))]) I st88 ⟨I, I, I, I, I, I, I, I, I, I, J0⟩ I) I ?_
    have ⟨v20, hv20, h⟩ := Z1b h
    refine Z1 I (Z1h (ar := [(Zm v8), (.ag [(.str (a1.Calls.getD v7.toNat Zk).Caller), (.str (a1.Calls.getD v7.toNat Zk).Callee), (.int .i64 (IntKind.i64.wrap (v17.Count + (a1.Calls.getD v7.toNat Zk).Count))), (.int .i64 (IntKind.i64.wrap (v17.Errors + (a1.Calls.getD v7.toNat Zk).Errors))), (.int .i64 (IntKind.i64.wrap (v17.Time + (a1.Calls.getD v7.toNat Zk).Time)))])]) Tryz.call55 (F55_ok K v8 (⟨(a1.Calls.getD v7.toNat Zk).Caller, (a1.Calls.getD v7.toNat Zk).Callee, (IntKind.i64.wrap (v17.Count + (a1.Calls.getD v7.toNat Zk).Count)), (IntKind.i64.wrap (v17.Errors + (a1.Calls.getD v7.toNat Zk).Errors)), (IntKind.i64.wrap (v17.Time + (a1.Calls.getD v7.toNat Zk).Time))⟩ : Zl) v20 hv20) I I ⟨I, I, J0⟩ I) I <| Z1 I (Z19 sz44 I I I I I I I I) I <| Z8 <| At.end <| Z9 <| Z4 <| Z1 I (Zh I I) I <| Z1 I (Z1c (k := .i64) (b := 1) (c := (IntKind.i64.wrap (v7 + 1))) I I I I) I <| Z1 I (Zj I I) I <| Z8 ?_
    exact Z1d (IH9 _ ((IntKind.i64.wrap (v7 + 1)), v20) (Nat.lt_succ_self _) h) ⟨I, I, I, I, J0⟩ ⟨I, I, I, J0⟩
   have h := hif.2 hc
   refine Z29 <| At.thru ?_
   exact Z1d (J9 v8 h) ⟨I, I, J0⟩ ⟨I, I, J0⟩
 intro N k3 v h IH3 J3
 obtain ⟨v1, v2⟩ := v
 try dsimp only at h IH3 J3 ⊢
 cases k3 with
 | zero => cases h
 | succ k3 =>
  rw [F60_l3] at h
  refine Zb <| Zb <| Z4 <| Z1 I (Zh I I) I <| Z1 I (Zn I f44_0 I I) I <| Z1 I (Zs I o41 I I I) I <| Z1 I (stx_len (l := a1.Services) (enc := Z6) I s41 I) I <| Z1 I (Z1y (c := (decide (v1 < (a1.Services.length : Int)))) I I I I) I <| Z8 <| Z9 ?_
  have hif := Z2a h
  refine Z15 I (fun hc => ?_) (fun hc => ?_)
  ·have h := hif.1 hc
   refine Z18 <| Z9 <| Zb <| Z25 <| Zb <| Z1t mixed <| Z3 0 I (Z1l I a44 I I I I) <| Z3 1 I (Zn I f44_0 I I) <| Z3 2 I (Zs I o41 I I I) <| Z3 3 I (Zh I I) ?_
   have ⟨hg22, h⟩ := Zx h
   refine Z3 4 I (Z1s (k := .i64) (l := a1.Services) (enc := Z6) (z := Zr) (n := v1) (full := false) I s41 I I hg22 I) <| Z3 5 I (st_fieldI I f68_0 I I I) <| Z3 6 I (st_loadI I o9 I I) ?_
   have ⟨v24, hv24, h⟩ := Z1b h
   refine Z3 7 I (Z1h (ar := [(Zm v2), (.str (a1.Services.getD v1.toNat Zr).Name)]) Tryz.call31 (F31_ok K v2 (a1.Services.getD v1.toNat Zr).Name v24 hv24) I I ⟨I, I, J0⟩ I) <| Z3 8 I (Zn I f44_0 I I) <| Z3 9 I (Zs I o41 I I I) <| Z3 10 I (Zh I I) ?_
   have ⟨hg25, h⟩ := Zx h
   refine Z3 11 I (Z1s (k := .i64) (l := a1.Services) (enc := Z6) (z := Zr) (n := v1) (full := false) I s41 I I hg25 I) <| Z3 12 I (st_loadIA I a68 I I I) <| Z3 13 I (Z1z I z68 I I I) <| Z3 14 I (Z1z I z68 I I I) <| Z3 15 I (Z19 sz68 I I I I I I I I) <| Z3 16 I (Z19 sz68 I I I I I I I I) <| Z21 (by kernel_rfl) I <| Z9 <| Z4 <| Z1 I (Z1l I a44 I I I I) I <| Z1 I (Zn I f68_0 I I) I <| Z1 I (Zs I o9 I I I) I <| Z1 I (Zn I f68_1 I I) I <| Z1 I (Zs I o3 I I I) I <| Z1 I (Zn I f68_1 I I) I <| Z1 I (Zs I o3 I I I) I <| Z1 I (Z1c (k := .i64) (c := (IntKind.i64.wrap (v24.Spans + (a1.Services.getD v1.toNat Zr).Spans))) I I I I) I <| Z1 I (Zn I f68_2 I I) I <| Z1 I (Zs I o3 I I I) I <| Z1 I (Zn I f68_2 I I) I <| Z1 I (Zs I o3 I I I) I <| Z1 I (Z1c (k := .i64) (c := (IntKind.i64.wrap (v24.Errors + (a1.Services.getD v1.toNat Zr).Errors))) I I I I) I <| Z1 I (Zn I f68_3 I I) I <| Z1 I (Zs I o3 I I I) I ?_
   refine Z1 I (Zn I f68_3 I I) I <| Z1 I (Zs I o3 I I I) I <| Z1 I (Z1c (k := .i64) (c := (IntKind.i64.wrap (v24.Roots + (a1.Services.getD v1.toNat Zr).Roots))) I I I I) I <| Z1 I (stx_build (vs := [(0, (.str (a1.Services.getD v1.toNat Zr).Name)), (1, (.int .i64 (IntKind.i64.wrap (v24.Spans + (a1.Services.getD v1.toNat Zr).Spans)))), (2, (.int .i64 (IntKind.i64.wrap (v24.Errors + (a1.Services.getD v1.toNat Zr).Errors)))), (3, (.int .i64 (IntKind.i64.wrap (v24.Roots + (a1.Services.getD v1.toNat Zr).Roots))))]) I st68 ⟨I, I, I, I, I, I, I, I, J0⟩ I) I ?_
   have ⟨v27, hv27, h⟩ := Z1b h
   refine Z1 I (Z1h (ar := [(Zm v2), (.ag [(.str (a1.Services.getD v1.toNat Zr).Name), (.int .i64 (IntKind.i64.wrap (v24.Spans + (a1.Services.getD v1.toNat Zr).Spans))), (.int .i64 (IntKind.i64.wrap (v24.Errors + (a1.Services.getD v1.toNat Zr).Errors))), (.int .i64 (IntKind.i64.wrap (v24.Roots + (a1.Services.getD v1.toNat Zr).Roots)))])]) Tryz.call53 (F53_ok K v2 (⟨(a1.Services.getD v1.toNat Zr).Name, (IntKind.i64.wrap (v24.Spans + (a1.Services.getD v1.toNat Zr).Spans)), (IntKind.i64.wrap (v24.Errors + (a1.Services.getD v1.toNat Zr).Errors)), (IntKind.i64.wrap (v24.Roots + (a1.Services.getD v1.toNat Zr).Roots))⟩ : Zc) v27 hv27) I I ⟨I, I, J0⟩ I) I <| Z1 I (Z19 sz44 I I I I I I I I) I <| Z8 <| At.end <| Z9 <| Z4 <| Z1 I (Zh I I) I <| Z1 I (Z1c (k := .i64) (b := 1) (c := (IntKind.i64.wrap (v1 + 1))) I I I I) I <| Z1 I (Zj I I) I <| Z8 ?_
   exact Z1d (IH3 _ ((IntKind.i64.wrap (v1 + 1)), v27) (Nat.lt_succ_self _) h) ⟨I, I, I, I, J0⟩ ⟨I, I, I, J0⟩
  have h := hif.2 hc
  refine Z29 <| At.thru ?_
  exact Z1d (J3 v2 h) ⟨I, I, I, J0⟩ ⟨I, I, I, J0⟩
def F42_c10 (_K : Nat) (v9 : (List Zw)) : Option ((List Zw)) :=
 some v9
def F42_c23 (_K : Nat) (b12 : Int → (List Zw) → Zd → Option ((List Zw))) (v5 : Int) (a3 : Int) (v16 : Zd) (v22 : (List Zw)) : Option ((List Zw)) :=
 b12 (IntKind.i64.wrap (v5 + a3)) v22 v16
def F42_j32 (_K : Nat) (b25 : Int → (List Zw) → Option ((List Zw))) (v19 : Int) (v31 : (List Zw)) : Option ((List Zw)) :=
 b25 (IntKind.i64.wrap (v19 + 1)) v31
def F42_l21 (K : Nat) (v18 : Zd) (v7 : Zd) (v16 : Zd) (v5 : Int) (c24 : (List Zw) → Option ((List Zw))) : Nat → Int → (List Zw) → Option ((List Zw))
 | 0, _, _ => none
 | k21 + 1, v19, v20 =>
 if (decide (v19 < (v18.Calls.length : Int))) = true then
 if (0 : Int) ≤ v19 ∧ v19 < v18.Calls.length then
 (F54 K v7 (v18.Calls.getD v19.toNat Zk).Caller (v18.Calls.getD v19.toNat Zk).Callee).bind fun v28 =>
 (F54 K v16 (v18.Calls.getD v19.toNat Zk).Caller (v18.Calls.getD v19.toNat Zk).Callee).bind fun v30 =>
 if ((decide (v28.Count > 0)) != (decide (v30.Count > 0))) = true then
 if v20.length + ([(⟨(IntKind.i64.wrap ((v20.length : Int) + 1)), 3, v5, (v18.Calls.getD v19.toNat Zk).Caller, (v18.Calls.getD v19.toNat Zk).Callee, []⟩ : Zw)]).length ≤ 1073741824 then
 F42_j32 K (F42_l21 K v18 v7 v16 v5 c24 k21) v19 (v20 ++ ([(⟨(IntKind.i64.wrap ((v20.length : Int) + 1)), 3, v5, (v18.Calls.getD v19.toNat Zk).Caller, (v18.Calls.getD v19.toNat Zk).Callee, []⟩ : Zw)]))
 else none
 else
 F42_j32 K (F42_l21 K v18 v7 v16 v5 c24 k21) v19 v20
 else none
 else
 c24 v20
def F42_l8 (K : Nat) (a2 : Int) (a0 : (List Zo)) (a3 : Int) (c11 : (List Zw) → Option ((List Zw))) : Nat → Int → (List Zw) → Zd → Option ((List Zw))
 | 0, _, _, _ => none
 | k8 + 1, v5, v6, v7 =>
 if (decide (v5 < a2)) = true then
 (F15 K a0 v5 (if (IntKind.i64.wrap (v5 + a3)) < a2 then (IntKind.i64.wrap (v5 + a3)) else a2)).bind fun v14 =>
 (F20 K v14).bind fun v16 =>
 (F60 K v7 v16).bind fun v18 =>
 F42_l21 K v18 v7 v16 v5 (F42_c23 K (F42_l8 K a2 a0 a3 c11 k8) v5 a3 v16) K 0 v6
 else
 c11 v6
def F42 (K : Nat) (a0 : (List Zo)) (a1 : Int) (a2 : Int) (a3 : Int) : Option ((List Zw)) :=
 (F15 K a0 a1 (if (IntKind.i64.wrap (a1 + a3)) < a2 then (IntKind.i64.wrap (a1 + a3)) else a2)).bind fun v2 =>
 (F20 K v2).bind fun v4 =>
 F42_l8 K a2 a0 a3 (F42_c10 K) K (IntKind.i64.wrap (a1 + a3)) [] v4
theorem F42_ok (K : Nat) (a0 : (List Zo)) (a1 : Int) (a2 : Int) (a3 : Int) (r : (List Zw)) (h : F42 K a0 a1 a2 a3 = some r) : ACall P 42 ⟨[(.sl 3 (a0.map Zp) false), (.int .i64 a1), (.int .i64 a2), (.int .i64 a3)], [], (.sl 6 (r.map Z10) false), [], []⟩ := by
 refine Z1r Tryz.func42 Tryz.results42 rfl Tryz.ntmps42 rfl rfl rfl ?_
 intro E Q hP hN hro hret
 obtain ⟨P', nt', w0, F0, p0, S0, β0, ro0⟩ := E
 simp only at hP hN
 subst hP hN
 dsimp only [argT]
 unfold F42 at h
 refine Zb <| Z4 <| Z1 I (Zj (v := (.sl 6 [] false)) I I) I <| Z8 <| Z9 <| Zb <| Z4 <| Z1 I (Zj (v := (.sl 6 [] true)) I I) I <| Z8 <| Z9 <| Zb <| Z4 ?_
 iterate 5 refine Z1 I (Zh I I) I ?_
 refine Z1 I (Z1c (k := .i64) (c := (IntKind.i64.wrap (a1 + a3))) I I I I) I <| Z1 I (st_min (k := .i64) (a := a2) (b := (IntKind.i64.wrap (a1 + a3))) I I I) I ?_
 have ⟨v2, hv2, h⟩ := Z1b h
 refine Z1 I (Z1h (ar := [(.sl 3 (a0.map Zp) false), (.int .i64 a1), (.int .i64 (if (IntKind.i64.wrap (a1 + a3)) < a2 then (IntKind.i64.wrap (a1 + a3)) else a2))]) Tryz.call15 (F15_ok K a0 a1 (if (IntKind.i64.wrap (a1 + a3)) < a2 then (IntKind.i64.wrap (a1 + a3)) else a2) v2 hv2) I I ⟨I, I, I, J0⟩ I) I ?_
 have ⟨v4, hv4, h⟩ := Z1b h
 refine Z1 I (Z1h (ar := [(.sl 3 (v2.map Zp) false)]) Tryz.call20 (F20_ok K v2 v4 hv4) I I ⟨I, J0⟩ I) I <| Z1 I (Z1z I z44 I I I) I <| Z1 I (Z19 sz44 I I I I I I I I) I <| Z8 <| Z9 <| Zb <| Zb <| Z4 <| Z1 I (Zh I I) I <| Z1 I (Zh I I) I <| Z1 I (Z1c (k := .i64) (c := (IntKind.i64.wrap (a1 + a3))) I I I I) I <| Z1 I (Zj I I) I <| Z8 <| Z9 <| AWp.ghost (st' := ⟨[(0, (.sl 3 (a0.map Zp) false)), (2, (.int .i64 a2)), (3, (.int .i64 a3)), (9, (.vs 9)), (10, (.ptr 10 0)), (11, (.int .i64 (IntKind.i64.wrap (a1 + a3))))], [(9, (.vec 6 (List.map Z10 ([] : List Zw)))), (10, (.box (Zm v4).cells))]⟩) (fun a w h => (Z17 _ (ghost_own (k := 9) (m := 9) (sz := 6) I I a w (Z17 ⟨[(9, (.sl 6 [] true)), (0, (.sl 3 (a0.map Zp) false)), (2, (.int .i64 a2)), (3, (.int .i64 a3)), (10, (.ptr 10 0)), (11, (.int .i64 (IntKind.i64.wrap (a1 + a3))))], [(10, (.box (Zm v4).cells))]⟩ h ⟨I, I, I, I, I, I, J0⟩ ⟨I, J0⟩)) ⟨I, I, I, I, I, I, J0⟩ ⟨I, I, J0⟩)) <| Z1v (st' := ⟨[(0, (.sl 3 (a0.map Zp) false)), (2, (.int .i64 a2)), (3, (.int .i64 a3)), (9, (.vs 9)), (10, (.ptr 10 0)), (11, (.int .i64 (IntKind.i64.wrap (a1 + a3))))], [(9, (.vec 6 (List.map Z10 []))), (10, (.box (Zm v4).cells))]⟩) ⟨I, I, I, I, I, I, J0⟩ ⟨I, I, J0⟩ ?_
 refine Z1g (V := Int × (List Zw) × Zd) (X := (List Zw)) (lp := fun k v => F42_l8 K a2 a0 a3 (F42_c10 K) k v.1 v.2.1 v.2.2 = some r) (sh := fun v => ⟨[(0, (.sl 3 (a0.map Zp) false)), (2, (.int .i64 a2)), (3, (.int .i64 a3)), (9, (.vs 9)), (10, (.ptr 10 0)), (11, (.int .i64 v.1))], [(9, (.vec 6 (List.map Z10 v.2.1))), (10, (.box (Zm v.2.2).cells))]⟩) (x := fun v => F42_c10 K v = some r) (shx := fun v => ⟨[(9, (.vs 9))], [(9, (.vec 6 (List.map Z10 v)))]⟩) (k := K) (v := ((IntKind.i64.wrap (a1 + a3)), [], v4)) h ?_ ?_
 ·intro v h
  revert h
  revert v
  intro v9 h
  try dsimp only at h ⊢
  unfold F42_c10 at h
  refine Z9 <| Zb <| Z4 <| Z1 I (Zh I I) I <| Z1 I (Zj I I) I <| Z8 <| Z9 <| Z1e <| At.ghost (st' := ⟨[(8, (.sl 6 (v9.map Z10) false))], []⟩) (fun a w h => (Z17 _ (ghost_freeze (m := 9) (sz := 6) (es := (List.map Z10 v9)) a w (Z17 ⟨[(8, (.vs 9))], [(9, (.vec 6 (List.map Z10 v9)))]⟩ h ⟨I, J0⟩ ⟨I, J0⟩)) ⟨I, J0⟩ J0)) ?_
  have h := Option.some.inj h
  subst h
  refine (hret _ ?_).1
  exact ⟨[(.sl 6 (v9.map Z10) false)], ⟨I, J0⟩, I, J0⟩
 intro N k8 v h IH8 J8
 obtain ⟨v5, v6, v7⟩ := v
 try dsimp only at h IH8 J8 ⊢
 cases k8 with
 | zero => cases h
 | succ k8 =>
  rw [F42_l8] at h
  refine Zb <| Zb <| Z4 <| Z1 I (Zh I I) I <| Z1 I (Zh I I) I <| Z1 I (Z1y (c := (decide (v5 < a2))) I I I I) I <| Z8 <| Z9 ?_
  have hif := Z2a h
  refine Z15 I (fun hc => ?_) (fun hc => ?_)
  ·have h := hif.1 hc
   refine Z18 <| Z9 <| Zb <| Z25 <| Zb <| Z4 ?_
   iterate 5 refine Z1 I (Zh I I) I ?_
   refine Z1 I (Z1c (k := .i64) (c := (IntKind.i64.wrap (v5 + a3))) I I I I) I <| Z1 I (st_min (k := .i64) (a := a2) (b := (IntKind.i64.wrap (v5 + a3))) I I I) I ?_
   have ⟨v14, hv14, h⟩ := Z1b h
   refine Z1 I (Z1h (ar := [(.sl 3 (a0.map Zp) false), (.int .i64 v5), (.int .i64 (if (IntKind.i64.wrap (v5 + a3)) < a2 then (IntKind.i64.wrap (v5 + a3)) else a2))]) Tryz.call15 (F15_ok K a0 v5 (if (IntKind.i64.wrap (v5 + a3)) < a2 then (IntKind.i64.wrap (v5 + a3)) else a2) v14 hv14) I I ⟨I, I, I, J0⟩ I) I ?_
   have ⟨v16, hv16, h⟩ := Z1b h
   refine Z1 I (Z1h (ar := [(.sl 3 (v14.map Zp) false)]) Tryz.call20 (F20_ok K v14 v16 hv16) I I ⟨I, J0⟩ I) I <| Z1 I (Z1z I z44 I I I) I <| Z1 I (Z19 sz44 I I I I I I I I) I <| Z8 <| Z9 <| Zb <| Z4 <| Z1 I (Z1l I a44 I I I I) I <| Z1 I (Z1l I a44 I I I I) I ?_
   have ⟨v18, hv18, h⟩ := Z1b h
   refine Z1 I (Z1h (ar := [(Zm v7), (Zm v16)]) Tryz.call60 (F60_ok K v7 v16 v18 hv18) I I ⟨I, I, J0⟩ I) I <| Z1 I (Z1z I z44 I I I) I <| Z1 I (Z19 sz44 I I I I I I I I) I <| Z8 <| Z9 <| Zb <| Zb <| Z4 <| Z1 I (Zj (v := (.int .i64 0)) I I) I <| Z8 <| Z9 <| Z1v (st' := ⟨[(0, (.sl 3 (a0.map Zp) false)), (2, (.int .i64 a2)), (3, (.int .i64 a3)), (9, (.vs 9)), (10, (.ptr 10 0)), (11, (.int .i64 v5)), (12, (.ptr 12 0)), (13, (.ptr 13 0)), (14, (.int .i64 0))], [(9, (.vec 6 (List.map Z10 v6))), (10, (.box (Zm v7).cells)), (12, (.box (Zm v16).cells)), (13, (.box (Zm v18).cells))]⟩) ⟨I, I, I, I, I, I, I, I, I, J0⟩ ⟨I, I, I, I, J0⟩ ?_
   refine Z1g (V := Int × (List Zw)) (X := (List Zw)) (lp := fun k v => F42_l21 K v18 v7 v16 v5 (F42_c23 K (F42_l8 K a2 a0 a3 (F42_c10 K) k8) v5 a3 v16) k v.1 v.2 = some r) (sh := fun v => ⟨[(0, (.sl 3 (a0.map Zp) false)), (2, (.int .i64 a2)), (3, (.int .i64 a3)), (9, (.vs 9)), (10, (.ptr 10 0)), (11, (.int .i64 v5)), (12, (.ptr 12 0)), (13, (.ptr 13 0)), (14, (.int .i64 v.1))], [(9, (.vec 6 (List.map Z10 v.2))), (10, (.box (Zm v7).cells)), (12, (.box (Zm v16).cells)), (13, (.box (Zm v18).cells))]⟩) (x := fun v => F42_c23 K (F42_l8 K a2 a0 a3 (F42_c10 K) k8) v5 a3 v16 v = some r) (shx := fun v => ⟨[(0, (.sl 3 (a0.map Zp) false)), (2, (.int .i64 a2)), (3, (.int .i64 a3)), (9, (.vs 9)), (10, (.ptr 10 0)), (11, (.int .i64 v5)), (12, (.ptr 12 0))], [(9, (.vec 6 (List.map Z10 v))), (10, (.box (Zm v7).cells)), (12, (.box (Zm v16).cells))]⟩) (k := K) (v := (0, v6)) h ?_ ?_
   ·intro v h
    revert h
    revert v
    intro v22 h
    try dsimp only at h ⊢
    unfold F42_c23 at h
    refine Z9 <| Z4 <| Z1 I (Z1l I a44 I I I I) I <| Z1 I (Z19 sz44 I I I I I I I I) I <| Z8 <| At.end <| Z9 <| Z4 <| Z1 I (Zh I I) I <| Z1 I (Zh I I) I <| Z1 I (Z1c (k := .i64) (c := (IntKind.i64.wrap (v5 + a3))) I I I I) I <| Z1 I (Zj I I) I <| Z8 ?_
    exact Z1d (IH8 _ ((IntKind.i64.wrap (v5 + a3)), v22, v16) (Nat.lt_succ_self _) h) ⟨I, I, I, I, I, I, J0⟩ ⟨I, I, J0⟩
   intro N k21 v h IH21 J21
   obtain ⟨v19, v20⟩ := v
   try dsimp only at h IH21 J21 ⊢
   cases k21 with
   | zero => cases h
   | succ k21 =>
    rw [F42_l21] at h
    refine Zb <| Zb <| Z4 <| Z1 I (Zh I I) I <| Z1 I (Zn I f44_1 I I) I <| Z1 I (Zs I o42 I I I) I <| Z1 I (stx_len (l := v18.Calls) (enc := Ze) I s42 I) I <| Z1 I (Z1y (c := (decide (v19 < (v18.Calls.length : Int)))) I I I I) I <| Z8 <| Z9 ?_
    have hif := Z2a h
    refine Z15 I (fun hc => ?_) (fun hc => ?_)
    ·have h := hif.1 hc
     refine Z18 <| Z9 <| Zb <| Z25 <| Zb <| Z4 <| Z1 I (Zn I f44_1 I I) I <| Z1 I (Zs I o42 I I I) I <| Z1 I (Zh I I) I ?_
     have ⟨hg26, h⟩ := Zx h
     refine Z1 I (Z1s (k := .i64) (l := v18.Calls) (enc := Ze) (z := Zk) (n := v19) (full := false) I s42 I I hg26 I) I <| Z1 I (st_loadIA I a88 I I I) I <| Z1 I (Z1z I z88 I I I) I <| Z1 I (Z19 sz88 I I I I I I I I) I <| Z8 <| Z9 <| Zb <| Z1t mixed <| Z3 0 I (Z1l I a44 I I I I) <| Z3 1 I (Zn I f88_0 I I) <| Z3 2 I (Zs I o9 I I I) <| Z3 3 I (Zn I f88_1 I I) <| Z3 4 I (Zs I o9 I I I) ?_
     have ⟨v28, hv28, h⟩ := Z1b h
     refine Z3 5 I (Z1h (ar := [(Zm v7), (.str (v18.Calls.getD v19.toNat Zk).Caller), (.str (v18.Calls.getD v19.toNat Zk).Callee)]) Tryz.call54 (F54_ok K v7 (v18.Calls.getD v19.toNat Zk).Caller (v18.Calls.getD v19.toNat Zk).Callee v28 hv28) I I ⟨I, I, I, J0⟩ I) <| Z3 6 I (st_field I ft88_2 o3 I I) <| Z3 7 I (Z1y (b := 0) (c := (decide (v28.Count > 0))) I I I I) <| Z3 8 I (Z1l I a44 I I I I) <| Z3 9 I (Zn I f88_0 I I) <| Z3 10 I (Zs I o9 I I I) <| Z3 11 I (Zn I f88_1 I I) <| Z3 12 I (Zs I o9 I I I) ?_
     have ⟨v30, hv30, h⟩ := Z1b h
     refine Z3 13 I (Z1h (ar := [(Zm v16), (.str (v18.Calls.getD v19.toNat Zk).Caller), (.str (v18.Calls.getD v19.toNat Zk).Callee)]) Tryz.call54 (F54_ok K v16 (v18.Calls.getD v19.toNat Zk).Caller (v18.Calls.getD v19.toNat Zk).Callee v30 hv30) I I ⟨I, I, I, J0⟩ I) <| Z3 14 I (st_field I ft88_2 o3 I I) <| Z3 15 I (Z1y (b := 0) (c := (decide (v30.Count > 0))) I I I I) <| Z3 16 I (st_cmpB (c := ((decide (v28.Count > 0)) != (decide (v30.Count > 0)))) I u4 I I I) <| Z21 (by kernel_rfl) I <| Z9 ?_
     refine AWp.join (V := (List Zw)) (lp := fun v => F42_j32 K (F42_l21 K v18 v7 v16 v5 (F42_c23 K (F42_l8 K a2 a0 a3 (F42_c10 K) k8) v5 a3 v16) k21) v19 v = some r) (sh := fun v => ⟨[(0, (.sl 3 (a0.map Zp) false)), (2, (.int .i64 a2)), (3, (.int .i64 a3)), (9, (.vs 9)), (10, (.ptr 10 0)), (11, (.int .i64 v5)), (12, (.ptr 12 0)), (13, (.ptr 13 0)), (14, (.int .i64 v19))], [(9, (.vec 6 (List.map Z10 v))), (10, (.box (Zm v7).cells)), (12, (.box (Zm v16).cells)), (13, (.box (Zm v18).cells))]⟩) ?_ ?_
     ·intro v h
      revert h
      revert v
      intro v31 h
      try dsimp only at h ⊢
      unfold F42_j32 at h
      refine At.end <| Z9 <| Z4 <| Z1 I (Zh I I) I <| Z1 I (Z1c (k := .i64) (b := 1) (c := (IntKind.i64.wrap (v19 + 1))) I I I I) I <| Z1 I (Zj I I) I <| Z8 ?_
      exact Z1d (IH21 _ ((IntKind.i64.wrap (v19 + 1)), v31) (Nat.lt_succ_self _) h) ⟨I, I, I, I, I, I, I, I, I, J0⟩ ⟨I, I, I, I, J0⟩
     intro J32
     have hif := Z2a h
     refine Z15 I (fun hc => ?_) (fun hc => ?_)
     ·have h := hif.1 hc
      refine Z4 <| Z1 I (Zh I I) I <| Z1 I (Zh I I) I <| Z1 I (stx_lenV I u94 I I) I <| Z1 I (Z1c (k := .i64) (b := 1) (c := (IntKind.i64.wrap ((v20.length : Int) + 1))) I I I I) I <| Z1 I (Zh I I) I <| Z1 I (Zn I f88_0 I I) I <| Z1 I (Zs I o9 I I I) I <| Z1 I (Zn I f88_1 I I) I <| Z1 I (Zs I o9 I I I) I <| Z1 I (stx_build (vs := [(0, (.int .i64 (IntKind.i64.wrap ((v20.length : Int) + 1)))), (1, (.int .i64 3)), (2, (.int .i64 v5)), (3, (.str (v18.Calls.getD v19.toNat Zk).Caller)), (4, (.str (v18.Calls.getD v19.toNat Zk).Callee))]) I st165 ⟨I, I, I, I, I, I, I, I, I, I, J0⟩ I) I <| Z1 I (Z1i (vs := [(.ag [(.int .i64 (IntKind.i64.wrap ((v20.length : Int) + 1))), (.int .i64 3), (.int .i64 v5), (.str (v18.Calls.getD v19.toNat Zk).Caller), (.str (v18.Calls.getD v19.toNat Zk).Callee), (.str [])])]) (enc := Z10) (l := [(⟨(IntKind.i64.wrap ((v20.length : Int) + 1)), 3, v5, (v18.Calls.getD v19.toNat Zk).Caller, (v18.Calls.getD v19.toNat Zk).Callee, []⟩ : Zw)]) I el94 I I ⟨I, J0⟩ I els_Tapi_Change I I I I) I ?_
      have ⟨hg33, h⟩ := Zx h
      refine Z1 I (st_append (m := 9) (enc := Z10) (l := v20) (l' := ([(⟨(IntKind.i64.wrap ((v20.length : Int) + 1)), 3, v5, (v18.Calls.getD v19.toNat Zk).Caller, (v18.Calls.getD v19.toNat Zk).Callee, []⟩ : Zw)])) (src := (.vs 85)) (rd := [(85, (.vec 6 (List.map Z10 ([(⟨(IntKind.i64.wrap ((v20.length : Int) + 1)), 3, v5, (v18.Calls.getD v19.toNat Zk).Caller, (v18.Calls.getD v19.toNat Zk).Callee, []⟩ : Zw)]))))]) I I el94 I u94 I I I I (oneRead I) els_Tapi_Change hg33) I <| Z1 I (Zj I I) I <| Z8 ?_
      exact Z1d (J32 (v20 ++ ([(⟨(IntKind.i64.wrap ((v20.length : Int) + 1)), 3, v5, (v18.Calls.getD v19.toNat Zk).Caller, (v18.Calls.getD v19.toNat Zk).Callee, []⟩ : Zw)])) h) ⟨I, I, I, I, I, I, I, I, I, J0⟩ ⟨I, I, I, I, J0⟩
     have h := hif.2 hc
     refine Z18 ?_
     exact Z1d (J32 v20 h) ⟨I, I, I, I, I, I, I, I, I, J0⟩ ⟨I, I, I, I, J0⟩
    have h := hif.2 hc
    refine Z29 <| At.thru ?_
    exact Z1d (J21 v20 h) ⟨I, I, I, I, I, I, I, J0⟩ ⟨I, I, I, J0⟩
  have h := hif.2 hc
  refine Z29 <| At.thru ?_
  exact Z1d (J8 v6 h) ⟨I, J0⟩ ⟨I, J0⟩
def F41_c3 (_K : Nat) : Option (Bool) :=
 some true
def F41_l2 (K : Nat) (a0 : (List Zw)) (a1 : (List Zw)) (c4 : Option (Bool)) : Nat → Int → Option (Bool)
 | 0, _ => none
 | k2 + 1, v1 =>
 if (decide (v1 < (a0.length : Int))) = true then
 if (0 : Int) ≤ v1 ∧ v1 < a0.length then
 if (0 : Int) ≤ v1 ∧ v1 < a1.length then
 if (!(((a0.getD v1.toNat Z13).Id == (a1.getD v1.toNat Z13).Id) && (((a0.getD v1.toNat Z13).Kind == (a1.getD v1.toNat Z13).Kind) && (((a0.getD v1.toNat Z13).At == (a1.getD v1.toNat Z13).At) && (((a0.getD v1.toNat Z13).Service == (a1.getD v1.toNat Z13).Service) && (((a0.getD v1.toNat Z13).Target == (a1.getD v1.toNat Z13).Target) && (((a0.getD v1.toNat Z13).Version == (a1.getD v1.toNat Z13).Version) && true))))))) = true then
 some false
 else
 (F41_l2 K a0 a1 c4 k2) (IntKind.i64.wrap (v1 + 1))
 else none
 else none
 else
 c4
def F41 (K : Nat) (a0 : (List Zw)) (a1 : (List Zw)) : Option (Bool) :=
 if ((a0.length : Int) != (a1.length : Int)) = true then
 some false
 else
 F41_l2 K a0 a1 (F41_c3 K) K 0
theorem F41_ok (K : Nat) (a0 : (List Zw)) (a1 : (List Zw)) (r : Bool) (h : F41 K a0 a1 = some r) : ACall P 41 ⟨[(.sl 6 (a0.map Z10) false), (.sl 6 (a1.map Z10) false)], [], (.bool r), [], []⟩ := by
 refine Z1r Tryz.func41 Tryz.results41 rfl Tryz.ntmps41 rfl rfl rfl ?_
 intro E Q hP hN hro hret
 obtain ⟨P', nt', w0, F0, p0, S0, β0, ro0⟩ := E
 simp only at hP hN
 subst hP hN
 dsimp only [argT]
 unfold F41 at h
 refine Zb <| Z4 <| Z1 I (Zj (v := (.bool false)) I I) I <| Z8 <| Z9 <| Zb <| Zb <| Z4 <| Z1 I (Zh I I) I <| Z1 I (stx_len (l := a0) (enc := Z10) I s94 I) I <| Z1 I (Zh I I) I <| Z1 I (stx_len (l := a1) (enc := Z10) I s94 I) I <| Z1 I (Z1y (c := ((a0.length : Int) != (a1.length : Int))) I I I I) I <| Z8 <| Z9 ?_
 have hif := Z2a h
 refine Z15 I (fun hc => ?_) (fun hc => ?_)
 ·have h := hif.1 hc
  refine Zb <| Z4 <| Z1 I (Zj (v := (.bool false)) I I) I <| Z8 <| Z9 <| Z1e <| Z1m ?_
  have h := Option.some.inj h
  subst h
  refine (hret _ ?_).1
  exact ⟨[(.bool false)], ⟨I, J0⟩, I, J0⟩
 have h := hif.2 hc
 refine Z18 <| Z9 <| Zb <| Zb <| Z4 <| Z1 I (Zj (v := (.int .i64 0)) I I) I <| Z8 <| Z9 <| Z1v (st' := ⟨[(0, (.sl 6 (a0.map Z10) false)), (1, (.sl 6 (a1.map Z10) false)), (5, (.int .i64 0))], []⟩) ⟨I, I, I, J0⟩ J0 ?_
 refine Z1g (V := Int) (X := Unit) (lp := fun k v => F41_l2 K a0 a1 (F41_c3 K) k v = some r) (sh := fun v => ⟨[(0, (.sl 6 (a0.map Z10) false)), (1, (.sl 6 (a1.map Z10) false)), (5, (.int .i64 v))], []⟩) (x := fun v => F41_c3 K = some r) (shx := fun v => ⟨[], []⟩) (k := K) (v := 0) h ?_ ?_
 ·intro v h
  try dsimp only at h ⊢
  unfold F41_c3 at h
  refine Z9 <| Zb <| Z4 <| Z1 I (Zj (v := (.bool true)) I I) I <| Z8 <| Z9 <| Z1e ?_
  have h := Option.some.inj h
  subst h
  refine (hret _ ?_).1
  exact ⟨[(.bool true)], ⟨I, J0⟩, I, J0⟩
 intro N k2 v h IH2 J2
 revert h
 revert v
 intro v1 h
 try dsimp only at h IH2 J2 ⊢
 cases k2 with
 | zero => cases h
 | succ k2 =>
  rw [F41_l2] at h
  refine Zb <| Zb <| Z4 <| Z1 I (Zh I I) I <| Z1 I (Zh I I) I <| Z1 I (stx_len (l := a0) (enc := Z10) I s94 I) I <| Z1 I (Z1y (c := (decide (v1 < (a0.length : Int)))) I I I I) I <| Z8 <| Z9 ?_
  have hif := Z2a h
  refine Z15 I (fun hc => ?_) (fun hc => ?_)
  ·have h := hif.1 hc
   refine Z18 <| Z9 <| Zb <| Z25 <| Zb <| Z1t mixed <| Z3 0 I (Zh I I) <| Z3 1 I (Zh I I) ?_
   have ⟨hg6, h⟩ := Zx h
   refine Z3 2 I (Z1s (k := .i64) (l := a0) (enc := Z10) (z := Z13) (n := v1) (full := false) I s94 I I hg6 I) <| Z3 3 I (st_loadIA I a165 I I I) <| Z3 4 I (Zh I I) <| Z3 5 I (Zh I I) ?_
   have ⟨hg7, h⟩ := Zx h
   refine Z3 6 I (Z1s (k := .i64) (l := a1) (enc := Z10) (z := Z13) (n := v1) (full := false) I s94 I I hg7 I) <| Z3 7 I (st_loadIA I a165 I I I) <| Z3 8 I (st_cmpA (xs := (Z10 (a0.getD v1.toNat Z13)).cells) (ys := (Z10 (a1.getD v1.toNat Z13)).cells) (b := (((a0.getD v1.toNat Z13).Id == (a1.getD v1.toNat Z13).Id) && (((a0.getD v1.toNat Z13).Kind == (a1.getD v1.toNat Z13).Kind) && (((a0.getD v1.toNat Z13).At == (a1.getD v1.toNat Z13).At) && (((a0.getD v1.toNat Z13).Service == (a1.getD v1.toNat Z13).Service) && (((a0.getD v1.toNat Z13).Target == (a1.getD v1.toNat Z13).Target) && (((a0.getD v1.toNat Z13).Version == (a1.getD v1.toNat Z13).Version) && true))))))) (c := (!(((a0.getD v1.toNat Z13).Id == (a1.getD v1.toNat Z13).Id) && (((a0.getD v1.toNat Z13).Kind == (a1.getD v1.toNat Z13).Kind) && (((a0.getD v1.toNat Z13).At == (a1.getD v1.toNat Z13).At) && (((a0.getD v1.toNat Z13).Service == (a1.getD v1.toNat Z13).Service) && (((a0.getD v1.toNat Z13).Target == (a1.getD v1.toNat Z13).Target) && (((a0.getD v1.toNat Z13).Version == (a1.getD v1.toNat Z13).Version) && true)))))))) I eq165 I I I I) <| Z21 (by kernel_rfl) I <| Z9 ?_
   have hif := Z2a h
   refine Z15 I (fun hc => ?_) (fun hc => ?_)
   ·have h := hif.1 hc
    refine Zb <| Z4 <| Z1 I (Zj (v := (.bool false)) I I) I <| Z8 <| Z9 <| Z1e <| At.overR <| Z1m ?_
    refine Z1m (At.overR ?_)
    refine Z1m ?_
    have h := Option.some.inj h
    subst h
    refine (hret _ ?_).1
    exact ⟨[(.bool false)], ⟨I, J0⟩, I, J0⟩
   have h := hif.2 hc
   refine Z18 <| At.end <| Z9 <| Z4 <| Z1 I (Zh I I) I <| Z1 I (Z1c (k := .i64) (b := 1) (c := (IntKind.i64.wrap (v1 + 1))) I I I I) I <| Z1 I (Zj I I) I <| Z8 ?_
   exact Z1d (IH2 _ (IntKind.i64.wrap (v1 + 1)) (Nat.lt_succ_self _) h) ⟨I, I, I, J0⟩ trivial
  have h := hif.2 hc
  refine Z29 <| At.thru ?_
  exact Z1d (J2 () h) J0 trivial
noncomputable def F9 (K : Nat) (a0 : Zy) (a1 : A2_Int) (a2 : Int) : Option (Bool) :=
 (F11 K).bind fun v2 =>
 if (!v2) = true then
 (F11 K).bind fun v4 =>
 some v4
 else
 (F12 K a0).bind fun v6 =>
 if (!v6) = true then
 (F11 K).bind fun v8 =>
 some v8
 else
 (F39 K a0).bind fun v10 =>
 if (0 : Int) ≤ 0 ∧ (0 : Int) < (2 : Nat) then
 if (0 : Int) ≤ 1 ∧ (1 : Int) < (2 : Nat) then
 (F40 K v10 (⟨(IntKind.i64.wrap ((IntKind.i64.wrap (([a1.e0, a1.e1] : List Int).getD (0 : Int).toNat 0)) - 1)), (IntKind.i64.wrap ((IntKind.i64.wrap (([a1.e0, a1.e1] : List Int).getD (1 : Int).toNat 0)) - 1))⟩ : Tapi_Interval) a2).bind fun v14 =>
 if (decide ((IntKind.i64.wrap ((IntKind.i64.wrap (([a1.e0, a1.e1] : List Int).getD (0 : Int).toNat 0)) - 1)) < 0)) = true then
 if ((v14.1.length : Int) == 0) = true then
 some (v14.2 == 32)
 else
 some false
 else
 if (decide ((IntKind.i64.wrap ((IntKind.i64.wrap (([a1.e0, a1.e1] : List Int).getD (0 : Int).toNat 0)) - 1)) ≥ (IntKind.i64.wrap ((IntKind.i64.wrap (([a1.e0, a1.e1] : List Int).getD (1 : Int).toNat 0)) - 1)))) = true then
 if ((v14.1.length : Int) == 0) = true then
 some (v14.2 == 32)
 else
 some false
 else
 if (decide (a2 < 1)) = true then
 if ((v14.1.length : Int) == 0) = true then
 some (v14.2 == 2)
 else
 some false
 else
 if (decide (a2 ≥ (IntKind.i64.wrap ((IntKind.i64.wrap ((IntKind.i64.wrap (([a1.e0, a1.e1] : List Int).getD (1 : Int).toNat 0)) - 1)) - (IntKind.i64.wrap ((IntKind.i64.wrap (([a1.e0, a1.e1] : List Int).getD (0 : Int).toNat 0)) - 1)))))) = true then
 if ((v14.1.length : Int) == 0) = true then
 some (v14.2 == 0)
 else
 some false
 else
 (F42 K v10 (IntKind.i64.wrap ((IntKind.i64.wrap (([a1.e0, a1.e1] : List Int).getD (0 : Int).toNat 0)) - 1)) (IntKind.i64.wrap ((IntKind.i64.wrap (([a1.e0, a1.e1] : List Int).getD (1 : Int).toNat 0)) - 1)) a2).bind fun v16 =>
 (F41 K v14.1 v16).bind fun v18 =>
 if v18 = true then
 some (v14.2 == 0)
 else
 some false
 else none
 else none
theorem F9_ok (K : Nat) (a0 : Zy) (a1 : A2_Int) (a2 : Int) (r : Bool) (h : F9 K a0 a1 a2 = some r) : ACall P 9 ⟨[(Z1a a0), (e_A2_Int a1), (.int .i64 a2)], [], (.bool r), [], []⟩ := by
 refine Z1r Tryz.func9 Tryz.results9 rfl Tryz.ntmps9 rfl rfl rfl ?_
 intro E Q hP hN hro hret
 obtain ⟨P', nt', w0, F0, p0, S0, β0, ro0⟩ := E
 simp only at hP hN
 subst hP hN
 dsimp only [argT]
 unfold F9 at h
 refine Zb <| Z4 <| Z1 I (st_box I I I I I) I <| Z1 I (st_box I I I I I) I <| Z1 I (Zj (v := (.bool false)) I I) I <| Z8 <| Z9 <| Zb <| Zb <| Z4 ?_
 have ⟨v2, hv2, h⟩ := Z1b h
 refine Z1 I (Z1h (ar := []) Tryz.call11 (F11_ok K v2 hv2) I I J0 I) I <| Z1 I (st_not I I) I <| Z1 I (Zh I I) I ?_
 have hif := Z2a h
 refine AOps.split (fun hc => ?_) (fun hc => ?_)
 ·have h := hif.1 hc
  refine Z1u I I I I I I I <| Z1u I I I I I I I <| Z1u I I I I I I I <| Z1 I (st_pickT (v := (.bool true)) I I I) I <| Z8 <| Z9 ?_
  refine Z15 (b := true) I (fun hc => ?_) (fun hc => ?_)
  rotate_left
  ·cases hc
  refine Zb <| Z4 ?_
  have ⟨v4, hv4, h⟩ := Z1b h
  refine Z1 I (Z1h (ar := []) Tryz.call11 (F11_ok K v4 hv4) I I J0 I) I <| Z1 I (Zj I I) I <| Z8 <| Z9 <| Z1e <| Z1m ?_
  have h := Option.some.inj h
  subst h
  refine (hret _ ?_).1
  exact ⟨[(.bool v4)], ⟨I, J0⟩, I, J0⟩
 have h := hif.2 hc
 refine Z11 I I I I (Z1l I a27 I I I I) I ?_
 have ⟨v6, hv6, h⟩ := Z1b h
 refine Z11 I I I I (Z1h (ar := [(Z1a a0)]) Tryz.call12 (F12_ok K a0 v6 hv6) I I ⟨I, J0⟩ I) I <| Z11 I I I I (st_not I I) I <| Z1 I (st_pickF I I I) I <| Z8 <| Z9 ?_
 have hif := Z2a h
 refine Z15 I (fun hc => ?_) (fun hc => ?_)
 ·have h := hif.1 hc
  refine Zb <| Z4 ?_
  have ⟨v8, hv8, h⟩ := Z1b h
  refine Z1 I (Z1h (ar := []) Tryz.call11 (F11_ok K v8 hv8) I I J0 I) I <| Z1 I (Zj I I) I <| Z8 <| Z9 <| Z1e <| Z1m ?_
  have h := Option.some.inj h
  subst h
  refine (hret _ ?_).1
  exact ⟨[(.bool v8)], ⟨I, J0⟩, I, J0⟩
 have h := hif.2 hc
 refine Z18 <| Z9 <| Zb <| Z4 <| Z1 I (Z1l I a27 I I I I) I ?_
 have ⟨v10, hv10, h⟩ := Z1b h
 refine Z1 I (st_callO (sz := 3) (es := (List.map Zp v10)) (ar := [(Z1a a0)]) (caps := []) Tryz.call39 ((F39_ok K a0 v10 hv10).sw 2 20) I I ⟨I, J0⟩ I) I <| Z1 I (Zj I I) I <| Z8 <| Z9 <| Zb <| Z4 <| AOps.ghost (st' := ⟨[(2, (.int .i64 a2)), (4, (.ip (e_A2_Int a1).cells)), (7, (.vs 20))], [(20, (.vec 3 (List.map Zp v10)))]⟩) (fun a w h => (Z17 _ (ghost_freezeB (m := 4) (cs := (e_A2_Int a1).cells) I a w (Z17 ⟨[(2, (.int .i64 a2)), (4, (.ptr 4 0)), (7, (.vs 20))], [(4, (.box (e_A2_Int a1).cells)), (20, (.vec 3 (List.map Zp v10)))]⟩ h ⟨I, I, I, J0⟩ ⟨I, I, J0⟩)) ⟨I, I, I, J0⟩ ⟨I, J0⟩)) ?_
 have ⟨hg11, h⟩ := Zx h
 refine Z1 I (st_indexIL (k := .i64) (j := (0 : Int)) (l := [a1.e0, a1.e1]) (enc := e_u8) (z := 0) (ds := [(.int .u8 (([a1.e0, a1.e1] : List Int).getD (0 : Int).toNat 0))]) I u92 sz5 I I I I els_u8 hg11 I) I <| Z1 I (st_loadI I o5 I I) I <| Z1 I (st_conv I us5 u3 I) I <| Z1 I (Z1c (k := .i64) (b := 1) (c := (IntKind.i64.wrap ((IntKind.i64.wrap (([a1.e0, a1.e1] : List Int).getD (0 : Int).toNat 0)) - 1))) I I I I) I ?_
 have ⟨hg12, h⟩ := Zx h
 refine Z1 I (st_indexIL (k := .i64) (j := (1 : Int)) (l := [a1.e0, a1.e1]) (enc := e_u8) (z := 0) (ds := [(.int .u8 (([a1.e0, a1.e1] : List Int).getD (1 : Int).toNat 0))]) I u92 sz5 I I I I els_u8 hg12 I) I <| Z1 I (st_loadI I o5 I I) I <| Z1 I (st_conv I us5 u3 I) I <| Z1 I (Z1c (k := .i64) (b := 1) (c := (IntKind.i64.wrap ((IntKind.i64.wrap (([a1.e0, a1.e1] : List Int).getD (1 : Int).toNat 0)) - 1))) I I I I) I <| Z1 I (stx_build (vs := [(0, (.int .i64 (IntKind.i64.wrap ((IntKind.i64.wrap (([a1.e0, a1.e1] : List Int).getD (0 : Int).toNat 0)) - 1)))), (1, (.int .i64 (IntKind.i64.wrap ((IntKind.i64.wrap (([a1.e0, a1.e1] : List Int).getD (1 : Int).toNat 0)) - 1))))]) I st35 ⟨I, I, I, I, J0⟩ I) I <| Z1 I (Z1z I z35 I I I) I <| Z1 I (Z19 sz35 I I I I I I I I) I <| Z8 <| Z9 <| Zb <| Z4 <| Z1 I (Zh I I) I <| Z1 I (Z1l I a35 I I I I) I <| Z1 I (Zh I I) I <| AOps.ghost (st' := ⟨[(2, (.int .i64 a2)), (7, (.sl 3 (v10.map Zp) false)), (8, (.ptr 8 0)), (31, (.sl 3 (v10.map Zp) false)), (32, (.ag [(.int .i64 (IntKind.i64.wrap ((IntKind.i64.wrap (([a1.e0, a1.e1] : List Int).getD (0 : Int).toNat 0)) - 1))), (.int .i64 (IntKind.i64.wrap ((IntKind.i64.wrap (([a1.e0, a1.e1] : List Int).getD (1 : Int).toNat 0)) - 1)))])), (33, (.int .i64 a2))], [(8, (.box [(.int .i64 (IntKind.i64.wrap ((IntKind.i64.wrap (([a1.e0, a1.e1] : List Int).getD (0 : Int).toNat 0)) - 1))), (.int .i64 (IntKind.i64.wrap ((IntKind.i64.wrap (([a1.e0, a1.e1] : List Int).getD (1 : Int).toNat 0)) - 1)))]))]⟩) (fun a w h => (Z17 _ (ghost_freeze (m := 20) (sz := 3) (es := (List.map Zp v10)) a w (Z17 ⟨[(2, (.int .i64 a2)), (7, (.vs 20)), (8, (.ptr 8 0)), (31, (.vs 20)), (32, (.ag [(.int .i64 (IntKind.i64.wrap ((IntKind.i64.wrap (([a1.e0, a1.e1] : List Int).getD (0 : Int).toNat 0)) - 1))), (.int .i64 (IntKind.i64.wrap ((IntKind.i64.wrap (([a1.e0, a1.e1] : List Int).getD (1 : Int).toNat 0)) - 1)))])), (33, (.int .i64 a2))], [(20, (.vec 3 (List.map Zp v10))), (8, (.box [(.int .i64 (IntKind.i64.wrap ((IntKind.i64.wrap (([a1.e0, a1.e1] : List Int).getD (0 : Int).toNat 0)) - 1))), (.int .i64 (IntKind.i64.wrap ((IntKind.i64.wrap (([a1.e0, a1.e1] : List Int).getD (1 : Int).toNat 0)) - 1)))]))]⟩ h ⟨I, I, I, I, I, I, J0⟩ ⟨I, I, J0⟩)) ⟨I, I, I, I, I, I, J0⟩ ⟨I, J0⟩)) ?_
 have ⟨v14, hv14, h⟩ := Z1b h
 refine Z1 I (Z1h (ar := [(.sl 3 (v10.map Zp) false), (.ag [(.int .i64 (IntKind.i64.wrap ((IntKind.i64.wrap (([a1.e0, a1.e1] : List Int).getD (0 : Int).toNat 0)) - 1))), (.int .i64 (IntKind.i64.wrap ((IntKind.i64.wrap (([a1.e0, a1.e1] : List Int).getD (1 : Int).toNat 0)) - 1)))]), (.int .i64 a2)]) Tryz.call40 (F40_ok K v10 (⟨(IntKind.i64.wrap ((IntKind.i64.wrap (([a1.e0, a1.e1] : List Int).getD (0 : Int).toNat 0)) - 1)), (IntKind.i64.wrap ((IntKind.i64.wrap (([a1.e0, a1.e1] : List Int).getD (1 : Int).toNat 0)) - 1))⟩ : Tapi_Interval) a2 v14 hv14) I I ⟨I, I, I, J0⟩ I) I <| Z1 I (Zh I I) I <| Z1 I (st_extract I I I) I <| Z1 I (st_extract I I I) I <| Z1 I (Zj I I) I <| Z1 I (Zj I I) I <| Z8 <| Z9 <| Zb <| Zb <| Z4 <| Z1 I (Zn I f35_0 I I) I <| Z1 I (Zs I o3 I I I) I <| Z1 I (Z1y (b := 0) (c := (decide ((IntKind.i64.wrap ((IntKind.i64.wrap (([a1.e0, a1.e1] : List Int).getD (0 : Int).toNat 0)) - 1)) < 0))) I I I I) I <| Z1 I (Zh I I) I ?_
 have hif := Z2a h
 refine AOps.split (fun hc => ?_) (fun hc => ?_)
 ·have h := hif.1 hc
  iterate 5 refine Z1u I I I I I I I ?_
  refine Z1 I (st_pickT (v := (.bool true)) I I I) I <| Z8 <| Z9 ?_
  refine Z15 (b := true) I (fun hc => ?_) (fun hc => ?_)
  rotate_left
  ·cases hc
  refine Zb <| Z4 <| Z1 I (Zh I I) I <| Z1 I (stx_len (l := v14.1) (enc := Z10) I s94 I) I <| Z1 I (Z1y (b := 0) (c := ((v14.1.length : Int) == 0)) I I I I) I <| Z1 I (Zh I I) I ?_
  have hif := Z2a h
  refine AOps.split (fun hc => ?_) (fun hc => ?_)
  ·have h := hif.1 hc
   refine Z11 I I I I (Zh I I) I <| Z11 I I I I (Z1y (b := 32) (c := (v14.2 == 32)) I I I I) I <| Z1 I (st_pickT I I I) I <| Z1 I (Zj I I) I <| Z8 <| Z9 <| Z1e <| Z1m ?_
   have h := Option.some.inj h
   subst h
   refine (hret _ ?_).1
   exact ⟨[(.bool (v14.2 == 32))], ⟨I, J0⟩, I, J0⟩
  have h := hif.2 hc
  refine Z1u I I I I I I I <| Z1u I I I I I I I <| Z1 I (st_pickF (v := (.bool false)) I I I) I <| Z1 I (Zj (v := (.bool false)) I I) I <| Z8 <| Z9 <| Z1e <| Z1m ?_
  have h := Option.some.inj h
  subst h
  refine (hret _ ?_).1
  exact ⟨[(.bool false)], ⟨I, J0⟩, I, J0⟩
 have h := hif.2 hc
 refine Z11 I I I I (Zn I f35_0 I I) I <| Z11 I I I I (Zs I o3 I I I) I <| Z11 I I I I (Zn I f35_1 I I) I <| Z11 I I I I (Zs I o3 I I I) I <| Z11 I I I I (Z1y (c := (decide ((IntKind.i64.wrap ((IntKind.i64.wrap (([a1.e0, a1.e1] : List Int).getD (0 : Int).toNat 0)) - 1)) ≥ (IntKind.i64.wrap ((IntKind.i64.wrap (([a1.e0, a1.e1] : List Int).getD (1 : Int).toNat 0)) - 1))))) I I I I) I <| Z1 I (st_pickF I I I) I <| Z8 <| Z9 ?_
 have hif := Z2a h
 refine Z15 I (fun hc => ?_) (fun hc => ?_)
 ·have h := hif.1 hc
  refine Zb <| Z4 <| Z1 I (Zh I I) I <| Z1 I (stx_len (l := v14.1) (enc := Z10) I s94 I) I <| Z1 I (Z1y (b := 0) (c := ((v14.1.length : Int) == 0)) I I I I) I <| Z1 I (Zh I I) I ?_
  have hif := Z2a h
  refine AOps.split (fun hc => ?_) (fun hc => ?_)
  ·have h := hif.1 hc
   refine Z11 I I I I (Zh I I) I <| Z11 I I I I (Z1y (b := 32) (c := (v14.2 == 32)) I I I I) I <| Z1 I (st_pickT I I I) I <| Z1 I (Zj I I) I <| Z8 <| Z9 <| Z1e <| Z1m ?_
   have h := Option.some.inj h
   subst h
   refine (hret _ ?_).1
   exact ⟨[(.bool (v14.2 == 32))], ⟨I, J0⟩, I, J0⟩
  have h := hif.2 hc
  refine Z1u I I I I I I I <| Z1u I I I I I I I <| Z1 I (st_pickF (v := (.bool false)) I I I) I <| Z1 I (Zj (v := (.bool false)) I I) I <| Z8 <| Z9 <| Z1e <| Z1m ?_
  have h := Option.some.inj h
  subst h
  refine (hret _ ?_).1
  exact ⟨[(.bool false)], ⟨I, J0⟩, I, J0⟩
 have h := hif.2 hc
 refine Z18 <| Z9 <| Zb <| Zb <| Z4 <| Z1 I (Zh I I) I <| Z1 I (Z1y (b := 1) (c := (decide (a2 < 1))) I I I I) I <| Z8 <| Z9 ?_
 have hif := Z2a h
 refine Z15 I (fun hc => ?_) (fun hc => ?_)
 ·have h := hif.1 hc
  refine Zb <| Z4 <| Z1 I (Zh I I) I <| Z1 I (stx_len (l := v14.1) (enc := Z10) I s94 I) I <| Z1 I (Z1y (b := 0) (c := ((v14.1.length : Int) == 0)) I I I I) I <| Z1 I (Zh I I) I ?_
  have hif := Z2a h
  refine AOps.split (fun hc => ?_) (fun hc => ?_)
  ·have h := hif.1 hc
   refine Z11 I I I I (Zh I I) I <| Z11 I I I I (Z1y (b := 2) (c := (v14.2 == 2)) I I I I) I <| Z1 I (st_pickT I I I) I <| Z1 I (Zj I I) I <| Z8 <| Z9 <| Z1e <| Z1m ?_
   have h := Option.some.inj h
   subst h
   refine (hret _ ?_).1
   exact ⟨[(.bool (v14.2 == 2))], ⟨I, J0⟩, I, J0⟩
  have h := hif.2 hc
  refine Z1u I I I I I I I <| Z1u I I I I I I I <| Z1 I (st_pickF (v := (.bool false)) I I I) I <| Z1 I (Zj (v := (.bool false)) I I) I <| Z8 <| Z9 <| Z1e <| Z1m ?_
  have h := Option.some.inj h
  subst h
  refine (hret _ ?_).1
  exact ⟨[(.bool false)], ⟨I, J0⟩, I, J0⟩
 have h := hif.2 hc
 refine Z18 <| Z9 <| Zb <| Zb <| Z4 <| Z1 I (Zh I I) I <| Z1 I (Zn I f35_1 I I) I <| Z1 I (Zs I o3 I I I) I <| Z1 I (Zn I f35_0 I I) I <| Z1 I (Zs I o3 I I I) I <| Z1 I (Z1c (k := .i64) (c := (IntKind.i64.wrap ((IntKind.i64.wrap ((IntKind.i64.wrap (([a1.e0, a1.e1] : List Int).getD (1 : Int).toNat 0)) - 1)) - (IntKind.i64.wrap ((IntKind.i64.wrap (([a1.e0, a1.e1] : List Int).getD (0 : Int).toNat 0)) - 1))))) I I I I) I <| Z1 I (Z1y (c := (decide (a2 ≥ (IntKind.i64.wrap ((IntKind.i64.wrap ((IntKind.i64.wrap (([a1.e0, a1.e1] : List Int).getD (1 : Int).toNat 0)) - 1)) - (IntKind.i64.wrap ((IntKind.i64.wrap (([a1.e0, a1.e1] : List Int).getD (0 : Int).toNat 0)) - 1))))))) I I I I) I <| Z8 <| Z9 ?_
 have hif := Z2a h
 refine Z15 I (fun hc => ?_) (fun hc => ?_)
 ·have h := hif.1 hc
  refine Zb <| Z4 <| Z1 I (Zh I I) I <| Z1 I (stx_len (l := v14.1) (enc := Z10) I s94 I) I <| Z1 I (Z1y (b := 0) (c := ((v14.1.length : Int) == 0)) I I I I) I <| Z1 I (Zh I I) I ?_
  have hif := Z2a h
  refine AOps.split (fun hc => ?_) (fun hc => ?_)
  ·have h := hif.1 hc
   refine Z11 I I I I (Zh I I) I <| Z11 I I I I (Z1y (b := 0) (c := (v14.2 == 0)) I I I I) I <| Z1 I (st_pickT I I I) I <| Z1 I (Zj I I) I <| Z8 <| Z9 <| Z1e <| Z1m ?_
   have h := Option.some.inj h
   subst h
   refine (hret _ ?_).1
   exact ⟨[(.bool (v14.2 == 0))], ⟨I, J0⟩, I, J0⟩
  have h := hif.2 hc
  refine Z1u I I I I I I I <| Z1u I I I I I I I <| Z1 I (st_pickF (v := (.bool false)) I I I) I <| Z1 I (Zj (v := (.bool false)) I I) I <| Z8 <| Z9 <| Z1e <| Z1m ?_
  have h := Option.some.inj h
  subst h
  refine (hret _ ?_).1
  exact ⟨[(.bool false)], ⟨I, J0⟩, I, J0⟩
 have h := hif.2 hc
 refine Z18 <| Z9 <| Zb <| Z4 <| Z1 I (Zh I I) I <| Z1 I (Zh I I) I <| Z1 I (Zn I f35_0 I I) I <| Z1 I (Zs I o3 I I I) I <| Z1 I (Zn I f35_1 I I) I <| Z1 I (Zs I o3 I I I) I <| Z1 I (Zh I I) I ?_
 have ⟨v16, hv16, h⟩ := Z1b h
 refine Z1 I (Z1h (ar := [(.sl 3 (v10.map Zp) false), (.int .i64 (IntKind.i64.wrap ((IntKind.i64.wrap (([a1.e0, a1.e1] : List Int).getD (0 : Int).toNat 0)) - 1))), (.int .i64 (IntKind.i64.wrap ((IntKind.i64.wrap (([a1.e0, a1.e1] : List Int).getD (1 : Int).toNat 0)) - 1))), (.int .i64 a2)]) Tryz.call42 (F42_ok K v10 (IntKind.i64.wrap ((IntKind.i64.wrap (([a1.e0, a1.e1] : List Int).getD (0 : Int).toNat 0)) - 1)) (IntKind.i64.wrap ((IntKind.i64.wrap (([a1.e0, a1.e1] : List Int).getD (1 : Int).toNat 0)) - 1)) a2 v16 hv16) I I ⟨I, I, I, I, J0⟩ I) I ?_
 have ⟨v18, hv18, h⟩ := Z1b h
 refine Z1 I (Z1h (ar := [(.sl 6 (v14.1.map Z10) false), (.sl 6 (v16.map Z10) false)]) Tryz.call41 (F41_ok K v14.1 v16 v18 hv18) I I ⟨I, I, J0⟩ I) I <| Z1 I (Zh I I) I ?_
 have hif := Z2a h
 refine AOps.split (fun hc => ?_) (fun hc => ?_)
 ·have h := hif.1 hc
  refine Z11 I I I I (Zh I I) I <| Z11 I I I I (Z1y (b := 0) (c := (v14.2 == 0)) I I I I) I <| Z1 I (st_pickT I I I) I <| Z1 I (Zj I I) I <| Z8 <| Z9 <| Z1e ?_
  have h := Option.some.inj h
  subst h
  refine (hret _ ?_).1
  exact ⟨[(.bool (v14.2 == 0))], ⟨I, J0⟩, I, J0⟩
 have h := hif.2 hc
 refine Z1u I I I I I I I <| Z1u I I I I I I I <| Z1 I (st_pickF (v := (.bool false)) I I I) I <| Z1 I (Zj (v := (.bool false)) I I) I <| Z8 <| Z9 <| Z1e ?_
 have h := Option.some.inj h
 subst h
 refine (hret _ ?_).1
 exact ⟨[(.bool false)], ⟨I, J0⟩, I, J0⟩
end Go.AM.TopZ
