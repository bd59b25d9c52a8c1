/- What these functions compute, each with its walk: F17, F19, F11, F12, F82, F153, F122, F154, F123, F124. -/
import Derived.Test.YtkhbjnkckblkjaaGreatTopZT
import Derived.Test.YtkhbjnkckblkjaaGreatTopZG0
namespace Go.AM.TopZ
open Go Go.AM Go.Proofs
set_option maxRecDepth 100000
set_option maxHeartbeats 2000000
noncomputable def F17_c13 (K : Nat) (v10 : Bool) (v11 : (List (Str × Zc))) (v12 : (List (Zu × Zl))) : Option (Int × Zd) :=
 (F52 K v10 v11 v12).bind fun v16 =>
 some (v16.1, v16.2)
def F17_c36 (_K : Nat) (b17 : Int → Bool → (List (Str × Zc)) → (List (Zu × Zl)) → Option (Int × Zd)) (v5 : Int) (v33 : Bool) (v34 : (List (Str × Zc))) (v35 : (List (Zu × Zl))) : Option (Int × Zd) :=
 b17 (IntKind.i64.wrap (v5 + 1)) v33 v34 v35
def F17_j42 (_K : Nat) (b38 : Int → Bool → (List (Str × Zc)) → (List (Zu × Zl)) → Option (Int × Zd)) (v28 : Int) (v39 : Bool) (v40 : (List (Str × Zc))) (v41 : (List (Zu × Zl))) : Option (Int × Zd) :=
 b38 (IntKind.i64.wrap (v28 + 1)) v39 v40 v41
def F17_j52 (K : Nat) (b38 : Int → Bool → (List (Str × Zc)) → (List (Zu × Zl)) → Option (Int × Zd)) (v28 : Int) (v49 : Bool × (List (Str × Zc))) (v50 : Bool) (v51 : (List (Zu × Zl))) : Option (Int × Zd) :=
 F17_j42 K b38 v28 v50 v49.2 v51
def F17_l32 (K : Nat) (v21 : (List Zg)) (a0 : (List Zo)) (v5 : Int) (v25 : (List (Int × Zg))) (c37 : Bool → (List (Str × Zc)) → (List (Zu × Zl)) → Option (Int × Zd)) : Nat → Int → Bool → (List (Str × Zc)) → (List (Zu × Zl)) → Option (Int × Zd)
 | 0, _, _, _, _ => none
 | k32 + 1, v28, v29, v30, v31 =>
 if (decide (v28 < (v21.length : Int))) = true then
 if (0 : Int) ≤ v28 ∧ v28 < v21.length then
 (F49 K (v21.getD v28.toNat Z2).Error (a0.getD v5.toNat Zq).Weight).bind fun v45 =>
 (F49 K ((v21.getD v28.toNat Z2).Parent == 0) (a0.getD v5.toNat Zq).Weight).bind fun v47 =>
 (F48 K (⟨(v21.getD v28.toNat Z2).Service, (a0.getD v5.toNat Zq).Weight, v45, v47⟩ : Zc) v29 v30 v31).bind fun v49 =>
 if (mget q_i64 (v21.getD v28.toNat Z2).Parent v25).isSome = true then
 if (!(((mget q_i64 (v21.getD v28.toNat Z2).Parent v25).getD Z2).Service == (v21.getD v28.toNat Z2).Service)) = true then
 (F49 K (v21.getD v28.toNat Z2).Error (a0.getD v5.toNat Zq).Weight).bind fun v54 =>
 (F51 K (v21.getD v28.toNat Z2)).bind fun v56 =>
 (F50 K (⟨((mget q_i64 (v21.getD v28.toNat Z2).Parent v25).getD Z2).Service, (v21.getD v28.toNat Z2).Service, (a0.getD v5.toNat Zq).Weight, v54, (IntKind.i64.wrap (v56 * (a0.getD v5.toNat Zq).Weight))⟩ : Zl) v49.1 v49.2 v31).bind fun v58 =>
 F17_j52 K (F17_l32 K v21 a0 v5 v25 c37 k32) v28 v49 v58.1 v58.2
 else
 F17_j52 K (F17_l32 K v21 a0 v5 v25 c37 k32) v28 v49 v49.1 v31
 else
 F17_j42 K (F17_l32 K v21 a0 v5 v25 c37 k32) v28 v49.1 v49.2 v31
 else none
 else
 c37 v29 v30 v31
def F17_c26 (K : Nat) (v21 : (List Zg)) (a0 : (List Zo)) (v5 : Int) (b17 : Int → Bool → (List (Str × Zc)) → (List (Zu × Zl)) → Option (Int × Zd)) (v6 : Bool) (v7 : (List (Str × Zc))) (v8 : (List (Zu × Zl))) (v25 : (List (Int × Zg))) : Option (Int × Zd) :=
 F17_l32 K v21 a0 v5 v25 (F17_c36 K b17 v5) K 0 v6 v7 v8
def F17_l24 (K : Nat) (v21 : (List Zg)) (c27 : (List (Int × Zg)) → Option (Int × Zd)) : Nat → Int → (List (Int × Zg)) → Option (Int × Zd)
 | 0, _, _ => none
 | k24 + 1, v22, v23 =>
 if (decide (v22 < (v21.length : Int))) = true then
 if (0 : Int) ≤ v22 ∧ v22 < v21.length then
 (F17_l24 K v21 c27 k24) (IntKind.i64.wrap (v22 + 1)) (mput q_i64 (v21.getD v22.toNat Z2).Id (v21.getD v22.toNat Z2) v23)
 else none
 else
 c27 v23
def F17_l9 (K : Nat) (a0 : (List Zo)) (c14 : Bool → (List (Str × Zc)) → (List (Zu × Zl)) → Option (Int × Zd)) : Nat → Int → Bool → (List (Str × Zc)) → (List (Zu × Zl)) → Option (Int × Zd)
 | 0, _, _, _, _ => none
 | k9 + 1, v5, v6, v7, v8 =>
 if (decide (v5 < (a0.length : Int))) = true then
 if (0 : Int) ≤ v5 ∧ v5 < (a0.length : Nat) then
 if v5.toNat < a0.length then
 (F47 K (a0.getD v5.toNat Zq).Spans).bind fun v21 =>
 F17_l24 K v21 (F17_c26 K v21 a0 v5 (F17_l9 K a0 c14 k9) v6 v7 v8) K 0 ([] : List (Int × Zg))
 else none
 else none
 else
 c14 v6 v7 v8
noncomputable def F17 (K : Nat) (a0 : (List Zo)) : Option (Int × Zd) :=
 (F46 K).bind fun _v4 =>
 F17_l9 K a0 (F17_c13 K) K 0 false ([] : List (Str × Zc)) ([] : List (Zu × Zl))
theorem F17_ok (K : Nat) (a0 : (List Zo)) (r : Int × Zd) (h : F17 K a0 = some r) : ACall P 17 ⟨[(.vs 2000)], [(2000, (.vec 3 (List.map Zp a0)))], (.tup [(Zm r.2), (.int .i64 r.1)]), [(2000, (.vec 3 (List.map Zp a0)))], []⟩ := by
 refine Z1r Tryz.func17 Tryz.results17 rfl Tryz.ntmps17 rfl rfl rfl ?_
 intro E Q hP hN hro hret
 obtain ⟨P', nt', w0, F0, p0, S0, β0, ro0⟩ := E
 simp only at hP hN
 subst hP hN
 dsimp only [argT]
 unfold F17 at h
 refine Zb <| Z4 <| Z1 I (Z1z I z44 I I I) I <| Z1 I (Zj (v := (.int .i64 0)) I I) I <| Z8 <| Z9 <| Zb <| Z4 ?_
 have ⟨v4, hv4, h⟩ := Z1b h
 refine Z1 I (st_call (d := some 16) (c := ⟨[] ++ [], [], (.ptr 96 0), [(16, (.map (Zz e_str Z6 ([] : List (Str × Zc))))), (97, (.map (Zz Zt Ze ([] : List (Zu × Zl))))), (96, (.box [(.map 16), (.map 97), (.bool false)]))], [16, 97, 96]⟩) (ar := []) (caps := []) (news := [16, 97, 96]) (forg := []) Tryz.call46 ((((F46_ok K v4 hv4).sw 1 16).sw 2 97).sw 4 96) I I J0 I J0 I) I <| Z1 I (Zj I I) I <| Z8 <| Z9 <| Zb <| Zb <| Z4 <| Z1 I (Zh I I) I <| Z1 I (stx_lenV I u31 I I) I <| Z1 I (Zh (v := (.int .i64 0)) I I) I <| Z8 <| Z9 <| Z1v (st' := ⟨[(2, (.ptr 2 0)), (4, (.ptr 96 0)), (17, (.vs 2000)), (18, (.int .i64 (a0.length : Int))), (19, (.int .i64 0))], [(2, (.box [(.sl 4 [] false), (.sl 5 [] false)])), (16, (.map (Zz e_str Z6 ([] : List (Str × Zc))))), (96, (.box [(.map 16), (.map 97), (.bool false)])), (97, (.map (Zz Zt Ze ([] : List (Zu × Zl))))), (2000, (.vec 3 (List.map Zp a0)))]⟩) ⟨I, I, I, I, I, J0⟩ ⟨I, I, I, I, I, J0⟩ ?_
 refine Z1g (V := Int × Bool × (List (Str × Zc)) × (List (Zu × Zl))) (X := Bool × (List (Str × Zc)) × (List (Zu × Zl))) (lp := fun k v => F17_l9 K a0 (F17_c13 K) k v.1 v.2.1 v.2.2.1 v.2.2.2 = some r) (sh := fun v => ⟨[(2, (.ptr 2 0)), (4, (.ptr 96 0)), (17, (.vs 2000)), (18, (.int .i64 (a0.length : Int))), (19, (.int .i64 v.1))], [(2, (.box [(.sl 4 [] false), (.sl 5 [] false)])), (16, (.map (Zz e_str Z6 v.2.2.1))), (96, (.box [(.map 16), (.map 97), (.bool v.2.1)])), (97, (.map (Zz Zt Ze v.2.2.2))), (2000, (.vec 3 (List.map Zp a0)))]⟩) (x := fun v => F17_c13 K v.1 v.2.1 v.2.2 = some r) (shx := fun v => ⟨[(2, (.ptr 2 0)), (4, (.ptr 96 0))], [(2, (.box [(.sl 4 [] false), (.sl 5 [] false)])), (16, (.map (Zz e_str Z6 v.2.1))), (96, (.box [(.map 16), (.map 97), (.bool v.1)])), (97, (.map (Zz Zt Ze v.2.2))), (2000, (.vec 3 (List.map Zp a0)))]⟩) (k := K) (v := (0, false, ([] : List (Str × Zc)), ([] : List (Zu × Zl)))) h ?_ ?_
 ·intro v h
  obtain ⟨v10, v11, v12⟩ := v
  try dsimp only at h ⊢
  unfold F17_c13 at h
  refine Z9 <| Zb <| Z4 <| Z1 I (Zh I I) I ?_
  have ⟨v16, hv16, h⟩ := Z1b h
  refine Z1 I (st_call (d := some 95) (c := ⟨[(.ptr 96 0)] ++ [], [(96, (.box [(.map 16), (.map 97), (.bool v10)])), (16, (.map (Zz e_str Z6 v11))), (97, (.map (Zz Zt Ze v12)))], (.tup [(Zm v16.2), (.int .i64 v16.1)]), [(96, (.box [(.map 16), (.map 97), (.bool v10)])), (16, (.fmap (Zz e_str Z6 v11))), (97, (.fmap (Zz Zt Ze v12)))], [16, 97]⟩) (ar := [(.ptr 96 0)]) (caps := []) (news := []) (forg := [16, 97]) Tryz.call52 ((((F52_ok K v10 v11 v12 v16 hv16).sw 2000 96).sw 59 16).sw 57 97) I I ⟨I, J0⟩ I ⟨I, I, I, J0⟩ I) I <| Z1 I (st_extract I I I) I <| Z1 I (st_extract I I I) I <| Z1 I (Z19 sz44 I I I I I I I I) I <| Z1 I (Zj I I) I <| Z8 <| Z9 <| Z1e ?_
  have h := Option.some.inj h
  subst h
  refine (hret _ ?_).1
  exact ⟨[(Zm v16.2), (.int .i64 v16.1)], ⟨⟨2, _, I, I, .inr ⟨_, a44, I, I⟩⟩, I, J0⟩, I, ⟨I, J0⟩⟩
 intro N k9 v h IH9 J9
 obtain ⟨v5, v6, v7, v8⟩ := v
 try dsimp only at h IH9 J9 ⊢
 cases k9 with
 | zero => cases h
 | succ k9 =>
  rw [F17_l9] at h
  refine Zb <| Z4 <| Z1 I (Z1y (c := (decide (v5 < (a0.length : Int)))) I I I I) I <| Z8 <| Z9 <| Zb ?_
  have hif := Z2a h
  refine Z15 I (fun hc => ?_) (fun hc => ?_)
  ·have h := hif.1 hc
   refine Z18 <| Z9 <| Zb <| Z25 <| Zb <| Z4 ?_
   have ⟨hg18, h⟩ := Zx h
   refine Z1 I (st_indexV (k := .i64) (v := (.vs 2000)) (n := 2000) (off := 0) (len := a0.length) (es := (List.map Zp a0)) (j := v5) (m := v5.toNat) I s31 I I (vecR_map _ _ _) I hg18 (Nat.zero_add _)) I ?_
   have ⟨hg19, h⟩ := Zx h
   refine Z1 I (st_loadVA (l := a0) (enc := Zp) (z := Zq) (vs := (Zp (a0.getD v5.toNat Zq)).cells) I a39 I I hg19 I I) I <| Z1 I (Z1z I z39 I I I) I <| Z1 I (Z19 sz39 I I I I I I I I) I <| Z8 <| Z9 <| Zb <| Z4 <| Z1 I (Zn I f39_2 I I) I <| Z1 I (Zs I o37 I I I) I ?_
   have ⟨v21, hv21, h⟩ := Z1b h
   refine Z1 I (Z1h (ar := [(.sl 14 ((a0.getD v5.toNat Zq).Spans.map Zf) false)]) Tryz.call47 (F47_ok K (a0.getD v5.toNat Zq).Spans v21 hv21) I I ⟨I, J0⟩ I) I <| Z1 I (Zj I I) I <| Z8 <| Z9 <| Zb <| Z4 <| Z1 I (st_makeMap I) I <| Z1 I (Zj I I) I <| Z8 <| Z9 <| Zb <| Zb <| Z4 <| Z1 I (Zh I I) I <| Z1 I (stx_len (l := v21) (enc := Zf) I s37 I) I <| Z1 I (Zh (v := (.int .i64 0)) I I) I <| Z8 <| Z9 <| Z1v (st' := ⟨[(2, (.ptr 2 0)), (4, (.ptr 96 0)), (6, (.ptr 6 0)), (7, (.sl 14 (v21.map Zf) false)), (8, (.map 26)), (17, (.vs 2000)), (18, (.int .i64 (a0.length : Int))), (19, (.int .i64 v5)), (27, (.sl 14 (v21.map Zf) false)), (28, (.int .i64 (v21.length : Int))), (29, (.int .i64 0))], [(2, (.box [(.sl 4 [] false), (.sl 5 [] false)])), (6, (.box (Zp (a0.getD v5.toNat Zq)).cells)), (16, (.map (Zz e_str Z6 v7))), (26, (.map (Zz Z1f Zf ([] : List (Int × Zg))))), (96, (.box [(.map 16), (.map 97), (.bool v6)])), (97, (.map (Zz Zt Ze v8))), (2000, (.vec 3 (List.map Zp a0)))]⟩) ⟨I, I, I, I, I, I, I, I, I, I, I, J0⟩ ⟨I, I, I, I, I, I, I, J0⟩ ?_
   refine Z1g (V := Int × (List (Int × Zg))) (X := (List (Int × Zg))) (lp := fun k v => F17_l24 K v21 (F17_c26 K v21 a0 v5 (F17_l9 K a0 (F17_c13 K) k9) v6 v7 v8) k v.1 v.2 = some r) (sh := fun v => ⟨[(2, (.ptr 2 0)), (4, (.ptr 96 0)), (6, (.ptr 6 0)), (7, (.sl 14 (v21.map Zf) false)), (8, (.map 26)), (17, (.vs 2000)), (18, (.int .i64 (a0.length : Int))), (19, (.int .i64 v5)), (27, (.sl 14 (v21.map Zf) false)), (28, (.int .i64 (v21.length : Int))), (29, (.int .i64 v.1))], [(2, (.box [(.sl 4 [] false), (.sl 5 [] false)])), (6, (.box (Zp (a0.getD v5.toNat Zq)).cells)), (16, (.map (Zz e_str Z6 v7))), (26, (.map (Zz Z1f Zf v.2))), (96, (.box [(.map 16), (.map 97), (.bool v6)])), (97, (.map (Zz Zt Ze v8))), (2000, (.vec 3 (List.map Zp a0)))]⟩) (x := fun v => F17_c26 K v21 a0 v5 (F17_l9 K a0 (F17_c13 K) k9) v6 v7 v8 v = some r) (shx := fun v => ⟨[(2, (.ptr 2 0)), (4, (.ptr 96 0)), (6, (.ptr 6 0)), (7, (.sl 14 (v21.map Zf) false)), (8, (.map 26)), (17, (.vs 2000)), (18, (.int .i64 (a0.length : Int))), (19, (.int .i64 v5))], [(2, (.box [(.sl 4 [] false), (.sl 5 [] false)])), (6, (.box (Zp (a0.getD v5.toNat Zq)).cells)), (16, (.map (Zz e_str Z6 v7))), (26, (.map (Zz Z1f Zf v))), (96, (.box [(.map 16), (.map 97), (.bool v6)])), (97, (.map (Zz Zt Ze v8))), (2000, (.vec 3 (List.map Zp a0)))]⟩) (k := K) (v := (0, ([] : List (Int × Zg)))) h ?_ ?_
   ·intro v h
    revert h
    revert v
    intro v25 h
    try dsimp only at h ⊢
    unfold F17_c26 at h
    refine Z9 <| Zb <| Z4 <| Z1 I (Zn I f39_1 I I) I <| Z1 I (Zs I o3 I I I) I <| Z1 I (Zj I I) I <| Z8 <| Z9 <| Zb <| Z4 <| Z1 I (Zh I I) I <| Z1 I (stx_len (l := v21) (enc := Zf) I s37 I) I <| Z1 I (Zh (v := (.int .i64 0)) I I) I <| Z8 <| Z9 <| Z1v (st' := ⟨[(2, (.ptr 2 0)), (4, (.ptr 96 0)), (8, (.map 26)), (11, (.int .i64 (a0.getD v5.toNat Zq).Weight)), (17, (.vs 2000)), (18, (.int .i64 (a0.length : Int))), (19, (.int .i64 v5)), (40, (.sl 14 (v21.map Zf) false)), (41, (.int .i64 (v21.length : Int))), (42, (.int .i64 0))], [(2, (.box [(.sl 4 [] false), (.sl 5 [] false)])), (16, (.map (Zz e_str Z6 v7))), (26, (.map (Zz Z1f Zf v25))), (96, (.box [(.map 16), (.map 97), (.bool v6)])), (97, (.map (Zz Zt Ze v8))), (2000, (.vec 3 (List.map Zp a0)))]⟩) ⟨I, I, I, I, I, I, I, I, I, I, J0⟩ ⟨I, I, I, I, I, I, J0⟩ ?_
    refine Z1g (V := Int × Bool × (List (Str × Zc)) × (List (Zu × Zl))) (X := Bool × (List (Str × Zc)) × (List (Zu × Zl))) (lp := fun k v => F17_l32 K v21 a0 v5 v25 (F17_c36 K (F17_l9 K a0 (F17_c13 K) k9) v5) k v.1 v.2.1 v.2.2.1 v.2.2.2 = some r) (sh := fun v => ⟨[(2, (.ptr 2 0)), (4, (.ptr 96 0)), (8, (.map 26)), (11, (.int .i64 (a0.getD v5.toNat Zq).Weight)), (17, (.vs 2000)), (18, (.int .i64 (a0.length : Int))), (19, (.int .i64 v5)), (40, (.sl 14 (v21.map Zf) false)), (41, (.int .i64 (v21.length : Int))), (42, (.int .i64 v.1))], [(2, (.box [(.sl 4 [] false), (.sl 5 [] false)])), (16, (.map (Zz e_str Z6 v.2.2.1))), (26, (.map (Zz Z1f Zf v25))), (96, (.box [(.map 16), (.map 97), (.bool v.2.1)])), (97, (.map (Zz Zt Ze v.2.2.2))), (2000, (.vec 3 (List.map Zp a0)))]⟩) (x := fun v => F17_c36 K (F17_l9 K a0 (F17_c13 K) k9) v5 v.1 v.2.1 v.2.2 = some r) (shx := fun v => ⟨[(2, (.ptr 2 0)), (4, (.ptr 96 0)), (17, (.vs 2000)), (18, (.int .i64 (a0.length : Int))), (19, (.int .i64 v5))], [(2, (.box [(.sl 4 [] false), (.sl 5 [] false)])), (16, (.map (Zz e_str Z6 v.2.1))), (96, (.box [(.map 16), (.map 97), (.bool v.1)])), (97, (.map (Zz Zt Ze v.2.2))), (2000, (.vec 3 (List.map Zp a0)))]⟩) (k := K) (v := (0, v6, v7, v8)) h ?_ ?_
    ·intro v h
     obtain ⟨v33, v34, v35⟩ := v
     try dsimp only at h ⊢
     unfold F17_c36 at h
     refine At.end <| Z9 <| Z4 <| Z1 I (Z1c (k := .i64) (b := 1) (c := (IntKind.i64.wrap (v5 + 1))) I I I I) I <| Z1 I (Zh I I) I <| Z8 ?_
     exact Z1d (IH9 _ ((IntKind.i64.wrap (v5 + 1)), v33, v34, v35) (Nat.lt_succ_self _) h) ⟨I, I, I, I, I, J0⟩ ⟨I, I, I, I, I, J0⟩
    intro N k32 v h IH32 J32
    obtain ⟨v28, v29, v30, v31⟩ := v
    try dsimp only at h IH32 J32 ⊢
    cases k32 with
    | zero => cases h
    | succ k32 =>
     rw [F17_l32] at h
     refine Zb <| Z4 <| Z1 I (Z1y (c := (decide (v28 < (v21.length : Int)))) I I I I) I <| Z8 <| Z9 <| Zb ?_
     have hif := Z2a h
     refine Z15 I (fun hc => ?_) (fun hc => ?_)
     ·have h := hif.1 hc
      refine Z18 <| Z9 <| Zb ?_
      refine AWp.blockJoin (V := Bool × (List (Str × Zc)) × (List (Zu × Zl))) (lp := fun v => F17_j42 K (F17_l32 K v21 a0 v5 v25 (F17_c36 K (F17_l9 K a0 (F17_c13 K) k9) v5) k32) v28 v.1 v.2.1 v.2.2 = some r) (sh := fun v => ⟨[(2, (.ptr 2 0)), (4, (.ptr 96 0)), (8, (.map 26)), (11, (.int .i64 (a0.getD v5.toNat Zq).Weight)), (17, (.vs 2000)), (18, (.int .i64 (a0.length : Int))), (19, (.int .i64 v5)), (40, (.sl 14 (v21.map Zf) false)), (41, (.int .i64 (v21.length : Int))), (42, (.int .i64 v28))], [(2, (.box [(.sl 4 [] false), (.sl 5 [] false)])), (16, (.map (Zz e_str Z6 v.2.1))), (26, (.map (Zz Z1f Zf v25))), (96, (.box [(.map 16), (.map 97), (.bool v.1)])), (97, (.map (Zz Zt Ze v.2.2))), (2000, (.vec 3 (List.map Zp a0)))]⟩) ?_ ?_
      ·intro v h
       obtain ⟨v39, v40, v41⟩ := v
       try dsimp only at h ⊢
       unfold F17_j42 at h
       refine Z9 <| Z4 <| Z1 I (Z1c (k := .i64) (b := 1) (c := (IntKind.i64.wrap (v28 + 1))) I I I I) I <| Z1 I (Zh I I) I <| Z8 ?_
       exact Z1d (IH32 _ ((IntKind.i64.wrap (v28 + 1)), v39, v40, v41) (Nat.lt_succ_self _) h) ⟨I, I, I, I, I, I, I, I, I, I, J0⟩ ⟨I, I, I, I, I, I, J0⟩
      intro J42
      refine Zb <| Z4 ?_
      have ⟨hg43, h⟩ := Zx h
      refine Z1 I (Z1s (k := .i64) (l := v21) (enc := Zf) (z := Z2) (n := v28) (full := false) I s37 I I hg43 I) I <| Z1 I (st_loadIA I a56 I I I) I <| Z1 I (Z1z I z56 I I I) I <| Z1 I (Z19 sz56 I I I I I I I I) I <| Z8 <| Z9 <| Zb <| Z1t mixed <| Z3 0 I (Zh I I) <| Z3 1 I (Zn I f56_6 I I) <| Z3 2 I (Zs I o9 I I I) <| Z3 3 I (Zh I I) <| Z3 4 I (Zn I f56_11 I I) <| Z3 5 I (Zs I o4 I I I) <| Z3 6 I (Zh I I) ?_
      have ⟨v45, hv45, h⟩ := Z1b h
      refine Z3 7 I (Z1h (ar := [(.bool (v21.getD v28.toNat Z2).Error), (.int .i64 (a0.getD v5.toNat Zq).Weight)]) Tryz.call49 (F49_ok K (v21.getD v28.toNat Z2).Error (a0.getD v5.toNat Zq).Weight v45 hv45) I I ⟨I, I, J0⟩ I) <| Z3 8 I (Zn I f56_2 I I) <| Z3 9 I (Zs I o3 I I I) <| Z3 10 I (Z1y (b := 0) (c := ((v21.getD v28.toNat Z2).Parent == 0)) I I I I) <| Z3 11 I (Zh I I) ?_
      have ⟨v47, hv47, h⟩ := Z1b h
      refine Z3 12 I (Z1h (ar := [(.bool ((v21.getD v28.toNat Z2).Parent == 0)), (.int .i64 (a0.getD v5.toNat Zq).Weight)]) Tryz.call49 (F49_ok K ((v21.getD v28.toNat Z2).Parent == 0) (a0.getD v5.toNat Zq).Weight v47 hv47) I I ⟨I, I, J0⟩ I) <| Z3 13 I (stx_build (vs := [(0, (.str (v21.getD v28.toNat Z2).Service)), (1, (.int .i64 (a0.getD v5.toNat Zq).Weight)), (2, (.int .i64 v45)), (3, (.int .i64 v47))]) I st68 ⟨I, I, I, I, I, I, I, I, J0⟩ I) ?_
      have ⟨v49, hv49, h⟩ := Z1b h
      refine Z3 14 I (st_call (d := some 60) (c := ⟨[(.ptr 96 0), (.ag [(.str (v21.getD v28.toNat Z2).Service), (.int .i64 (a0.getD v5.toNat Zq).Weight), (.int .i64 v45), (.int .i64 v47)])] ++ [], [(96, (.box [(.map 16), (.map 97), (.bool v29)])), (16, (.map (Zz e_str Z6 v30))), (97, (.map (Zz Zt Ze v31)))], (.tup []), [(96, (.box [(.map 16), (.map 97), (.bool v49.1)])), (16, (.map (Zz e_str Z6 v49.2))), (97, (.map (Zz Zt Ze v31)))], []⟩) (ar := [(.ptr 96 0), (.ag [(.str (v21.getD v28.toNat Z2).Service), (.int .i64 (a0.getD v5.toNat Zq).Weight), (.int .i64 v45), (.int .i64 v47)])]) (caps := []) (news := []) (forg := []) Tryz.call48 ((((F48_ok K (⟨(v21.getD v28.toNat Z2).Service, (a0.getD v5.toNat Zq).Weight, v45, v47⟩ : Zc) v29 v30 v31 v49 hv49).sw 2000 96).sw 2001 16).sw 2002 97) I I ⟨I, I, J0⟩ I ⟨I, I, I, J0⟩ I) <| Z21 (by kernel_rfl) I <| Z9 <| Zb <| Z4 <| Z1 I (Zh I I) I <| Z1 I (Zn I f56_2 I I) I <| Z1 I (Zs I o3 I I I) I <| Z1 I (st_mlookupOk (l := v25) (a := (v21.getD v28.toNat Z2).Parent) (kv := (.int .i64 (v21.getD v28.toNat Z2).Parent)) I mt110 I I (.inl I) I I) I <| Z1 I (Zh I I) I <| Z1 I (st_extract I I I) I <| Z1 I (st_extract I I I) I <| Z1 I (Z1z I z56 I I I) I <| Z1 I (Z19 sz56 I I I I I I I I) I <| Z1 I (Zj I I) I <| Z8 <| Z9 <| Zb <| Z4 <| Z1 I (Zh I I) I <| Z1 I (Zh I I) I ?_
      have hif := Z2a h
      refine AOps.split (fun hc => ?_) (fun hc => ?_)
      ·have h := hif.1 hc
       refine Z11 I I I I (Zn I f56_6 I I) I <| Z11 I I I I (Zs I o9 I I I) I <| Z11 I I I I (Zn I f56_6 I I) I <| Z11 I I I I (Zs I o9 I I I) I <| Z11 I I I I (st_cmpS (c := (!(((mget q_i64 (v21.getD v28.toNat Z2).Parent v25).getD Z2).Service == (v21.getD v28.toNat Z2).Service))) I I I I) I <| Z1 I (st_pickT I I I) I <| Z8 <| Z9 ?_
       refine AWp.join (V := Bool × (List (Zu × Zl))) (lp := fun v => F17_j52 K (F17_l32 K v21 a0 v5 v25 (F17_c36 K (F17_l9 K a0 (F17_c13 K) k9) v5) k32) v28 v49 v.1 v.2 = some r) (sh := fun v => ⟨[(2, (.ptr 2 0)), (4, (.ptr 96 0)), (8, (.map 26)), (11, (.int .i64 (a0.getD v5.toNat Zq).Weight)), (17, (.vs 2000)), (18, (.int .i64 (a0.length : Int))), (19, (.int .i64 v5)), (40, (.sl 14 (v21.map Zf) false)), (41, (.int .i64 (v21.length : Int))), (42, (.int .i64 v28))], [(2, (.box [(.sl 4 [] false), (.sl 5 [] false)])), (16, (.map (Zz e_str Z6 v49.2))), (26, (.map (Zz Z1f Zf v25))), (96, (.box [(.map 16), (.map 97), (.bool v.1)])), (97, (.map (Zz Zt Ze v.2))), (2000, (.vec 3 (List.map Zp a0)))]⟩) ?_ ?_
       ·intro v h
        obtain ⟨v50, v51⟩ := v
        try dsimp only at h ⊢
        unfold F17_j52 at h
        refine At.end ?_
        exact Z1d (J42 (v50, v49.2, v51) h) ⟨I, I, I, I, I, I, I, I, I, I, J0⟩ ⟨I, I, I, I, I, I, J0⟩
       intro J52
       have hif := Z2a h
       refine Z15 I (fun hc => ?_) (fun hc => ?_)
       ·have h := hif.1 hc
        refine Z1t mixed <| Z3 0 I (Zh I I) <| Z3 1 I (Zn I f56_6 I I) <| Z3 2 I (Zs I o9 I I I) <| Z3 3 I (Zn I f56_6 I I) <| Z3 4 I (Zs I o9 I I I) <| Z3 5 I (Zh I I) <| Z3 6 I (Zn I f56_11 I I) <| Z3 7 I (Zs I o4 I I I) <| Z3 8 I (Zh I I) ?_
        have ⟨v54, hv54, h⟩ := Z1b h
        refine Z3 9 I (Z1h (ar := [(.bool (v21.getD v28.toNat Z2).Error), (.int .i64 (a0.getD v5.toNat Zq).Weight)]) Tryz.call49 (F49_ok K (v21.getD v28.toNat Z2).Error (a0.getD v5.toNat Zq).Weight v54 hv54) I I ⟨I, I, J0⟩ I) <| Z3 10 I (Z1l I a56 I I I I) ?_
        have ⟨v56, hv56, h⟩ := Z1b h
        refine Z3 11 I (Z1h (ar := [(Zf (v21.getD v28.toNat Z2))]) Tryz.call51 (F51_ok K (v21.getD v28.toNat Z2) v56 hv56) I I ⟨I, J0⟩ I) <| Z3 12 I (Zh I I) <| Z3 13 I (Z1c (k := .i64) (c := (IntKind.i64.wrap (v56 * (a0.getD v5.toNat Zq).Weight))) I I I I) <| Z3 14 I (stx_build (vs := [(0, (.str ((mget q_i64 (v21.getD v28.toNat Z2).Parent v25).getD Z2).Service)), (1, (.str (v21.getD v28.toNat Z2).Service)), (2, (.int .i64 (a0.getD v5.toNat Zq).Weight)), (3, (.int .i64 v54)), (4, (.int .i64 (IntKind.i64.wrap (v56 * (a0.getD v5.toNat Zq).Weight))))]) I st88 ⟨I, I, I, I, I, I, I, I, I, I, J0⟩ I) ?_
        have ⟨v58, hv58, h⟩ := Z1b h
        refine Z3 15 I (st_call (d := some 91) (c := ⟨[(.ptr 96 0), (.ag [(.str ((mget q_i64 (v21.getD v28.toNat Z2).Parent v25).getD Z2).Service), (.str (v21.getD v28.toNat Z2).Service), (.int .i64 (a0.getD v5.toNat Zq).Weight), (.int .i64 v54), (.int .i64 (IntKind.i64.wrap (v56 * (a0.getD v5.toNat Zq).Weight)))])] ++ [], [(96, (.box [(.map 16), (.map 97), (.bool v49.1)])), (16, (.map (Zz e_str Z6 v49.2))), (97, (.map (Zz Zt Ze v31)))], (.tup []), [(96, (.box [(.map 16), (.map 97), (.bool v58.1)])), (16, (.map (Zz e_str Z6 v49.2))), (97, (.map (Zz Zt Ze v58.2)))], []⟩) (ar := [(.ptr 96 0), (.ag [(.str ((mget q_i64 (v21.getD v28.toNat Z2).Parent v25).getD Z2).Service), (.str (v21.getD v28.toNat Z2).Service), (.int .i64 (a0.getD v5.toNat Zq).Weight), (.int .i64 v54), (.int .i64 (IntKind.i64.wrap (v56 * (a0.getD v5.toNat Zq).Weight)))])]) (caps := []) (news := []) (forg := []) Tryz.call50 ((((F50_ok K (⟨((mget q_i64 (v21.getD v28.toNat Z2).Parent v25).getD Z2).Service, (v21.getD v28.toNat Z2).Service, (a0.getD v5.toNat Zq).Weight, v54, (IntKind.i64.wrap (v56 * (a0.getD v5.toNat Zq).Weight))⟩ : Zl) v49.1 v49.2 v31 v58 hv58).sw 2000 96).sw 2001 16).sw 2002 97) I I ⟨I, I, J0⟩ I ⟨I, I, I, J0⟩ I) <| Z21 (by kernel_rfl) I ?_
        exact Z1d (J52 (v58.1, v58.2) h) ⟨I, I, I, I, I, I, I, I, I, I, J0⟩ ⟨I, I, I, I, I, I, J0⟩
       have h := hif.2 hc
       refine Z18 ?_
       exact Z1d (J52 (v49.1, v31) h) ⟨I, I, I, I, I, I, I, I, I, I, J0⟩ ⟨I, I, I, I, I, I, J0⟩
      have h := hif.2 hc
      iterate 5 refine Z1u I I I I I I I ?_
      refine Z1 I (st_pickF (v := (.bool false)) I I I) I <| Z8 <| Z9 ?_
      refine Z15 (b := false) I (fun hc => ?_) (fun hc => ?_)
      ·cases hc
      refine Z18 <| At.end ?_
      exact Z1d (J42 (v49.1, v49.2, v31) h) ⟨I, I, I, I, I, I, I, I, I, I, J0⟩ ⟨I, I, I, I, I, I, J0⟩
     have h := hif.2 hc
     refine Z29 <| At.thru ?_
     exact Z1d (J32 (v29, v30, v31) h) ⟨I, I, I, I, I, J0⟩ ⟨I, I, I, I, I, J0⟩
   intro N k24 v h IH24 J24
   obtain ⟨v22, v23⟩ := v
   try dsimp only at h IH24 J24 ⊢
   cases k24 with
   | zero => cases h
   | succ k24 =>
    rw [F17_l24] at h
    refine Zb <| Z4 <| Z1 I (Z1y (c := (decide (v22 < (v21.length : Int)))) I I I I) I <| Z8 <| Z9 <| Zb ?_
    have hif := Z2a h
    refine Z15 I (fun hc => ?_) (fun hc => ?_)
    ·have h := hif.1 hc
     refine Z18 <| Z9 <| Zb <| Z25 <| Zb <| Z4 ?_
     have ⟨hg60, h⟩ := Zx h
     refine Z1 I (Z1s (k := .i64) (l := v21) (enc := Zf) (z := Z2) (n := v22) (full := false) I s37 I I hg60 I) I <| Z1 I (st_loadIA I a56 I I I) I <| Z1 I (Z1z I z56 I I I) I <| Z1 I (Z19 sz56 I I I I I I I I) I <| Z8 <| Z9 <| Z4 <| Z1 I (Zh I I) I <| Z1 I (Zn I f56_1 I I) I <| Z1 I (Zs I o3 I I I) I <| Z1 I (Z1l I a56 I I I I) I <| Z1 I (st_mapUpdate (l := v23) (a := (v21.getD v22.toNat Z2).Id) (b := (v21.getD v22.toNat Z2)) (kv := (.int .i64 (v21.getD v22.toNat Z2).Id)) (vv := (Zf (v21.getD v22.toNat Z2))) mt110 I I I I I I) I <| Z8 <| At.end <| Z9 <| Z4 <| Z1 I (Z1c (k := .i64) (b := 1) (c := (IntKind.i64.wrap (v22 + 1))) I I I I) I <| Z1 I (Zh I I) I <| Z8 ?_
     exact Z1d (IH24 _ ((IntKind.i64.wrap (v22 + 1)), (mput q_i64 (v21.getD v22.toNat Z2).Id (v21.getD v22.toNat Z2) v23)) (Nat.lt_succ_self _) h) ⟨I, I, I, I, I, I, I, I, I, I, I, J0⟩ ⟨I, I, I, I, I, I, I, J0⟩
    have h := hif.2 hc
    refine Z29 <| At.thru ?_
    exact Z1d (J24 v23 h) ⟨I, I, I, I, I, I, I, I, J0⟩ ⟨I, I, I, I, I, I, I, J0⟩
  have h := hif.2 hc
  refine Z29 <| At.thru ?_
  exact Z1d (J9 (v6, v7, v8) h) ⟨I, I, J0⟩ ⟨I, I, I, I, I, J0⟩
def F19_c7 (_K : Nat) : Option (Bool) :=
 some true
def F19_l6 (K : Nat) (a0 : Zd) (a1 : Zd) (c8 : Option (Bool)) : Nat → Int → Option (Bool)
 | 0, _ => none
 | k6 + 1, v5 =>
 if (decide (v5 < (a0.Calls.length : Int))) = true then
 if (0 : Int) ≤ v5 ∧ v5 < a0.Calls.length then
 if (0 : Int) ≤ v5 ∧ v5 < a1.Calls.length then
 if (!(((a0.Calls.getD v5.toNat Zk).Caller == (a1.Calls.getD v5.toNat Zk).Caller) && (((a0.Calls.getD v5.toNat Zk).Callee == (a1.Calls.getD v5.toNat Zk).Callee) && (((a0.Calls.getD v5.toNat Zk).Count == (a1.Calls.getD v5.toNat Zk).Count) && (((a0.Calls.getD v5.toNat Zk).Errors == (a1.Calls.getD v5.toNat Zk).Errors) && (((a0.Calls.getD v5.toNat Zk).Time == (a1.Calls.getD v5.toNat Zk).Time) && true)))))) = true then
 some false
 else
 (F19_l6 K a0 a1 c8 k6) (IntKind.i64.wrap (v5 + 1))
 else none
 else none
 else
 c8
def F19_c3 (K : Nat) (a0 : Zd) (a1 : Zd) : Option (Bool) :=
 F19_l6 K a0 a1 (F19_c7 K) K 0
def F19_l2 (K : Nat) (a0 : Zd) (a1 : Zd) (c4 : Option (Bool)) : Nat → Int → Option (Bool)
 | 0, _ => none
 | k2 + 1, v1 =>
 if (decide (v1 < (a0.Services.length : Int))) = true then
 if (0 : Int) ≤ v1 ∧ v1 < a0.Services.length then
 if (0 : Int) ≤ v1 ∧ v1 < a1.Services.length then
 if (!(((a0.Services.getD v1.toNat Zr).Name == (a1.Services.getD v1.toNat Zr).Name) && (((a0.Services.getD v1.toNat Zr).Spans == (a1.Services.getD v1.toNat Zr).Spans) && (((a0.Services.getD v1.toNat Zr).Errors == (a1.Services.getD v1.toNat Zr).Errors) && (((a0.Services.getD v1.toNat Zr).Roots == (a1.Services.getD v1.toNat Zr).Roots) && true))))) = true then
 some false
 else
 (F19_l2 K a0 a1 c4 k2) (IntKind.i64.wrap (v1 + 1))
 else none
 else none
 else
 c4
def F19 (K : Nat) (a0 : Zd) (a1 : Zd) : Option (Bool) :=
 if ((a0.Services.length : Int) != (a1.Services.length : Int)) = true then
 some false
 else
 if ((a0.Calls.length : Int) != (a1.Calls.length : Int)) = true then
 some false
 else
 F19_l2 K a0 a1 (F19_c3 K a0 a1) K 0
theorem F19_ok (K : Nat) (a0 : Zd) (a1 : Zd) (r : Bool) (h : F19 K a0 a1 = some r) : ACall P 19 ⟨[(Zm a0), (Zm a1)], [], (.bool r), [], []⟩ := by
 refine Z1r Tryz.func19 Tryz.results19 rfl Tryz.ntmps19 rfl rfl rfl ?_
 intro E Q hP hN hro hret
 obtain ⟨P', nt', w0, F0, p0, S0, β0, ro0⟩ := E
 simp only at hP hN
 subst hP hN
 dsimp only [argT]
 unfold F19 at h
 refine Zb <| Z4 <| Z1 I (st_box I I I I I) I <| Z1 I (st_box I I I I I) I <| Z1 I (Zj (v := (.bool false)) I I) I <| Z8 <| Z9 <| Zb <| Zb <| Z4 <| Z1 I (Zn I f44_0 I I) I <| Z1 I (Zs I o41 I I I) I <| Z1 I (stx_len (l := a0.Services) (enc := Z6) I s41 I) I <| Z1 I (Zn I f44_0 I I) I <| Z1 I (Zs I o41 I I I) I <| Z1 I (stx_len (l := a1.Services) (enc := Z6) I s41 I) I <| Z1 I (Z1y (c := ((a0.Services.length : Int) != (a1.Services.length : Int))) I I I I) I <| Z1 I (Zh I I) I ?_
 have hif := Z2a h
 refine AOps.split (fun hc => ?_) (fun hc => ?_)
 ·have h := hif.1 hc
  iterate 7 refine Z1u I I I I I I I ?_
  refine Z1 I (st_pickT (v := (.bool true)) I I I) I <| Z8 <| Z9 ?_
  refine Z15 (b := true) I (fun hc => ?_) (fun hc => ?_)
  rotate_left
  ·cases hc
  refine Zb <| Z4 <| Z1 I (Zj (v := (.bool false)) I I) I <| Z8 <| Z9 <| Z1e <| Z1m ?_
  have h := Option.some.inj h
  subst h
  refine (hret _ ?_).1
  exact ⟨[(.bool false)], ⟨I, J0⟩, I, J0⟩
 have h := hif.2 hc
 refine Z11 I I I I (Zn I f44_1 I I) I <| Z11 I I I I (Zs I o42 I I I) I <| Z11 I I I I (stx_len (l := a0.Calls) (enc := Ze) I s42 I) I <| Z11 I I I I (Zn I f44_1 I I) I <| Z11 I I I I (Zs I o42 I I I) I <| Z11 I I I I (stx_len (l := a1.Calls) (enc := Ze) I s42 I) I <| Z11 I I I I (Z1y (c := ((a0.Calls.length : Int) != (a1.Calls.length : Int))) I I I I) I <| Z1 I (st_pickF I I I) I <| Z8 <| Z9 ?_
 have hif := Z2a h
 refine Z15 I (fun hc => ?_) (fun hc => ?_)
 ·have h := hif.1 hc
  refine Zb <| Z4 <| Z1 I (Zj (v := (.bool false)) I I) I <| Z8 <| Z9 <| Z1e <| Z1m ?_
  have h := Option.some.inj h
  subst h
  refine (hret _ ?_).1
  exact ⟨[(.bool false)], ⟨I, J0⟩, I, J0⟩
 have h := hif.2 hc
 refine Z18 <| Z9 <| Zb <| Zb <| Z4 <| Z1 I (Zj (v := (.int .i64 0)) I I) I <| Z8 <| Z9 <| Z1v (st' := ⟨[(2, (.ptr 2 0)), (3, (.ptr 3 0)), (5, (.int .i64 0))], [(2, (.box (Zm a0).cells)), (3, (.box (Zm a1).cells))]⟩) ⟨I, I, I, J0⟩ ⟨I, I, J0⟩ ?_
 refine Z1g (V := Int) (X := Unit) (lp := fun k v => F19_l2 K a0 a1 (F19_c3 K a0 a1) k v = some r) (sh := fun v => ⟨[(2, (.ptr 2 0)), (3, (.ptr 3 0)), (5, (.int .i64 v))], [(2, (.box (Zm a0).cells)), (3, (.box (Zm a1).cells))]⟩) (x := fun v => F19_c3 K a0 a1 = some r) (shx := fun v => ⟨[(2, (.ptr 2 0)), (3, (.ptr 3 0))], [(2, (.box (Zm a0).cells)), (3, (.box (Zm a1).cells))]⟩) (k := K) (v := 0) h ?_ ?_
 ·intro v h
  try dsimp only at h ⊢
  unfold F19_c3 at h
  refine Z9 <| Zb <| Zb <| Z4 <| Z1 I (Zj (v := (.int .i64 0)) I I) I <| Z8 <| Z9 <| Z1v (st' := ⟨[(2, (.ptr 2 0)), (3, (.ptr 3 0)), (6, (.int .i64 0))], [(2, (.box (Zm a0).cells)), (3, (.box (Zm a1).cells))]⟩) ⟨I, I, I, J0⟩ ⟨I, I, J0⟩ ?_
  refine Z1g (V := Int) (X := Unit) (lp := fun k v => F19_l6 K a0 a1 (F19_c7 K) k v = some r) (sh := fun v => ⟨[(2, (.ptr 2 0)), (3, (.ptr 3 0)), (6, (.int .i64 v))], [(2, (.box (Zm a0).cells)), (3, (.box (Zm a1).cells))]⟩) (x := fun v => F19_c7 K = some r) (shx := fun v => ⟨[], []⟩) (k := K) (v := 0) h ?_ ?_
  ·intro v h
   try dsimp only at h ⊢
   unfold F19_c7 at h
   refine Z9 <| Zb <| Z4 <| Z1 I (Zj (v := (.bool true)) I I) I <| Z8 <| Z9 <| Z1e ?_
   have h := Option.some.inj h
   subst h
   refine (hret _ ?_).1
   exact ⟨[(.bool true)], ⟨I, J0⟩, I, J0⟩
  intro N k6 v h IH6 J6
  revert h
  revert v
  intro v5 h
  try dsimp only at h IH6 J6 ⊢
  cases k6 with
  | zero => cases h
  | succ k6 =>
   rw [F19_l6] at h
   refine Zb <| Zb <| Z4 <| Z1 I (Zh I I) I <| Z1 I (Zn I f44_1 I I) I <| Z1 I (Zs I o42 I I I) I <| Z1 I (stx_len (l := a0.Calls) (enc := Ze) I s42 I) I <| Z1 I (Z1y (c := (decide (v5 < (a0.Calls.length : Int)))) I I I I) I <| Z8 <| Z9 ?_
   have hif := Z2a h
   refine Z15 I (fun hc => ?_) (fun hc => ?_)
   ·have h := hif.1 hc
    refine Z18 <| Z9 <| Zb <| Z25 <| Zb <| Z1t mixed <| Z3 0 I (Zn I f44_1 I I) <| Z3 1 I (Zs I o42 I I I) <| Z3 2 I (Zh I I) ?_
    have ⟨hg10, h⟩ := Zx h
    refine Z3 3 I (Z1s (k := .i64) (l := a0.Calls) (enc := Ze) (z := Zk) (n := v5) (full := false) I s42 I I hg10 I) <| Z3 4 I (st_loadIA I a88 I I I) <| Z3 5 I (Zn I f44_1 I I) <| Z3 6 I (Zs I o42 I I I) <| Z3 7 I (Zh I I) ?_
    have ⟨hg11, h⟩ := Zx h
    refine Z3 8 I (Z1s (k := .i64) (l := a1.Calls) (enc := Ze) (z := Zk) (n := v5) (full := false) I s42 I I hg11 I) <| Z3 9 I (st_loadIA I a88 I I I) <| Z3 10 I (st_cmpA (xs := (Ze (a0.Calls.getD v5.toNat Zk)).cells) (ys := (Ze (a1.Calls.getD v5.toNat Zk)).cells) (b := (((a0.Calls.getD v5.toNat Zk).Caller == (a1.Calls.getD v5.toNat Zk).Caller) && (((a0.Calls.getD v5.toNat Zk).Callee == (a1.Calls.getD v5.toNat Zk).Callee) && (((a0.Calls.getD v5.toNat Zk).Count == (a1.Calls.getD v5.toNat Zk).Count) && (((a0.Calls.getD v5.toNat Zk).Errors == (a1.Calls.getD v5.toNat Zk).Errors) && (((a0.Calls.getD v5.toNat Zk).Time == (a1.Calls.getD v5.toNat Zk).Time) && true)))))) (c := (!(((a0.Calls.getD v5.toNat Zk).Caller == (a1.Calls.getD v5.toNat Zk).Caller) && (((a0.Calls.getD v5.toNat Zk).Callee == (a1.Calls.getD v5.toNat Zk).Callee) && (((a0.Calls.getD v5.toNat Zk).Count == (a1.Calls.getD v5.toNat Zk).Count) && (((a0.Calls.getD v5.toNat Zk).Errors == (a1.Calls.getD v5.toNat Zk).Errors) && (((a0.Calls.getD v5.toNat Zk).Time == (a1.Calls.getD v5.toNat Zk).Time) && true))))))) I eq88 I I I I) <| Z21 (by kernel_rfl) I <| Z9 ?_
    have hif := Z2a h
    refine Z15 I (fun hc => ?_) (fun hc => ?_)
    ·have h := hif.1 hc
     refine Zb <| Z4 <| Z1 I (Zj (v := (.bool false)) I I) I <| Z8 <| Z9 <| Z1e <| At.overR <| Z1m ?_
     refine Z1m (At.overR ?_)
     refine Z1m ?_
     have h := Option.some.inj h
     subst h
     refine (hret _ ?_).1
     exact ⟨[(.bool false)], ⟨I, J0⟩, I, J0⟩
    have h := hif.2 hc
    refine Z18 <| At.end <| Z9 <| Z4 <| Z1 I (Zh I I) I <| Z1 I (Z1c (k := .i64) (b := 1) (c := (IntKind.i64.wrap (v5 + 1))) I I I I) I <| Z1 I (Zj I I) I <| Z8 ?_
    exact Z1d (IH6 _ (IntKind.i64.wrap (v5 + 1)) (Nat.lt_succ_self _) h) ⟨I, I, I, J0⟩ ⟨I, I, J0⟩
   have h := hif.2 hc
   refine Z29 <| At.thru ?_
   exact Z1d (J6 () h) J0 trivial
 intro N k2 v h IH2 J2
 revert h
 revert v
 intro v1 h
 try dsimp only at h IH2 J2 ⊢
 cases k2 with
 | zero => cases h
 | succ k2 =>
  rw [F19_l2] at h
  refine Zb <| Zb <| Z4 <| Z1 I (Zh I I) I <| Z1 I (Zn I f44_0 I I) I <| Z1 I (Zs I o41 I I I) I <| Z1 I (stx_len (l := a0.Services) (enc := Z6) I s41 I) I <| Z1 I (Z1y (c := (decide (v1 < (a0.Services.length : Int)))) I I I I) I <| Z8 <| Z9 ?_
  have hif := Z2a h
  refine Z15 I (fun hc => ?_) (fun hc => ?_)
  ·have h := hif.1 hc
   refine Z18 <| Z9 <| Zb <| Z25 <| Zb <| Z1t mixed <| Z3 0 I (Zn I f44_0 I I) <| Z3 1 I (Zs I o41 I I I) <| Z3 2 I (Zh I I) ?_
   have ⟨hg13, h⟩ := Zx h
   refine Z3 3 I (Z1s (k := .i64) (l := a0.Services) (enc := Z6) (z := Zr) (n := v1) (full := false) I s41 I I hg13 I) <| Z3 4 I (st_loadIA I a68 I I I) <| Z3 5 I (Zn I f44_0 I I) <| Z3 6 I (Zs I o41 I I I) <| Z3 7 I (Zh I I) ?_
   have ⟨hg14, h⟩ := Zx h
   refine Z3 8 I (Z1s (k := .i64) (l := a1.Services) (enc := Z6) (z := Zr) (n := v1) (full := false) I s41 I I hg14 I) <| Z3 9 I (st_loadIA I a68 I I I) <| Z3 10 I (st_cmpA (xs := (Z6 (a0.Services.getD v1.toNat Zr)).cells) (ys := (Z6 (a1.Services.getD v1.toNat Zr)).cells) (b := (((a0.Services.getD v1.toNat Zr).Name == (a1.Services.getD v1.toNat Zr).Name) && (((a0.Services.getD v1.toNat Zr).Spans == (a1.Services.getD v1.toNat Zr).Spans) && (((a0.Services.getD v1.toNat Zr).Errors == (a1.Services.getD v1.toNat Zr).Errors) && (((a0.Services.getD v1.toNat Zr).Roots == (a1.Services.getD v1.toNat Zr).Roots) && true))))) (c := (!(((a0.Services.getD v1.toNat Zr).Name == (a1.Services.getD v1.toNat Zr).Name) && (((a0.Services.getD v1.toNat Zr).Spans == (a1.Services.getD v1.toNat Zr).Spans) && (((a0.Services.getD v1.toNat Zr).Errors == (a1.Services.getD v1.toNat Zr).Errors) && (((a0.Services.getD v1.toNat Zr).Roots == (a1.Services.getD v1.toNat Zr).Roots) && true)))))) I eq68 I I I I) <| Z21 (by kernel_rfl) I <| Z9 ?_
   have hif := Z2a h
   refine Z15 I (fun hc => ?_) (fun hc => ?_)
   ·have h := hif.1 hc
    refine Zb <| Z4 <| Z1 I (Zj (v := (.bool false)) I I) I <| Z8 <| Z9 <| Z1e <| At.overR <| Z1m ?_
    refine Z1m (At.overR ?_)
    refine Z1m ?_
    have h := Option.some.inj h
    subst h
    refine (hret _ ?_).1
    exact ⟨[(.bool false)], ⟨I, J0⟩, I, J0⟩
   have h := hif.2 hc
   refine Z18 <| At.end <| Z9 <| Z4 <| Z1 I (Zh I I) I <| Z1 I (Z1c (k := .i64) (b := 1) (c := (IntKind.i64.wrap (v1 + 1))) I I I I) I <| Z1 I (Zj I I) I <| Z8 ?_
   exact Z1d (IH2 _ (IntKind.i64.wrap (v1 + 1)) (Nat.lt_succ_self _) h) ⟨I, I, I, J0⟩ ⟨I, I, J0⟩
  have h := hif.2 hc
  refine Z29 <| At.thru ?_
  exact Z1d (J2 () h) ⟨I, I, J0⟩ ⟨I, I, J0⟩
noncomputable def F11 (K : Nat) : Option (Bool) :=
 (F17 K ([(⟨9, 2, [(⟨9, 1, 0, 0, 1, 1, [119, 101, 98], [], [111], 0, 30, false, [], []⟩ : Zg), (⟨9, 2, 1, 0, 1, 1, [97, 112, 105], [], [111], 0, 10, true, [], []⟩ : Zg), (⟨9, 3, 2, 0, 1, 1, [97, 112, 105], [], [111], 0, 5, false, [], []⟩ : Zg)]⟩ : Zo)])).bind fun v2 =>
 if (v2.1 == 0) = true then
 (F19 K v2.2 (⟨[(⟨[97, 112, 105], 4, 2, 0⟩ : Zc), (⟨[119, 101, 98], 2, 0, 2⟩ : Zc)], [(⟨[119, 101, 98], [97, 112, 105], 2, 2, 20⟩ : Zl)]⟩ : Zd)).bind fun v4 =>
 some v4
 else
 some false
theorem F11_ok (K : Nat) (r : Bool) (h : F11 K = some r) : ACall P 11 ⟨[], [], (.bool r), [], []⟩ := by
 refine Z1r Tryz.func11 Tryz.results11 rfl Tryz.ntmps11 rfl rfl rfl ?_
 intro E Q hP hN hro hret
 obtain ⟨P', nt', w0, F0, p0, S0, β0, ro0⟩ := E
 simp only at hP hN
 subst hP hN
 dsimp only [argT]
 unfold F11 at h
 refine Zb <| Z4 <| Z1 I (Zj (v := (.bool false)) I I) I <| Z8 <| Z9 <| Zb <| Z4 <| Z1 I (stx_build (vs := [(0, (.int .i64 9)), (1, (.int .i64 1)), (4, (.int .i64 1)), (5, (.int .i64 1)), (6, (.str [119, 101, 98])), (8, (.str [111])), (10, (.int .i64 30))]) I st56 ⟨I, I, I, I, I, I, I, I, I, I, I, I, I, I, J0⟩ I) I <| Z1 I (Z1z I z56 I I I) I <| Z1 I (Z19 (cs := [(.int .i64 0), (.int .i64 0), (.int .i64 0), (.int .i64 0), (.int .i64 0), (.int .i64 0), (.str []), (.str []), (.str []), (.int .i64 0), (.int .i64 0), (.bool false), (.sl 4 [] false), (.sl 2 [] false)]) (vs := [(.int .i64 9), (.int .i64 1), (.int .i64 0), (.int .i64 0), (.int .i64 1), (.int .i64 1), (.str [119, 101, 98]), (.str []), (.str [111]), (.int .i64 0), (.int .i64 30), (.bool false), (.sl 4 [] false), (.sl 2 [] false)]) (ds := [(.int .i64 9), (.int .i64 1), (.int .i64 0), (.int .i64 0), (.int .i64 1), (.int .i64 1), (.str [119, 101, 98]), (.str []), (.str [111]), (.int .i64 0), (.int .i64 30), (.bool false), (.sl 4 [] false), (.sl 2 [] false)]) (v := (.ag [(.int .i64 9), (.int .i64 1), (.int .i64 0), (.int .i64 0), (.int .i64 1), (.int .i64 1), (.str [119, 101, 98]), (.str []), (.str [111]), (.int .i64 0), (.int .i64 30), (.bool false), (.sl 4 [] false), (.sl 2 [] false)])) sz56 I I I I I I I I) I <| Z8 <| Z9 <| Zb <| Z4 <| Z1 I (stx_build (vs := [(0, (.int .i64 9)), (1, (.int .i64 2)), (2, (.int .i64 1)), (4, (.int .i64 1)), (5, (.int .i64 1)), (6, (.str [97, 112, 105])), (8, (.str [111])), (10, (.int .i64 10)), (11, (.bool true))]) I st56 ⟨I, I, I, I, I, I, I, I, I, I, I, I, I, I, I, I, I, I, J0⟩ I) I <| Z1 I (Z1z I z56 I I I) I <| Z1 I (Z19 (cs := [(.int .i64 0), (.int .i64 0), (.int .i64 0), (.int .i64 0), (.int .i64 0), (.int .i64 0), (.str []), (.str []), (.str []), (.int .i64 0), (.int .i64 0), (.bool false), (.sl 4 [] false), (.sl 2 [] false)]) (vs := [(.int .i64 9), (.int .i64 2), (.int .i64 1), (.int .i64 0), (.int .i64 1), (.int .i64 1), (.str [97, 112, 105]), (.str []), (.str [111]), (.int .i64 0), (.int .i64 10), (.bool true), (.sl 4 [] false), (.sl 2 [] false)]) (ds := [(.int .i64 9), (.int .i64 2), (.int .i64 1), (.int .i64 0), (.int .i64 1), (.int .i64 1), (.str [97, 112, 105]), (.str []), (.str [111]), (.int .i64 0), (.int .i64 10), (.bool true), (.sl 4 [] false), (.sl 2 [] false)]) (v := (.ag [(.int .i64 9), (.int .i64 2), (.int .i64 1), (.int .i64 0), (.int .i64 1), (.int .i64 1), (.str [97, 112, 105]), (.str []), (.str [111]), (.int .i64 0), (.int .i64 10), (.bool true), (.sl 4 [] false), (.sl 2 [] false)])) sz56 I I I I I I I I) I <| Z8 <| Z9 <| Zb <| Z4 <| Z1 I (stx_build (vs := [(0, (.int .i64 9)), (1, (.int .i64 3)), (2, (.int .i64 2)), (4, (.int .i64 1)), (5, (.int .i64 1)), (6, (.str [97, 112, 105])), (8, (.str [111])), (10, (.int .i64 5))]) I st56 ⟨I, I, I, I, I, I, I, I, I, I, I, I, I, I, I, I, J0⟩ I) I <| Z1 I (Z1z I z56 I I I) I <| Z1 I (Z19 (cs := [(.int .i64 0), (.int .i64 0), (.int .i64 0), (.int .i64 0), (.int .i64 0), (.int .i64 0), (.str []), (.str []), (.str []), (.int .i64 0), (.int .i64 0), (.bool false), (.sl 4 [] false), (.sl 2 [] false)]) (vs := [(.int .i64 9), (.int .i64 3), (.int .i64 2), (.int .i64 0), (.int .i64 1), (.int .i64 1), (.str [97, 112, 105]), (.str []), (.str [111]), (.int .i64 0), (.int .i64 5), (.bool false), (.sl 4 [] false), (.sl 2 [] false)]) (ds := [(.int .i64 9), (.int .i64 3), (.int .i64 2), (.int .i64 0), (.int .i64 1), (.int .i64 1), (.str [97, 112, 105]), (.str []), (.str [111]), (.int .i64 0), (.int .i64 5), (.bool false), (.sl 4 [] false), (.sl 2 [] false)]) (v := (.ag [(.int .i64 9), (.int .i64 3), (.int .i64 2), (.int .i64 0), (.int .i64 1), (.int .i64 1), (.str [97, 112, 105]), (.str []), (.str [111]), (.int .i64 0), (.int .i64 5), (.bool false), (.sl 4 [] false), (.sl 2 [] false)])) sz56 I I I I I I I I) I ?_
 refine Z8 <| Z9 <| Zb <| Z4 <| Z1 I (Z1l I a56 I I I I) I <| Z1 I (Z1l I a56 I I I I) I <| Z1 I (Z1l I a56 I I I I) I <| Z1 I (Z1i (vs := [(.ag [(.int .i64 9), (.int .i64 1), (.int .i64 0), (.int .i64 0), (.int .i64 1), (.int .i64 1), (.str [119, 101, 98]), (.str []), (.str [111]), (.int .i64 0), (.int .i64 30), (.bool false), (.sl 4 [] false), (.sl 2 [] false)]), (.ag [(.int .i64 9), (.int .i64 2), (.int .i64 1), (.int .i64 0), (.int .i64 1), (.int .i64 1), (.str [97, 112, 105]), (.str []), (.str [111]), (.int .i64 0), (.int .i64 10), (.bool true), (.sl 4 [] false), (.sl 2 [] false)]), (.ag [(.int .i64 9), (.int .i64 3), (.int .i64 2), (.int .i64 0), (.int .i64 1), (.int .i64 1), (.str [97, 112, 105]), (.str []), (.str [111]), (.int .i64 0), (.int .i64 5), (.bool false), (.sl 4 [] false), (.sl 2 [] false)])]) (enc := Zf) (l := [(⟨9, 1, 0, 0, 1, 1, [119, 101, 98], [], [111], 0, 30, false, [], []⟩ : Zg), (⟨9, 2, 1, 0, 1, 1, [97, 112, 105], [], [111], 0, 10, true, [], []⟩ : Zg), (⟨9, 3, 2, 0, 1, 1, [97, 112, 105], [], [111], 0, 5, false, [], []⟩ : Zg)]) I el37 I I ⟨I, I, I, J0⟩ I els_Tapi_Span I I I I) I <| Z1 I (stx_build (vs := [(0, (.int .i64 9)), (1, (.int .i64 2)), (2, (.vs 13))]) I st39 ⟨I, I, I, I, I, I, J0⟩ I) I <| AOps.ghost (st' := ⟨[(14, (.ag [(.int .i64 9), (.int .i64 2), (.sl 14 (([(⟨9, 1, 0, 0, 1, 1, [119, 101, 98], [], [111], 0, 30, false, [], []⟩ : Zg), (⟨9, 2, 1, 0, 1, 1, [97, 112, 105], [], [111], 0, 10, true, [], []⟩ : Zg), (⟨9, 3, 2, 0, 1, 1, [97, 112, 105], [], [111], 0, 5, false, [], []⟩ : Zg)]).map Zf) false)]))], []⟩) (fun a w h => (Z17 _ (ghost_freeze (m := 13) (sz := 14) (es := (List.map Zf ([(⟨9, 1, 0, 0, 1, 1, [119, 101, 98], [], [111], 0, 30, false, [], []⟩ : Zg), (⟨9, 2, 1, 0, 1, 1, [97, 112, 105], [], [111], 0, 10, true, [], []⟩ : Zg), (⟨9, 3, 2, 0, 1, 1, [97, 112, 105], [], [111], 0, 5, false, [], []⟩ : Zg)]))) a w (Z17 ⟨[(14, (.ag [(.int .i64 9), (.int .i64 2), (.vs 13)]))], [(13, (.vec 14 (List.map Zf ([(⟨9, 1, 0, 0, 1, 1, [119, 101, 98], [], [111], 0, 30, false, [], []⟩ : Zg), (⟨9, 2, 1, 0, 1, 1, [97, 112, 105], [], [111], 0, 10, true, [], []⟩ : Zg), (⟨9, 3, 2, 0, 1, 1, [97, 112, 105], [], [111], 0, 5, false, [], []⟩ : Zg)]))))]⟩ h ⟨I, J0⟩ ⟨I, J0⟩)) ⟨I, J0⟩ J0)) <| Z1 I (Z1i (vs := [(.ag [(.int .i64 9), (.int .i64 2), (.sl 14 (([(⟨9, 1, 0, 0, 1, 1, [119, 101, 98], [], [111], 0, 30, false, [], []⟩ : Zg), (⟨9, 2, 1, 0, 1, 1, [97, 112, 105], [], [111], 0, 10, true, [], []⟩ : Zg), (⟨9, 3, 2, 0, 1, 1, [97, 112, 105], [], [111], 0, 5, false, [], []⟩ : Zg)]).map Zf) false)])]) (enc := Zp) (l := [(⟨9, 2, [(⟨9, 1, 0, 0, 1, 1, [119, 101, 98], [], [111], 0, 30, false, [], []⟩ : Zg), (⟨9, 2, 1, 0, 1, 1, [97, 112, 105], [], [111], 0, 10, true, [], []⟩ : Zg), (⟨9, 3, 2, 0, 1, 1, [97, 112, 105], [], [111], 0, 5, false, [], []⟩ : Zg)]⟩ : Zo)]) I el31 I I ⟨I, J0⟩ I els_Tapi_Trace I I I I) I ?_
 have ⟨v2, hv2, h⟩ := Z1b h
 refine Z1 I (st_call (d := some 16) (c := ⟨[(.vs 15)] ++ [], [(15, (.vec 3 (List.map Zp ([(⟨9, 2, [(⟨9, 1, 0, 0, 1, 1, [119, 101, 98], [], [111], 0, 30, false, [], []⟩ : Zg), (⟨9, 2, 1, 0, 1, 1, [97, 112, 105], [], [111], 0, 10, true, [], []⟩ : Zg), (⟨9, 3, 2, 0, 1, 1, [97, 112, 105], [], [111], 0, 5, false, [], []⟩ : Zg)]⟩ : Zo)]))))], (.tup [(Zm v2.2), (.int .i64 v2.1)]), [(15, (.vec 3 (List.map Zp ([(⟨9, 2, [(⟨9, 1, 0, 0, 1, 1, [119, 101, 98], [], [111], 0, 30, false, [], []⟩ : Zg), (⟨9, 2, 1, 0, 1, 1, [97, 112, 105], [], [111], 0, 10, true, [], []⟩ : Zg), (⟨9, 3, 2, 0, 1, 1, [97, 112, 105], [], [111], 0, 5, false, [], []⟩ : Zg)]⟩ : Zo)]))))], []⟩) (ar := [(.vs 15)]) (caps := []) (news := []) (forg := []) Tryz.call17 ((F17_ok K ([(⟨9, 2, [(⟨9, 1, 0, 0, 1, 1, [119, 101, 98], [], [111], 0, 30, false, [], []⟩ : Zg), (⟨9, 2, 1, 0, 1, 1, [97, 112, 105], [], [111], 0, 10, true, [], []⟩ : Zg), (⟨9, 3, 2, 0, 1, 1, [97, 112, 105], [], [111], 0, 5, false, [], []⟩ : Zg)]⟩ : Zo)]) v2 hv2).sw 2000 15) I I ⟨I, J0⟩ I ⟨I, J0⟩ I) I <| Z1 I (Zh I I) I <| Z1 I (st_extract I I I) I <| Z1 I (st_extract I I I) I <| Z1 I (Z1z I z44 I I I) I <| Z1 I (Z19 sz44 I I I I I I I I) I <| Z1 I (Zj I I) I <| Z8 <| Z9 <| Zb <| Z4 <| Z1 I (Zh I I) I <| Z1 I (Z1y (b := 0) (c := (v2.1 == 0)) I I I I) I <| Z1 I (Zh I I) I ?_
 have hif := Z2a h
 refine AOps.split (fun hc => ?_) (fun hc => ?_)
 ·have h := hif.1 hc
  refine Z11 I I I I (Z1l I a44 I I I I) I <| Z11 I I I I (stx_build (vs := [(0, (.str [97, 112, 105])), (1, (.int .i64 4)), (2, (.int .i64 2))]) I st68 ⟨I, I, I, I, I, I, J0⟩ I) I <| Z11 I I I I (stx_build (vs := [(0, (.str [119, 101, 98])), (1, (.int .i64 2)), (3, (.int .i64 2))]) I st68 ⟨I, I, I, I, I, I, J0⟩ I) I <| Z11 I I I I (Z1i (vs := [(.ag [(.str [97, 112, 105]), (.int .i64 4), (.int .i64 2), (.int .i64 0)]), (.ag [(.str [119, 101, 98]), (.int .i64 2), (.int .i64 0), (.int .i64 2)])]) (enc := Z6) (l := [(⟨[97, 112, 105], 4, 2, 0⟩ : Zc), (⟨[119, 101, 98], 2, 0, 2⟩ : Zc)]) I el41 I I ⟨I, I, J0⟩ I els_Ttopology_Service I I I I) I <| Z11 I I I I (stx_build (vs := [(0, (.str [119, 101, 98])), (1, (.str [97, 112, 105])), (2, (.int .i64 2)), (3, (.int .i64 2)), (4, (.int .i64 20))]) I st88 ⟨I, I, I, I, I, I, I, I, I, I, J0⟩ I) I <| Z11 I I I I (Z1i (vs := [(.ag [(.str [119, 101, 98]), (.str [97, 112, 105]), (.int .i64 2), (.int .i64 2), (.int .i64 20)])]) (enc := Ze) (l := [(⟨[119, 101, 98], [97, 112, 105], 2, 2, 20⟩ : Zl)]) I el42 I I ⟨I, J0⟩ I els_Ttopology_Call I I I I) I <| Z11 I I I I (stx_build (vs := [(0, (.vs 25)), (1, (.vs 27))]) I st44 ⟨I, I, I, I, J0⟩ I) I <| AOps.ghost (st' := ⟨[(21, (.bool true)), (22, (Zm v2.2)), (28, (.ag [(.sl 4 (([(⟨[97, 112, 105], 4, 2, 0⟩ : Zc), (⟨[119, 101, 98], 2, 0, 2⟩ : Zc)]).map Z6) false), (.vs 27)]))], [(27, (.vec 5 (List.map Ze ([(⟨[119, 101, 98], [97, 112, 105], 2, 2, 20⟩ : Zl)]))))]⟩) (fun a w h => (Z17 _ (ghost_freeze (m := 25) (sz := 4) (es := (List.map Z6 ([(⟨[97, 112, 105], 4, 2, 0⟩ : Zc), (⟨[119, 101, 98], 2, 0, 2⟩ : Zc)]))) a w (Z17 ⟨[(21, (.bool true)), (22, (Zm v2.2)), (28, (.ag [(.vs 25), (.vs 27)]))], [(25, (.vec 4 (List.map Z6 ([(⟨[97, 112, 105], 4, 2, 0⟩ : Zc), (⟨[119, 101, 98], 2, 0, 2⟩ : Zc)])))), (27, (.vec 5 (List.map Ze ([(⟨[119, 101, 98], [97, 112, 105], 2, 2, 20⟩ : Zl)]))))]⟩ h ⟨I, I, I, J0⟩ ⟨I, I, J0⟩)) ⟨I, I, I, J0⟩ ⟨I, J0⟩)) <| AOps.ghost (st' := ⟨[(21, (.bool true)), (22, (Zm v2.2)), (28, (.ag [(.sl 4 (([(⟨[97, 112, 105], 4, 2, 0⟩ : Zc), (⟨[119, 101, 98], 2, 0, 2⟩ : Zc)]).map Z6) false), (.sl 5 (([(⟨[119, 101, 98], [97, 112, 105], 2, 2, 20⟩ : Zl)]).map Ze) false)]))], []⟩) (fun a w h => (Z17 _ (ghost_freeze (m := 27) (sz := 5) (es := (List.map Ze ([(⟨[119, 101, 98], [97, 112, 105], 2, 2, 20⟩ : Zl)]))) a w (Z17 ⟨[(21, (.bool true)), (22, (Zm v2.2)), (28, (.ag [(.sl 4 (([(⟨[97, 112, 105], 4, 2, 0⟩ : Zc), (⟨[119, 101, 98], 2, 0, 2⟩ : Zc)]).map Z6) false), (.vs 27)]))], [(27, (.vec 5 (List.map Ze ([(⟨[119, 101, 98], [97, 112, 105], 2, 2, 20⟩ : Zl)]))))]⟩ h ⟨I, I, I, J0⟩ ⟨I, J0⟩)) ⟨I, I, I, J0⟩ J0)) ?_
  have ⟨v4, hv4, h⟩ := Z1b h
  refine Z11 I I I I (Z1h (ar := [(Zm v2.2), (.ag [(.sl 4 (([(⟨[97, 112, 105], 4, 2, 0⟩ : Zc), (⟨[119, 101, 98], 2, 0, 2⟩ : Zc)]).map Z6) false), (.sl 5 (([(⟨[119, 101, 98], [97, 112, 105], 2, 2, 20⟩ : Zl)]).map Ze) false)])]) Tryz.call19 (F19_ok K v2.2 (⟨[(⟨[97, 112, 105], 4, 2, 0⟩ : Zc), (⟨[119, 101, 98], 2, 0, 2⟩ : Zc)], [(⟨[119, 101, 98], [97, 112, 105], 2, 2, 20⟩ : Zl)]⟩ : Zd) v4 hv4) I I ⟨I, I, J0⟩ I) I <| Z1 I (st_pickT I I I) I <| Z1 I (Zj I I) I <| Z8 <| Z9 <| Z1e ?_
  have h := Option.some.inj h
  subst h
  refine (hret _ ?_).1
  exact ⟨[(.bool v4)], ⟨I, J0⟩, I, J0⟩
 have h := hif.2 hc
 iterate 8 refine Z1u I I I I I I I ?_
 refine Z1 I (st_pickF (v := (.bool false)) I I I) I <| Z1 I (Zj (v := (.bool false)) I I) I <| Z8 <| Z9 <| Z1e ?_
 have h := Option.some.inj h
 subst h
 refine (hret _ ?_).1
 exact ⟨[(.bool false)], ⟨I, J0⟩, I, J0⟩
def F12_c3 (_K : Nat) (a0 : Zy) : Option (Bool) :=
 if (decide ((a0.Trees.length : Int) ≤ 3)) = true then
 some (decide ((a0.Syncs.length : Int) ≤ 6))
 else
 some false
def F12_l2 (K : Nat) (a0 : Zy) (c4 : Option (Bool)) : Nat → Int → Option (Bool)
 | 0, _ => none
 | k2 + 1, v1 =>
 if (decide (v1 < (a0.Trees.length : Int))) = true then
 if (0 : Int) ≤ v1 ∧ v1 < a0.Trees.length then
 if (decide (((a0.Trees.getD v1.toNat Zi).Calls.length : Int) > 8)) = true then
 some false
 else
 (F12_l2 K a0 c4 k2) (IntKind.i64.wrap (v1 + 1))
 else none
 else
 c4
def F12 (K : Nat) (a0 : Zy) : Option (Bool) :=
 F12_l2 K a0 (F12_c3 K a0) K 0
theorem F12_ok (K : Nat) (a0 : Zy) (r : Bool) (h : F12 K a0 = some r) : ACall P 12 ⟨[(Z1a a0)], [], (.bool r), [], []⟩ := by
 refine Z1r Tryz.func12 Tryz.results12 rfl Tryz.ntmps12 rfl rfl rfl ?_
 intro E Q hP hN hro hret
 obtain ⟨P', nt', w0, F0, p0, S0, β0, ro0⟩ := E
 simp only at hP hN
 subst hP hN
 dsimp only [argT]
 unfold F12 at h
 refine Zb <| Z4 <| Z1 I (st_box I I I I I) I <| Z1 I (Zj (v := (.bool false)) I I) I <| Z8 <| Z9 <| Zb <| Zb <| Z4 <| Z1 I (Zj (v := (.int .i64 0)) I I) I <| Z8 <| Z9 <| Z1v (st' := ⟨[(1, (.ptr 1 0)), (3, (.int .i64 0))], [(1, (.box (Z1a a0).cells))]⟩) ⟨I, I, J0⟩ ⟨I, J0⟩ ?_
 refine Z1g (V := Int) (X := Unit) (lp := fun k v => F12_l2 K a0 (F12_c3 K a0) k v = some r) (sh := fun v => ⟨[(1, (.ptr 1 0)), (3, (.int .i64 v))], [(1, (.box (Z1a a0).cells))]⟩) (x := fun v => F12_c3 K a0 = some r) (shx := fun v => ⟨[(1, (.ptr 1 0))], [(1, (.box (Z1a a0).cells))]⟩) (k := K) (v := 0) h ?_ ?_
 ·intro v h
  try dsimp only at h ⊢
  unfold F12_c3 at h
  refine Z9 <| Zb <| Z4 <| Z1 I (Zn I f27_0 I I) I <| Z1 I (Zs I o22 I I I) I <| Z1 I (stx_len (l := a0.Trees) (enc := Z1o) I s22 I) I <| Z1 I (Z1y (b := 3) (c := (decide ((a0.Trees.length : Int) ≤ 3))) I I I I) I <| Z1 I (Zh I I) I ?_
  have hif := Z2a h
  refine AOps.split (fun hc => ?_) (fun hc => ?_)
  ·have h := hif.1 hc
   refine Z11 I I I I (Zn I f27_2 I I) I <| Z11 I I I I (Zs I o25 I I I) I <| Z11 I I I I (stx_len (l := a0.Syncs) (enc := e_Tsleuthlaw13_Sync) I s25 I) I <| Z11 I I I I (Z1y (b := 6) (c := (decide ((a0.Syncs.length : Int) ≤ 6))) I I I I) I <| Z1 I (st_pickT I I I) I <| Z1 I (Zj I I) I <| Z8 <| Z9 <| Z1e ?_
   have h := Option.some.inj h
   subst h
   refine (hret _ ?_).1
   exact ⟨[(.bool (decide ((a0.Syncs.length : Int) ≤ 6)))], ⟨I, J0⟩, I, J0⟩
  have h := hif.2 hc
  iterate 4 refine Z1u I I I I I I I ?_
  refine Z1 I (st_pickF (v := (.bool false)) I I I) I <| Z1 I (Zj (v := (.bool false)) I I) I <| Z8 <| Z9 <| Z1e ?_
  have h := Option.some.inj h
  subst h
  refine (hret _ ?_).1
  exact ⟨[(.bool false)], ⟨I, J0⟩, I, J0⟩
 intro N k2 v h IH2 J2
 revert h
 revert v
 intro v1 h
 try dsimp only at h IH2 J2 ⊢
 cases k2 with
 | zero => cases h
 | succ k2 =>
  rw [F12_l2] at h
  refine Zb <| Zb <| Z4 <| Z1 I (Zh I I) I <| Z1 I (Zn I f27_0 I I) I <| Z1 I (Zs I o22 I I I) I <| Z1 I (stx_len (l := a0.Trees) (enc := Z1o) I s22 I) I <| Z1 I (Z1y (c := (decide (v1 < (a0.Trees.length : Int)))) I I I I) I <| Z8 <| Z9 ?_
  have hif := Z2a h
  refine Z15 I (fun hc => ?_) (fun hc => ?_)
  ·have h := hif.1 hc
   refine Z18 <| Z9 <| Zb <| Z25 <| Zb <| Z4 <| Z1 I (Zn I f27_0 I I) I <| Z1 I (Zs I o22 I I I) I <| Z1 I (Zh I I) I ?_
   have ⟨hg6, h⟩ := Zx h
   refine Z1 I (Z1s (k := .i64) (l := a0.Trees) (enc := Z1o) (z := Zi) (n := v1) (full := false) I s22 I I hg6 I) I <| Z1 I (st_fieldI I f105_2 I I I) I <| Z1 I (st_loadI I o103 I I) I <| Z1 I (stx_len (l := (a0.Trees.getD v1.toNat Zi).Calls) (enc := Z1n) I s103 I) I <| Z1 I (Z1y (b := 8) (c := (decide (((a0.Trees.getD v1.toNat Zi).Calls.length : Int) > 8))) I I I I) I <| Z8 <| Z9 ?_
   have hif := Z2a h
   refine Z15 I (fun hc => ?_) (fun hc => ?_)
   ·have h := hif.1 hc
    refine Zb <| Z4 <| Z1 I (Zj (v := (.bool false)) I I) I <| Z8 <| Z9 <| Z1e <| At.overR <| Z1m ?_
    refine Z1m (At.overR ?_)
    refine Z1m ?_
    have h := Option.some.inj h
    subst h
    refine (hret _ ?_).1
    exact ⟨[(.bool false)], ⟨I, J0⟩, I, J0⟩
   have h := hif.2 hc
   refine Z18 <| At.end <| Z9 <| Z4 <| Z1 I (Zh I I) I <| Z1 I (Z1c (k := .i64) (b := 1) (c := (IntKind.i64.wrap (v1 + 1))) I I I I) I <| Z1 I (Zj I I) I <| Z8 ?_
   exact Z1d (IH2 _ (IntKind.i64.wrap (v1 + 1)) (Nat.lt_succ_self _) h) ⟨I, I, J0⟩ ⟨I, J0⟩
  have h := hif.2 hc
  refine Z29 <| At.thru ?_
  exact Z1d (J2 () h) ⟨I, J0⟩ ⟨I, J0⟩
def F82 (_K : Nat) (a0 : Zy) (a1 : Int) : Option (Int) :=
 if (0 : Int) ≤ a1 ∧ a1 < a0.Trees.length then
 if (0 : Int) ≤ 20 then
 some (IntKind.i64.wrap ((IntKind.i64.wrap ((IntKind.i64.wrap ((IntKind.i64.wrap ((a0.Trees.getD a1.toNat Zi).Slot.tmod 64)) * 2 ^ (min (20 : Int).toNat IntKind.i64.bits))) + 1)) + a1))
 else none
 else none
theorem F82_ok (K : Nat) (a0 : Zy) (a1 : Int) (r : Int) (h : F82 K a0 a1 = some r) : ACall P 82 ⟨[(Z1a a0), (.int .i64 a1)], [], (.int .i64 r), [], []⟩ := by
 refine Z1r Tryz.func82 Tryz.results82 rfl Tryz.ntmps82 rfl rfl rfl ?_
 intro E Q hP hN hro hret
 obtain ⟨P', nt', w0, F0, p0, S0, β0, ro0⟩ := E
 simp only at hP hN
 subst hP hN
 dsimp only [argT]
 unfold F82 at h
 refine Zb <| Z4 <| Z1 I (st_box I I I I I) I <| Z1 I (Zj (v := (.int .i64 0)) I I) I <| Z8 <| Z9 <| Zb <| Z4 <| Z1 I (Zn I f27_0 I I) I <| Z1 I (Zs I o22 I I I) I <| Z1 I (Zh I I) I ?_
 have ⟨hg1, h⟩ := Zx h
 refine Z1 I (Z1s (k := .i64) (l := a0.Trees) (enc := Z1o) (z := Zi) (n := a1) (full := false) I s22 I I hg1 I) I <| Z1 I (st_fieldI I f105_0 I I I) I <| Z1 I (st_loadI I o5 I I) I <| Z1 I (st_div (b := 64) (c := ((a0.Trees.getD a1.toNat Zi).Slot.tmod 64)) I I I I (by decide)) I <| Z1 I (st_conv I us5 u3 I) I ?_
 have ⟨hg2, h⟩ := Zx h
 refine Z1 I (st_shift (k := .i64) (j := .u64) (a := (IntKind.i64.wrap ((a0.Trees.getD a1.toNat Zi).Slot.tmod 64))) (b := 20) (c := (IntKind.i64.wrap ((IntKind.i64.wrap ((a0.Trees.getD a1.toNat Zi).Slot.tmod 64)) * 2 ^ (min (20 : Int).toNat IntKind.i64.bits)))) I I I I hg2) I <| Z1 I (Z1c (k := .i64) (b := 1) (c := (IntKind.i64.wrap ((IntKind.i64.wrap ((IntKind.i64.wrap ((a0.Trees.getD a1.toNat Zi).Slot.tmod 64)) * 2 ^ (min (20 : Int).toNat IntKind.i64.bits))) + 1))) I I I I) I <| Z1 I (Zh I I) I <| Z1 I (Z1c (k := .i64) (c := (IntKind.i64.wrap ((IntKind.i64.wrap ((IntKind.i64.wrap ((IntKind.i64.wrap ((a0.Trees.getD a1.toNat Zi).Slot.tmod 64)) * 2 ^ (min (20 : Int).toNat IntKind.i64.bits))) + 1)) + a1))) I I I I) I <| Z1 I (Zj I I) I <| Z8 <| Z9 <| Z1e ?_
 have h := Option.some.inj h
 subst h
 refine (hret _ ?_).1
 exact ⟨[(.int .i64 (IntKind.i64.wrap ((IntKind.i64.wrap ((IntKind.i64.wrap ((IntKind.i64.wrap ((a0.Trees.getD a1.toNat Zi).Slot.tmod 64)) * 2 ^ (min (20 : Int).toNat IntKind.i64.bits))) + 1)) + a1)))], ⟨I, J0⟩, I, J0⟩
def F153 (_K : Nat) (a0 : Z28) : Option (Int) :=
 some (IntKind.i64.wrap (1 + (IntKind.i64.wrap (a0.Kind.tmod 5))))
theorem F153_ok (K : Nat) (a0 : Z28) (r : Int) (h : F153 K a0 = some r) : ACall P 153 ⟨[(Z1n a0)], [], (.int .i64 r), [], []⟩ := by
 refine Z1r Tryz.func153 Tryz.results153 rfl Tryz.ntmps153 rfl rfl rfl ?_
 intro E Q hP hN hro hret
 obtain ⟨P', nt', w0, F0, p0, S0, β0, ro0⟩ := E
 simp only at hP hN
 subst hP hN
 dsimp only [argT]
 unfold F153 at h
 refine Zb <| Z4 <| Z1 I (st_box I I I I I) I <| Z1 I (Zj (v := (.int .i64 0)) I I) I <| Z8 <| Z9 <| Zb <| Z4 <| Z1 I (Zn I f241_2 I I) I <| Z1 I (Zs I o5 I I I) I <| Z1 I (st_div (b := 5) (c := (a0.Kind.tmod 5)) I I I I (by decide)) I <| Z1 I (st_conv I us5 u3 I) I <| Z1 I (Z1c (k := .i64) (a := 1) (c := (IntKind.i64.wrap (1 + (IntKind.i64.wrap (a0.Kind.tmod 5))))) I I I I) I <| Z1 I (Zj I I) I <| Z8 <| Z9 <| Z1e ?_
 have h := Option.some.inj h
 subst h
 refine (hret _ ?_).1
 exact ⟨[(.int .i64 (IntKind.i64.wrap (1 + (IntKind.i64.wrap (a0.Kind.tmod 5)))))], ⟨I, J0⟩, I, J0⟩
def F122_c13 (_K : Nat) (v5 : (List Int)) (v12 : (List Int)) : Option ((List Int) × (List Int)) :=
 some (v5, v12)
def F122_j21 (_K : Nat) (b15 : Int → (List Int) → Option ((List Int) × (List Int))) (v9 : Int) (v20 : (List Int)) : Option ((List Int) × (List Int)) :=
 b15 (IntKind.i64.wrap (v9 - 1)) v20
def F122_j19 (K : Nat) (a0 : Z12) (v9 : Int) (v10 : (List Int)) (b15 : Int → (List Int) → Option ((List Int) × (List Int))) (v18 : Bool) : Option ((List Int) × (List Int)) :=
 if v18 = true then
 if (0 : Int) ≤ ((IntKind.i64.wrap (a0.Calls.getD v9.toNat Za).Parent).tmod (IntKind.i64.wrap (v9 + 1))) ∧ ((IntKind.i64.wrap (a0.Calls.getD v9.toNat Za).Parent).tmod (IntKind.i64.wrap (v9 + 1))) < (v10.length : Nat) then
 if ((IntKind.i64.wrap (a0.Calls.getD v9.toNat Za).Parent).tmod (IntKind.i64.wrap (v9 + 1))).toNat < v10.length then
 if (0 : Int) ≤ v9 ∧ v9 < (v10.length : Nat) then
 if v9.toNat < v10.length then
 if (0 : Int) ≤ ((IntKind.i64.wrap (a0.Calls.getD v9.toNat Za).Parent).tmod (IntKind.i64.wrap (v9 + 1))) ∧ ((IntKind.i64.wrap (a0.Calls.getD v9.toNat Za).Parent).tmod (IntKind.i64.wrap (v9 + 1))) < (v10.length : Nat) then
 if ((IntKind.i64.wrap (a0.Calls.getD v9.toNat Za).Parent).tmod (IntKind.i64.wrap (v9 + 1))).toNat < v10.length then
 F122_j21 K b15 v9 (v10.set ((IntKind.i64.wrap (a0.Calls.getD v9.toNat Za).Parent).tmod (IntKind.i64.wrap (v9 + 1))).toNat (if (v10.getD v9.toNat 0) > (v10.getD ((IntKind.i64.wrap (a0.Calls.getD v9.toNat Za).Parent).tmod (IntKind.i64.wrap (v9 + 1))).toNat 0) then (v10.getD v9.toNat 0) else (v10.getD ((IntKind.i64.wrap (a0.Calls.getD v9.toNat Za).Parent).tmod (IntKind.i64.wrap (v9 + 1))).toNat 0)))
 else none
 else none
 else none
 else none
 else none
 else none
 else
 F122_j21 K b15 v9 v10
def F122_l11 (K : Nat) (a0 : Z12) (c14 : (List Int) → Option ((List Int) × (List Int))) : Nat → Int → (List Int) → Option ((List Int) × (List Int))
 | 0, _, _ => none
 | k11 + 1, v9, v10 =>
 if (decide (v9 > 0)) = true then
 if (0 : Int) ≤ v9 ∧ v9 < a0.Calls.length then
 if (IntKind.i64.wrap (v9 + 1)) ≠ 0 then
 if (decide (((IntKind.i64.wrap (a0.Calls.getD v9.toNat Za).Parent).tmod (IntKind.i64.wrap (v9 + 1))) < v9)) = true then
 if (0 : Int) ≤ v9 ∧ v9 < a0.Calls.length then
 (F153 K (a0.Calls.getD v9.toNat Za)).bind fun v30 =>
 if (v30 == 3) = true then
 if (0 : Int) ≤ ((IntKind.i64.wrap (a0.Calls.getD v9.toNat Za).Parent).tmod (IntKind.i64.wrap (v9 + 1))) ∧ ((IntKind.i64.wrap (a0.Calls.getD v9.toNat Za).Parent).tmod (IntKind.i64.wrap (v9 + 1))) < a0.Calls.length then
 (F153 K (a0.Calls.getD ((IntKind.i64.wrap (a0.Calls.getD v9.toNat Za).Parent).tmod (IntKind.i64.wrap (v9 + 1))).toNat Za)).bind fun v33 =>
 if (v33 == 2) = true then
 if (0 : Int) ≤ ((IntKind.i64.wrap (a0.Calls.getD v9.toNat Za).Parent).tmod (IntKind.i64.wrap (v9 + 1))) ∧ ((IntKind.i64.wrap (a0.Calls.getD v9.toNat Za).Parent).tmod (IntKind.i64.wrap (v9 + 1))) < a0.Calls.length then
 F122_j19 K a0 v9 v10 (F122_l11 K a0 c14 k11) (!(a0.Calls.getD ((IntKind.i64.wrap (a0.Calls.getD v9.toNat Za).Parent).tmod (IntKind.i64.wrap (v9 + 1))).toNat Za).Fail)
 else none
 else
 F122_j19 K a0 v9 v10 (F122_l11 K a0 c14 k11) false
 else none
 else
 F122_j19 K a0 v9 v10 (F122_l11 K a0 c14 k11) false
 else none
 else
 F122_j19 K a0 v9 v10 (F122_l11 K a0 c14 k11) false
 else none
 else none
 else
 c14 v10
def F122_c7 (K : Nat) (a0 : Z12) (v5 : (List Int)) (v6 : (List Int)) : Option ((List Int) × (List Int)) :=
 F122_l11 K a0 (F122_c13 K v5) K (IntKind.i64.wrap ((a0.Calls.length : Int) - 1)) v6
def F122_j41 (_K : Nat) (v2 : (List Int)) (v3 : (List Int)) (a0 : Z12) (v1 : Int) (b35 : Int → (List Int) → (List Int) → Option ((List Int) × (List Int))) (v40 : Int) : Option ((List Int) × (List Int)) :=
 if v2.length + [v40].length ≤ 1073741824 then
 if v3.length + [(IntKind.i64.wrap (v40 + (IntKind.i64.wrap ((a0.Calls.getD v1.toNat Za).Long.tmod 32))))].length ≤ 1073741824 then
 b35 (IntKind.i64.wrap (v1 + 1)) (v2 ++ [v40]) (v3 ++ [(IntKind.i64.wrap (v40 + (IntKind.i64.wrap ((a0.Calls.getD v1.toNat Za).Long.tmod 32))))])
 else none
 else none
def F122_j39 (K : Nat) (v1 : Int) (v2 : (List Int)) (v3 : (List Int)) (a0 : Z12) (b35 : Int → (List Int) → (List Int) → Option ((List Int) × (List Int))) (v38 : Int) : Option ((List Int) × (List Int)) :=
 if (decide (v1 > 0)) = true then
 F122_j41 K v2 v3 a0 v1 b35 (IntKind.i64.wrap (v38 + (IntKind.i64.wrap ((a0.Calls.getD v1.toNat Za).Wait.tmod 32))))
 else
 F122_j41 K v2 v3 a0 v1 b35 v38
def F122_l4 (K : Nat) (a0 : Z12) (c8 : (List Int) → (List Int) → Option ((List Int) × (List Int))) : Nat → Int → (List Int) → (List Int) → Option ((List Int) × (List Int))
 | 0, _, _, _ => none
 | k4 + 1, v1, v2, v3 =>
 if (decide (v1 < (a0.Calls.length : Int))) = true then
 if (0 : Int) ≤ v1 ∧ v1 < a0.Calls.length then
 if (IntKind.i64.wrap (v1 + 1)) ≠ 0 then
 if (decide (((IntKind.i64.wrap (a0.Calls.getD v1.toNat Za).Parent).tmod (IntKind.i64.wrap (v1 + 1))) < v1)) = true then
 if (0 : Int) ≤ ((IntKind.i64.wrap (a0.Calls.getD v1.toNat Za).Parent).tmod (IntKind.i64.wrap (v1 + 1))) ∧ ((IntKind.i64.wrap (a0.Calls.getD v1.toNat Za).Parent).tmod (IntKind.i64.wrap (v1 + 1))) < (v2.length : Nat) then
 if ((IntKind.i64.wrap (a0.Calls.getD v1.toNat Za).Parent).tmod (IntKind.i64.wrap (v1 + 1))).toNat < v2.length then
 F122_j39 K v1 v2 v3 a0 (F122_l4 K a0 c8 k4) (v2.getD ((IntKind.i64.wrap (a0.Calls.getD v1.toNat Za).Parent).tmod (IntKind.i64.wrap (v1 + 1))).toNat 0)
 else none
 else none
 else
 F122_j39 K v1 v2 v3 a0 (F122_l4 K a0 c8 k4) (IntKind.i64.wrap (1000 + (IntKind.i64.wrap (a0.Start.tmod 32))))
 else none
 else none
 else
 c8 v2 v3
def F122 (K : Nat) (a0 : Z12) : Option ((List Int) × (List Int)) :=
 F122_l4 K a0 (F122_c7 K a0) K 0 [] []
theorem F122_ok (K : Nat) (a0 : Z12) (r : (List Int) × (List Int)) (h : F122 K a0 = some r) : ACall P 122 ⟨[(Z1o a0)], [], (.tup [(.sl 1 (r.1.map Z1f) false), (.sl 1 (r.2.map Z1f) false)]), [], []⟩ := by
 refine Z1r Tryz.func122 Tryz.results122 rfl Tryz.ntmps122 rfl rfl rfl ?_
 intro E Q hP hN hro hret
 obtain ⟨P', nt', w0, F0, p0, S0, β0, ro0⟩ := E
 simp only at hP hN
 subst hP hN
 dsimp only [argT]
 unfold F122 at h
 refine Zb <| Z4 <| Z1 I (st_box I I I I I) I <| Z1 I (Zj (v := (.sl 1 [] true)) I I) I <| Z1 I (Zj (v := (.sl 1 [] true)) I I) I <| Z8 <| Z9 <| Zb <| Zb <| Z4 <| Z1 I (Zj (v := (.int .i64 0)) I I) I <| Z8 <| Z9 <| AWp.ghost (st' := ⟨[(1, (.ptr 1 0)), (2, (.vs 2)), (3, (.vs 3)), (4, (.int .i64 0))], [(1, (.box (Z1o a0).cells)), (2, (.vec 1 (List.map Z1f ([] : List Int)))), (3, (.vec 1 (List.map Z1f ([] : List Int))))]⟩) (fun a w h => (Z17 _ (ghost_own (k := 3) (m := 3) (sz := 1) I I a w (Z17 ⟨[(3, (.sl 1 [] true)), (1, (.ptr 1 0)), (2, (.vs 2)), (4, (.int .i64 0))], [(1, (.box (Z1o a0).cells)), (2, (.vec 1 (List.map Z1f ([] : List Int))))]⟩ (Z17 ⟨[(1, (.ptr 1 0)), (2, (.vs 2)), (3, (.sl 1 [] true)), (4, (.int .i64 0))], [(1, (.box (Z1o a0).cells)), (2, (.vec 1 (List.map Z1f ([] : List Int))))]⟩ (ghost_own (k := 2) (m := 2) (sz := 1) I I a w (Z17 ⟨[(2, (.sl 1 [] true)), (1, (.ptr 1 0)), (3, (.sl 1 [] true)), (4, (.int .i64 0))], [(1, (.box (Z1o a0).cells))]⟩ h ⟨I, I, I, I, J0⟩ ⟨I, J0⟩)) ⟨I, I, I, I, J0⟩ ⟨I, I, J0⟩) ⟨I, I, I, I, J0⟩ ⟨I, I, J0⟩)) ⟨I, I, I, I, J0⟩ ⟨I, I, I, J0⟩)) <| Z1v (st' := ⟨[(1, (.ptr 1 0)), (2, (.vs 2)), (3, (.vs 3)), (4, (.int .i64 0))], [(1, (.box (Z1o a0).cells)), (2, (.vec 1 (List.map Z1f []))), (3, (.vec 1 (List.map Z1f [])))]⟩) ⟨I, I, I, I, J0⟩ ⟨I, I, I, J0⟩ ?_
 refine Z1g (V := Int × (List Int) × (List Int)) (X := (List Int) × (List Int)) (lp := fun k v => F122_l4 K a0 (F122_c7 K a0) k v.1 v.2.1 v.2.2 = some r) (sh := fun v => ⟨[(1, (.ptr 1 0)), (2, (.vs 2)), (3, (.vs 3)), (4, (.int .i64 v.1))], [(1, (.box (Z1o a0).cells)), (2, (.vec 1 (List.map Z1f v.2.1))), (3, (.vec 1 (List.map Z1f v.2.2)))]⟩) (x := fun v => F122_c7 K a0 v.1 v.2 = some r) (shx := fun v => ⟨[(1, (.ptr 1 0)), (2, (.vs 2)), (3, (.vs 3))], [(1, (.box (Z1o a0).cells)), (2, (.vec 1 (List.map Z1f v.1))), (3, (.vec 1 (List.map Z1f v.2)))]⟩) (k := K) (v := (0, [], [])) h ?_ ?_
 ·intro v h
  obtain ⟨v5, v6⟩ := v
  try dsimp only at h ⊢
  unfold F122_c7 at h
  refine Z9 <| Zb <| Zb <| Z4 <| Z1 I (Zn I f105_2 I I) I <| Z1 I (Zs I o103 I I I) I <| Z1 I (stx_len (l := a0.Calls) (enc := Z1n) I s103 I) I <| Z1 I (Z1c (k := .i64) (b := 1) (c := (IntKind.i64.wrap ((a0.Calls.length : Int) - 1))) I I I I) I <| Z1 I (Zj I I) I <| Z8 <| Z9 <| Z1v (st' := ⟨[(1, (.ptr 1 0)), (2, (.vs 2)), (3, (.vs 3)), (8, (.int .i64 (IntKind.i64.wrap ((a0.Calls.length : Int) - 1))))], [(1, (.box (Z1o a0).cells)), (2, (.vec 1 (List.map Z1f v5))), (3, (.vec 1 (List.map Z1f v6)))]⟩) ⟨I, I, I, I, J0⟩ ⟨I, I, I, J0⟩ ?_
  refine Z1g (V := Int × (List Int)) (X := (List Int)) (lp := fun k v => F122_l11 K a0 (F122_c13 K v5) k v.1 v.2 = some r) (sh := fun v => ⟨[(1, (.ptr 1 0)), (2, (.vs 2)), (3, (.vs 3)), (8, (.int .i64 v.1))], [(1, (.box (Z1o a0).cells)), (2, (.vec 1 (List.map Z1f v5))), (3, (.vec 1 (List.map Z1f v.2)))]⟩) (x := fun v => F122_c13 K v5 v = some r) (shx := fun v => ⟨[(2, (.vs 2)), (3, (.vs 3))], [(2, (.vec 1 (List.map Z1f v5))), (3, (.vec 1 (List.map Z1f v)))]⟩) (k := K) (v := ((IntKind.i64.wrap ((a0.Calls.length : Int) - 1)), v6)) h ?_ ?_
  ·intro v h
   revert h
   revert v
   intro v12 h
   try dsimp only at h ⊢
   unfold F122_c13 at h
   refine Z9 <| Zb <| Z4 <| Z1 I (Zh I I) I <| Z1 I (Zh I I) I <| Z1 I (Zj I I) I <| Z1 I (Zj I I) I <| Z8 <| Z9 <| Z1e <| At.ghost (st' := ⟨[(2, (.sl 1 (v5.map Z1f) false)), (3, (.sl 1 (v12.map Z1f) false))], []⟩) (fun a w h => (Z17 _ (ghost_freeze (m := 3) (sz := 1) (es := (List.map Z1f v12)) a w (Z17 ⟨[(2, (.sl 1 (v5.map Z1f) false)), (3, (.vs 3))], [(3, (.vec 1 (List.map Z1f v12)))]⟩ (Z17 ⟨[(2, (.sl 1 (v5.map Z1f) false)), (3, (.vs 3))], [(3, (.vec 1 (List.map Z1f v12)))]⟩ (ghost_freeze (m := 2) (sz := 1) (es := (List.map Z1f v5)) a w (Z17 ⟨[(2, (.vs 2)), (3, (.vs 3))], [(2, (.vec 1 (List.map Z1f v5))), (3, (.vec 1 (List.map Z1f v12)))]⟩ h ⟨I, I, J0⟩ ⟨I, I, J0⟩)) ⟨I, I, J0⟩ ⟨I, J0⟩) ⟨I, I, J0⟩ ⟨I, J0⟩)) ⟨I, I, J0⟩ J0)) ?_
   have h := Option.some.inj h
   subst h
   refine (hret _ ?_).1
   exact ⟨[(.sl 1 (v5.map Z1f) false), (.sl 1 (v12.map Z1f) false)], ⟨I, I, J0⟩, I, J0⟩
  intro N k11 v h IH11 J11
  obtain ⟨v9, v10⟩ := v
  try dsimp only at h IH11 J11 ⊢
  cases k11 with
  | zero => cases h
  | succ k11 =>
   rw [F122_l11] at h
   refine Zb <| Zb <| Z4 <| Z1 I (Zh I I) I <| Z1 I (Z1y (b := 0) (c := (decide (v9 > 0))) I I I I) I <| Z8 <| Z9 ?_
   have hif := Z2a h
   refine Z15 I (fun hc => ?_) (fun hc => ?_)
   ·have h := hif.1 hc
    refine Z18 <| Z9 <| Zb <| Z25 <| Zb <| Z4 <| Z1 I (Zn I f105_2 I I) I <| Z1 I (Zs I o103 I I I) I <| Z1 I (Zh I I) I ?_
    have ⟨hg16, h⟩ := Zx h
    refine Z1 I (Z1s (k := .i64) (l := a0.Calls) (enc := Z1n) (z := Za) (n := v9) (full := false) I s103 I I hg16 I) I <| Z1 I (st_fieldI I f241_0 I I I) I <| Z1 I (st_loadI I o5 I I) I <| Z1 I (st_conv I us5 u3 I) I <| Z1 I (Zh I I) I <| Z1 I (Z1c (k := .i64) (b := 1) (c := (IntKind.i64.wrap (v9 + 1))) I I I I) I ?_
    have ⟨hg17, h⟩ := Zx h
    refine Z1 I (st_div (c := ((IntKind.i64.wrap (a0.Calls.getD v9.toNat Za).Parent).tmod (IntKind.i64.wrap (v9 + 1)))) I I I I hg17) I <| Z1 I (Zj I I) I <| Z8 <| Z9 <| Zb ?_
    refine AWp.join (V := Bool) (lp := fun v => F122_j19 K a0 v9 v10 (F122_l11 K a0 (F122_c13 K v5) k11) v = some r) (sh := fun v => ⟨[(1, (.ptr 1 0)), (2, (.vs 2)), (3, (.vs 3)), (8, (.int .i64 v9)), (9, (.int .i64 ((IntKind.i64.wrap (a0.Calls.getD v9.toNat Za).Parent).tmod (IntKind.i64.wrap (v9 + 1))))), (108, (.bool v))], [(1, (.box (Z1o a0).cells)), (2, (.vec 1 (List.map Z1f v5))), (3, (.vec 1 (List.map Z1f v10)))]⟩) ?_ ?_
    ·intro v h
     revert h
     revert v
     intro v18 h
     try dsimp only at h ⊢
     unfold F122_j19 at h
     refine Z9 ?_
     refine AWp.join (V := (List Int)) (lp := fun v => F122_j21 K (F122_l11 K a0 (F122_c13 K v5) k11) v9 v = some r) (sh := fun v => ⟨[(1, (.ptr 1 0)), (2, (.vs 2)), (3, (.vs 3)), (8, (.int .i64 v9))], [(1, (.box (Z1o a0).cells)), (2, (.vec 1 (List.map Z1f v5))), (3, (.vec 1 (List.map Z1f v)))]⟩) ?_ ?_
     ·intro v h
      revert h
      revert v
      intro v20 h
      try dsimp only at h ⊢
      unfold F122_j21 at h
      refine At.end <| Z9 <| Z4 <| Z1 I (Zh I I) I <| Z1 I (Z1c (k := .i64) (b := 1) (c := (IntKind.i64.wrap (v9 - 1))) I I I I) I <| Z1 I (Zj I I) I <| Z8 ?_
      exact Z1d (IH11 _ ((IntKind.i64.wrap (v9 - 1)), v20) (Nat.lt_succ_self _) h) ⟨I, I, I, I, J0⟩ ⟨I, I, I, J0⟩
     intro J21
     have hif := Z2a h
     refine Z15 I (fun hc => ?_) (fun hc => ?_)
     ·have h := hif.1 hc
      refine Z1t mixed <| Z3 0 I (Zh I I) <| Z3 1 I (Zh I I) <| Z3 2 I (Zh I I) <| Z3 3 I (Zh I I) ?_
      have ⟨hg22, h⟩ := Zx h
      refine Z3 4 I (st_indexV (k := .i64) (v := (.vs 3)) (n := 3) (off := 0) (len := v10.length) (es := (List.map Z1f v10)) (j := ((IntKind.i64.wrap (a0.Calls.getD v9.toNat Za).Parent).tmod (IntKind.i64.wrap (v9 + 1)))) (m := ((IntKind.i64.wrap (a0.Calls.getD v9.toNat Za).Parent).tmod (IntKind.i64.wrap (v9 + 1))).toNat) I s65 I I (vecR_map _ _ _) I hg22 (Nat.zero_add _)) ?_
      have ⟨hg23, h⟩ := Zx h
      refine Z3 5 I (st_loadV (l := v10) (enc := Z1f) (z := 0) (v := (.int .i64 (v10.getD ((IntKind.i64.wrap (a0.Calls.getD v9.toNat Za).Parent).tmod (IntKind.i64.wrap (v9 + 1))).toNat 0))) I o3 I I hg23 I) <| Z3 6 I (Zh I I) <| Z3 7 I (Zh I I) ?_
      have ⟨hg24, h⟩ := Zx h
      refine Z3 8 I (st_indexV (k := .i64) (v := (.vs 3)) (n := 3) (off := 0) (len := v10.length) (es := (List.map Z1f v10)) (j := v9) (m := v9.toNat) I s65 I I (vecR_map _ _ _) I hg24 (Nat.zero_add _)) ?_
      have ⟨hg25, h⟩ := Zx h
      refine Z3 9 I (st_loadV (l := v10) (enc := Z1f) (z := 0) (v := (.int .i64 (v10.getD v9.toNat 0))) I o3 I I hg25 I) <| Z3 10 I (st_max (k := .i64) (a := (v10.getD ((IntKind.i64.wrap (a0.Calls.getD v9.toNat Za).Parent).tmod (IntKind.i64.wrap (v9 + 1))).toNat 0)) (b := (v10.getD v9.toNat 0)) I I I) ?_
      have ⟨hg26, h⟩ := Zx h
      refine Z3 11 I (st_indexV (k := .i64) (v := (.vs 3)) (n := 3) (off := 0) (len := v10.length) (es := (List.map Z1f v10)) (j := ((IntKind.i64.wrap (a0.Calls.getD v9.toNat Za).Parent).tmod (IntKind.i64.wrap (v9 + 1)))) (m := ((IntKind.i64.wrap (a0.Calls.getD v9.toNat Za).Parent).tmod (IntKind.i64.wrap (v9 + 1))).toNat) I s65 I I (vecR_map _ _ _) I hg26 (Nat.zero_add _)) ?_
      have ⟨hg27, h⟩ := Zx h
      refine Z3 12 I (st_storeV (l := v10) (enc := Z1f) (z := 0) (a := (if (v10.getD v9.toNat 0) > (v10.getD ((IntKind.i64.wrap (a0.Calls.getD v9.toNat Za).Parent).tmod (IntKind.i64.wrap (v9 + 1))).toNat 0) then (v10.getD v9.toNat 0) else (v10.getD ((IntKind.i64.wrap (a0.Calls.getD v9.toNat Za).Parent).tmod (IntKind.i64.wrap (v9 + 1))).toNat 0))) (v := (.int .i64 (if (v10.getD v9.toNat 0) > (v10.getD ((IntKind.i64.wrap (a0.Calls.getD v9.toNat Za).Parent).tmod (IntKind.i64.wrap (v9 + 1))).toNat 0) then (v10.getD v9.toNat 0) else (v10.getD ((IntKind.i64.wrap (a0.Calls.getD v9.toNat Za).Parent).tmod (IntKind.i64.wrap (v9 + 1))).toNat 0)))) sz3 I I hg27 I els_i64 I I I I) <| Z21 (by kernel_rfl) I ?_
      exact Z1d (J21 (v10.set ((IntKind.i64.wrap (a0.Calls.getD v9.toNat Za).Parent).tmod (IntKind.i64.wrap (v9 + 1))).toNat (if (v10.getD v9.toNat 0) > (v10.getD ((IntKind.i64.wrap (a0.Calls.getD v9.toNat Za).Parent).tmod (IntKind.i64.wrap (v9 + 1))).toNat 0) then (v10.getD v9.toNat 0) else (v10.getD ((IntKind.i64.wrap (a0.Calls.getD v9.toNat Za).Parent).tmod (IntKind.i64.wrap (v9 + 1))).toNat 0))) h) ⟨I, I, I, I, J0⟩ ⟨I, I, I, J0⟩
     have h := hif.2 hc
     refine Z18 ?_
     exact Z1d (J21 v10 h) ⟨I, I, I, I, J0⟩ ⟨I, I, I, J0⟩
    intro J19
    refine Z4 <| Z1 I (Zh I I) I <| Z1 I (Zh I I) I <| Z1 I (Z1y (c := (decide (((IntKind.i64.wrap (a0.Calls.getD v9.toNat Za).Parent).tmod (IntKind.i64.wrap (v9 + 1))) < v9))) I I I I) I <| Z1 I (Zh I I) I ?_
    have hif := Z2a h
    refine AOps.split (fun hc => ?_) (fun hc => ?_)
    ·have h := hif.1 hc
     refine Z11 I I I I (Zn I f105_2 I I) I <| Z11 I I I I (Zs I o103 I I I) I <| Z11 I I I I (Zh I I) I ?_
     have ⟨hg28, h⟩ := Zx h
     refine Z11 I I I I (Z1s (k := .i64) (l := a0.Calls) (enc := Z1n) (z := Za) (n := v9) (full := false) I s103 I I hg28 I) I <| Z11 I I I I (st_loadIA I a241 I I I) I ?_
     have ⟨v30, hv30, h⟩ := Z1b h
     refine Z11 I I I I (Z1h (ar := [(Z1n (a0.Calls.getD v9.toNat Za))]) Tryz.call153 (F153_ok K (a0.Calls.getD v9.toNat Za) v30 hv30) I I ⟨I, J0⟩ I) I <| Z11 I I I I (Z1y (b := 3) (c := (v30 == 3)) I I I I) I <| Z1 I (st_pickT I I I) I <| Z1 I (Zh I I) I ?_
     have hif := Z2a h
     refine AOps.split (fun hc => ?_) (fun hc => ?_)
     ·have h := hif.1 hc
      refine Z11 I I I I (Zn I f105_2 I I) I <| Z11 I I I I (Zs I o103 I I I) I <| Z11 I I I I (Zh I I) I ?_
      have ⟨hg31, h⟩ := Zx h
      refine Z11 I I I I (Z1s (k := .i64) (l := a0.Calls) (enc := Z1n) (z := Za) (n := ((IntKind.i64.wrap (a0.Calls.getD v9.toNat Za).Parent).tmod (IntKind.i64.wrap (v9 + 1)))) (full := false) I s103 I I hg31 I) I <| Z11 I I I I (st_loadIA I a241 I I I) I ?_
      have ⟨v33, hv33, h⟩ := Z1b h
      refine Z11 I I I I (Z1h (ar := [(Z1n (a0.Calls.getD ((IntKind.i64.wrap (a0.Calls.getD v9.toNat Za).Parent).tmod (IntKind.i64.wrap (v9 + 1))).toNat Za))]) Tryz.call153 (F153_ok K (a0.Calls.getD ((IntKind.i64.wrap (a0.Calls.getD v9.toNat Za).Parent).tmod (IntKind.i64.wrap (v9 + 1))).toNat Za) v33 hv33) I I ⟨I, J0⟩ I) I <| Z11 I I I I (Z1y (b := 2) (c := (v33 == 2)) I I I I) I <| Z1 I (st_pickT I I I) I <| Z1 I (Zh I I) I ?_
      have hif := Z2a h
      refine AOps.split (fun hc => ?_) (fun hc => ?_)
      ·have h := hif.1 hc
       refine Z11 I I I I (Zn I f105_2 I I) I <| Z11 I I I I (Zs I o103 I I I) I <| Z11 I I I I (Zh I I) I ?_
       have ⟨hg34, h⟩ := Zx h
       refine Z11 I I I I (Z1s (k := .i64) (l := a0.Calls) (enc := Z1n) (z := Za) (n := ((IntKind.i64.wrap (a0.Calls.getD v9.toNat Za).Parent).tmod (IntKind.i64.wrap (v9 + 1)))) (full := false) I s103 I I hg34 I) I <| Z11 I I I I (st_fieldI I f241_10 I I I) I <| Z11 I I I I (st_loadI I o4 I I) I <| Z11 I I I I (st_not I I) I <| Z1 I (st_pickT I I I) I <| Z8 ?_
       exact Z1d (J19 (!(a0.Calls.getD ((IntKind.i64.wrap (a0.Calls.getD v9.toNat Za).Parent).tmod (IntKind.i64.wrap (v9 + 1))).toNat Za).Fail) h) ⟨I, I, I, I, I, I, J0⟩ ⟨I, I, I, J0⟩
      have h := hif.2 hc
      iterate 7 refine Z1u I I I I I I I ?_
      refine Z1 I (st_pickF (v := (.bool false)) I I I) I <| Z8 ?_
      exact Z1d (J19 false h) ⟨I, I, I, I, I, I, J0⟩ ⟨I, I, I, J0⟩
     have h := hif.2 hc
     iterate 7 refine Z1u I I I I I I I ?_
     refine Z1 I (st_pickF (v := (.bool false)) I I I) I <| Z1 I (Zh (v := (.bool false)) I I) I ?_
     iterate 7 refine Z1u I I I I I I I ?_
     refine Z1 I (st_pickF (v := (.bool false)) I I I) I <| Z8 ?_
     exact Z1d (J19 false h) ⟨I, I, I, I, I, I, J0⟩ ⟨I, I, I, J0⟩
    have h := hif.2 hc
    iterate 7 refine Z1u I I I I I I I ?_
    refine Z1 I (st_pickF (v := (.bool false)) I I I) I <| Z1 I (Zh (v := (.bool false)) I I) I ?_
    iterate 7 refine Z1u I I I I I I I ?_
    refine Z1 I (st_pickF (v := (.bool false)) I I I) I <| Z1 I (Zh (v := (.bool false)) I I) I ?_
    iterate 6 refine Z1u I I I I I I I ?_
    refine Z1u I I I I I I I <| Z1 I (st_pickF (v := (.bool false)) I I I) I <| Z8 ?_
    exact Z1d (J19 false h) ⟨I, I, I, I, I, I, J0⟩ ⟨I, I, I, J0⟩
   have h := hif.2 hc
   refine Z29 <| At.thru ?_
   exact Z1d (J11 v10 h) ⟨I, I, J0⟩ ⟨I, I, J0⟩
 intro N k4 v h IH4 J4
 obtain ⟨v1, v2, v3⟩ := v
 try dsimp only at h IH4 J4 ⊢
 cases k4 with
 | zero => cases h
 | succ k4 =>
  rw [F122_l4] at h
  refine Zb <| Zb <| Z4 <| Z1 I (Zh I I) I <| Z1 I (Zn I f105_2 I I) I <| Z1 I (Zs I o103 I I I) I <| Z1 I (stx_len (l := a0.Calls) (enc := Z1n) I s103 I) I <| Z1 I (Z1y (c := (decide (v1 < (a0.Calls.length : Int)))) I I I I) I <| Z8 <| Z9 ?_
  have hif := Z2a h
  refine Z15 I (fun hc => ?_) (fun hc => ?_)
  ·have h := hif.1 hc
   refine Z18 <| Z9 <| Zb <| Z25 <| Zb <| Z4 <| Z1 I (Zn I f105_2 I I) I <| Z1 I (Zs I o103 I I I) I <| Z1 I (Zh I I) I ?_
   have ⟨hg36, h⟩ := Zx h
   refine Z1 I (Z1s (k := .i64) (l := a0.Calls) (enc := Z1n) (z := Za) (n := v1) (full := false) I s103 I I hg36 I) I <| Z1 I (st_loadIA I a241 I I I) I <| Z1 I (Z1z I z241 I I I) I <| Z1 I (Z19 sz241 I I I I I I I I) I <| Z8 <| Z9 <| Zb <| Z4 <| Z1 I (Zn I f105_1 I I) I <| Z1 I (Zs I o5 I I I) I <| Z1 I (st_div (b := 32) (c := (a0.Start.tmod 32)) I I I I (by decide)) I <| Z1 I (st_conv I us5 u3 I) I <| Z1 I (Z1c (k := .i64) (a := 1000) (c := (IntKind.i64.wrap (1000 + (IntKind.i64.wrap (a0.Start.tmod 32))))) I I I I) I <| Z1 I (Zj I I) I <| Z8 <| Z9 <| Zb <| Zb <| Z4 <| Z1 I (Zn I f241_0 I I) I <| Z1 I (Zs I o5 I I I) I <| Z1 I (st_conv I us5 u3 I) I <| Z1 I (Zh I I) I <| Z1 I (Z1c (k := .i64) (b := 1) (c := (IntKind.i64.wrap (v1 + 1))) I I I I) I ?_
   have ⟨hg37, h⟩ := Zx h
   refine Z1 I (st_div (c := ((IntKind.i64.wrap (a0.Calls.getD v1.toNat Za).Parent).tmod (IntKind.i64.wrap (v1 + 1)))) I I I I hg37) I <| Z1 I (Zj I I) I <| Z8 <| Z9 <| Zb <| Z4 <| Z1 I (Zh I I) I <| Z1 I (Zh I I) I <| Z1 I (Z1y (c := (decide (((IntKind.i64.wrap (a0.Calls.getD v1.toNat Za).Parent).tmod (IntKind.i64.wrap (v1 + 1))) < v1))) I I I I) I <| Z8 <| Z9 ?_
   refine AWp.join (V := Int) (lp := fun v => F122_j39 K v1 v2 v3 a0 (F122_l4 K a0 (F122_c7 K a0) k4) v = some r) (sh := fun v => ⟨[(1, (.ptr 1 0)), (2, (.vs 2)), (3, (.vs 3)), (4, (.int .i64 v1)), (5, (.ptr 5 0)), (6, (.int .i64 v))], [(1, (.box (Z1o a0).cells)), (2, (.vec 1 (List.map Z1f v2))), (3, (.vec 1 (List.map Z1f v3))), (5, (.box (Z1n (a0.Calls.getD v1.toNat Za)).cells))]⟩) ?_ ?_
   ·intro v h
    revert h
    revert v
    intro v38 h
    try dsimp only at h ⊢
    unfold F122_j39 at h
    refine Z9 <| Zb <| Zb <| Z4 <| Z1 I (Zh I I) I <| Z1 I (Z1y (b := 0) (c := (decide (v1 > 0))) I I I I) I <| Z8 <| Z9 ?_
    refine AWp.join (V := Int) (lp := fun v => F122_j41 K v2 v3 a0 v1 (F122_l4 K a0 (F122_c7 K a0) k4) v = some r) (sh := fun v => ⟨[(1, (.ptr 1 0)), (2, (.vs 2)), (3, (.vs 3)), (4, (.int .i64 v1)), (5, (.ptr 5 0)), (6, (.int .i64 v))], [(1, (.box (Z1o a0).cells)), (2, (.vec 1 (List.map Z1f v2))), (3, (.vec 1 (List.map Z1f v3))), (5, (.box (Z1n (a0.Calls.getD v1.toNat Za)).cells))]⟩) ?_ ?_
    ·intro v h
     revert h
     revert v
     intro v40 h
     try dsimp only at h ⊢
     unfold F122_j41 at h
     refine Z9 <| Z1t mixed <| Z3 0 I (Zh I I) <| Z3 1 I (Zh I I) <| Z3 2 I (Z1i (vs := [(.int .i64 v40)]) (enc := Z1f) (l := [v40]) I el65 I I ⟨I, J0⟩ I els_i64 I I I I) ?_
     have ⟨hg42, h⟩ := Zx h
     refine Z3 3 I (st_append (m := 2) (enc := Z1f) (l := v2) (l' := [v40]) (src := (.vs 50)) (rd := [(50, (.vec 1 (List.map Z1f [v40])))]) I I el65 I u65 I I I I (oneRead I) els_i64 hg42) <| Z3 4 I (Zh I I) <| Z3 5 I (Zh I I) <| Z3 6 I (Zn I f241_7 I I) <| Z3 7 I (Zs I o5 I I I) <| Z3 8 I (st_div (b := 32) (c := ((a0.Calls.getD v1.toNat Za).Long.tmod 32)) I I I I (by decide)) <| Z3 9 I (st_conv I us5 u3 I) <| Z3 10 I (Z1c (k := .i64) (c := (IntKind.i64.wrap (v40 + (IntKind.i64.wrap ((a0.Calls.getD v1.toNat Za).Long.tmod 32))))) I I I I) <| Z3 11 I (Z1i (vs := [(.int .i64 (IntKind.i64.wrap (v40 + (IntKind.i64.wrap ((a0.Calls.getD v1.toNat Za).Long.tmod 32)))))]) (enc := Z1f) (l := [(IntKind.i64.wrap (v40 + (IntKind.i64.wrap ((a0.Calls.getD v1.toNat Za).Long.tmod 32))))]) I el65 I I ⟨I, J0⟩ I els_i64 I I I I) ?_
     have ⟨hg43, h⟩ := Zx h
     refine Z3 12 I (st_append (m := 3) (enc := Z1f) (l := v3) (l' := [(IntKind.i64.wrap (v40 + (IntKind.i64.wrap ((a0.Calls.getD v1.toNat Za).Long.tmod 32))))]) (src := (.vs 59)) (rd := [(59, (.vec 1 (List.map Z1f [(IntKind.i64.wrap (v40 + (IntKind.i64.wrap ((a0.Calls.getD v1.toNat Za).Long.tmod 32))))])))]) I I el65 I u65 I I I I (oneRead I) els_i64 hg43) <| Z3 13 I (Zj I I) <| Z3 14 I (Zj I I) <| Z21 (by kernel_rfl) I <| At.end <| Z9 <| Z4 <| Z1 I (Zh I I) I <| Z1 I (Z1c (k := .i64) (b := 1) (c := (IntKind.i64.wrap (v1 + 1))) I I I I) I <| Z1 I (Zj I I) I <| Z8 ?_
     exact Z1d (IH4 _ ((IntKind.i64.wrap (v1 + 1)), (v2 ++ [v40]), (v3 ++ [(IntKind.i64.wrap (v40 + (IntKind.i64.wrap ((a0.Calls.getD v1.toNat Za).Long.tmod 32))))])) (Nat.lt_succ_self _) h) ⟨I, I, I, I, J0⟩ ⟨I, I, I, J0⟩
    intro J41
    have hif := Z2a h
    refine Z15 I (fun hc => ?_) (fun hc => ?_)
    ·have h := hif.1 hc
     refine Z4 <| Z1 I (Zh I I) I <| Z1 I (Zn I f241_6 I I) I <| Z1 I (Zs I o5 I I I) I <| Z1 I (st_div (b := 32) (c := ((a0.Calls.getD v1.toNat Za).Wait.tmod 32)) I I I I (by decide)) I <| Z1 I (st_conv I us5 u3 I) I <| Z1 I (Z1c (k := .i64) (c := (IntKind.i64.wrap (v38 + (IntKind.i64.wrap ((a0.Calls.getD v1.toNat Za).Wait.tmod 32))))) I I I I) I <| Z1 I (Zj I I) I <| Z8 ?_
     exact Z1d (J41 (IntKind.i64.wrap (v38 + (IntKind.i64.wrap ((a0.Calls.getD v1.toNat Za).Wait.tmod 32)))) h) ⟨I, I, I, I, I, I, J0⟩ ⟨I, I, I, I, J0⟩
    have h := hif.2 hc
    refine Z18 ?_
    exact Z1d (J41 v38 h) ⟨I, I, I, I, I, I, J0⟩ ⟨I, I, I, I, J0⟩
   intro J39
   have hif := Z2a h
   refine Z15 I (fun hc => ?_) (fun hc => ?_)
   ·have h := hif.1 hc
    refine Z4 <| Z1 I (Zh I I) I <| Z1 I (Zh I I) I ?_
    have ⟨hg44, h⟩ := Zx h
    refine Z1 I (st_indexV (k := .i64) (v := (.vs 2)) (n := 2) (off := 0) (len := v2.length) (es := (List.map Z1f v2)) (j := ((IntKind.i64.wrap (a0.Calls.getD v1.toNat Za).Parent).tmod (IntKind.i64.wrap (v1 + 1)))) (m := ((IntKind.i64.wrap (a0.Calls.getD v1.toNat Za).Parent).tmod (IntKind.i64.wrap (v1 + 1))).toNat) I s65 I I (vecR_map _ _ _) I hg44 (Nat.zero_add _)) I ?_
    have ⟨hg45, h⟩ := Zx h
    refine Z1 I (st_loadV (l := v2) (enc := Z1f) (z := 0) (v := (.int .i64 (v2.getD ((IntKind.i64.wrap (a0.Calls.getD v1.toNat Za).Parent).tmod (IntKind.i64.wrap (v1 + 1))).toNat 0))) I o3 I I hg45 I) I <| Z1 I (Zj I I) I <| Z8 ?_
    exact Z1d (J39 (v2.getD ((IntKind.i64.wrap (a0.Calls.getD v1.toNat Za).Parent).tmod (IntKind.i64.wrap (v1 + 1))).toNat 0) h) ⟨I, I, I, I, I, I, J0⟩ ⟨I, I, I, I, J0⟩
   have h := hif.2 hc
   refine Z18 ?_
   exact Z1d (J39 (IntKind.i64.wrap (1000 + (IntKind.i64.wrap (a0.Start.tmod 32)))) h) ⟨I, I, I, I, I, I, J0⟩ ⟨I, I, I, I, J0⟩
  have h := hif.2 hc
  refine Z29 <| At.thru ?_
  exact Z1d (J4 (v2, v3) h) ⟨I, I, I, J0⟩ ⟨I, I, I, J0⟩
def F154 (_K : Nat) (a0 : Z28) : Option ((List Z1q)) :=
 if (0 : Int) ≤ ((IntKind.u8.wrap (a0.Tag.tdiv 8)).tmod 3) ∧ ((IntKind.u8.wrap (a0.Tag.tdiv 8)).tmod 3) < (([[97], [98], [119, 101, 115, 116, 32, 49]] : List Str).length : Nat) then
 if ((IntKind.u8.wrap (a0.Tag.tdiv 8)).tmod 3).toNat < ([[97], [98], [119, 101, 115, 116, 32, 49]] : List Str).length then
 if (0 : Int) ≤ 0 ∧ 0 ≤ (a0.Tag.tmod 4) ∧ (a0.Tag.tmod 4) ≤ (([(⟨[111, 107], (⟨3, [], (IntKind.i64.wrap ((IntKind.u8.wrap (a0.Tag.tdiv 4)).tmod 2))⟩ : Z24)⟩ : Z1q), (⟨[115, 105, 122, 101], (⟨2, [], (IntKind.i64.wrap ((IntKind.i64.wrap a0.Tag) - 100))⟩ : Z24)⟩ : Z1q), (⟨[122, 111, 110, 101], (⟨1, (([[97], [98], [119, 101, 115, 116, 32, 49]] : List Str).getD ((IntKind.u8.wrap (a0.Tag.tdiv 8)).tmod 3).toNat []), 0⟩ : Z24)⟩ : Z1q)]).length : Nat) then
 if (0 + (0 : Int).toNat) + ((a0.Tag.tmod 4).toNat - (0 : Int).toNat) ≤ ([(⟨[111, 107], (⟨3, [], (IntKind.i64.wrap ((IntKind.u8.wrap (a0.Tag.tdiv 4)).tmod 2))⟩ : Z24)⟩ : Z1q), (⟨[115, 105, 122, 101], (⟨2, [], (IntKind.i64.wrap ((IntKind.i64.wrap a0.Tag) - 100))⟩ : Z24)⟩ : Z1q), (⟨[122, 111, 110, 101], (⟨1, (([[97], [98], [119, 101, 115, 116, 32, 49]] : List Str).getD ((IntKind.u8.wrap (a0.Tag.tdiv 8)).tmod 3).toNat []), 0⟩ : Z24)⟩ : Z1q)]).length then
 some ((([(⟨[111, 107], (⟨3, [], (IntKind.i64.wrap ((IntKind.u8.wrap (a0.Tag.tdiv 4)).tmod 2))⟩ : Z24)⟩ : Z1q), (⟨[115, 105, 122, 101], (⟨2, [], (IntKind.i64.wrap ((IntKind.i64.wrap a0.Tag) - 100))⟩ : Z24)⟩ : Z1q), (⟨[122, 111, 110, 101], (⟨1, (([[97], [98], [119, 101, 115, 116, 32, 49]] : List Str).getD ((IntKind.u8.wrap (a0.Tag.tdiv 8)).tmod 3).toNat []), 0⟩ : Z24)⟩ : Z1q)]).drop (0 + (0 : Int).toNat)).take ((a0.Tag.tmod 4).toNat - (0 : Int).toNat))
 else none
 else none
 else none
 else none
theorem F154_ok (K : Nat) (a0 : Z28) (r : (List Z1q)) (h : F154 K a0 = some r) : ACall P 154 ⟨[(Z1n a0)], [], (.sl 4 (r.map Z1p) false), [], []⟩ := by
 refine Z1r Tryz.func154 Tryz.results154 rfl Tryz.ntmps154 rfl rfl rfl ?_
 intro E Q hP hN hro hret
 obtain ⟨P', nt', w0, F0, p0, S0, β0, ro0⟩ := E
 simp only at hP hN
 subst hP hN
 dsimp only [argT]
 unfold F154 at h
 refine Zb <| Z4 <| Z1 I (st_box I I I I I) I <| Z1 I (Zj (v := (.sl 4 [] false)) I I) I <| Z8 <| Z9 <| Zb <| Z1t mixed <| Z3 0 I (Zn I f241_9 I I) <| Z3 1 I (Zs I o5 I I I) <| Z3 2 I (st_div (b := 4) (c := (IntKind.u8.wrap (a0.Tag.tdiv 4))) I I I I (by decide)) <| Z3 3 I (st_div (b := 2) (c := ((IntKind.u8.wrap (a0.Tag.tdiv 4)).tmod 2)) I I I I (by decide)) <| Z3 4 I (st_conv I us5 u3 I) <| Z3 5 I (stx_build (vs := [(0, (.int .i64 3)), (2, (.int .i64 (IntKind.i64.wrap ((IntKind.u8.wrap (a0.Tag.tdiv 4)).tmod 2))))]) I st172 ⟨I, I, I, I, J0⟩ I) <| Z3 6 I (stx_build (vs := [(0, (.str [111, 107])), (1, (.ag [(.int .i64 3), (.str []), (.int .i64 (IntKind.i64.wrap ((IntKind.u8.wrap (a0.Tag.tdiv 4)).tmod 2)))]))]) I st174 ⟨I, I, I, I, J0⟩ I) <| Z3 7 I (Zn I f241_9 I I) <| Z3 8 I (Zs I o5 I I I) <| Z3 9 I (st_conv I us5 u3 I) <| Z3 10 I (Z1c (k := .i64) (b := 100) (c := (IntKind.i64.wrap ((IntKind.i64.wrap a0.Tag) - 100))) I I I I) <| Z3 11 I (stx_build (vs := [(0, (.int .i64 2)), (2, (.int .i64 (IntKind.i64.wrap ((IntKind.i64.wrap a0.Tag) - 100))))]) I st172 ⟨I, I, I, I, J0⟩ I) <| Z3 12 I (stx_build (vs := [(0, (.str [115, 105, 122, 101])), (1, (.ag [(.int .i64 2), (.str []), (.int .i64 (IntKind.i64.wrap ((IntKind.i64.wrap a0.Tag) - 100)))]))]) I st174 ⟨I, I, I, I, J0⟩ I) <| Z3 13 I (Z1i (vs := [(.str [97]), (.str [98]), (.str [119, 101, 115, 116, 32, 49])]) (enc := e_str) (l := ([[97], [98], [119, 101, 115, 116, 32, 49]] : List Str)) I el73 I I ⟨I, I, I, J0⟩ I els_str I I I I) <| Z3 14 I (Zn I f241_9 I I) <| Z3 15 I (Zs I o5 I I I) ?_
 refine Z3 16 I (st_div (b := 8) (c := (IntKind.u8.wrap (a0.Tag.tdiv 8))) I I I I (by decide)) <| Z3 17 I (st_div (b := 3) (c := ((IntKind.u8.wrap (a0.Tag.tdiv 8)).tmod 3)) I I I I (by decide)) ?_
 have ⟨hg1, h⟩ := Zx h
 refine Z3 18 I (st_indexV (k := .u8) (v := (.vs 17)) (n := 17) (off := 0) (len := ([[97], [98], [119, 101, 115, 116, 32, 49]] : List Str).length) (es := (List.map e_str ([[97], [98], [119, 101, 115, 116, 32, 49]] : List Str))) (j := ((IntKind.u8.wrap (a0.Tag.tdiv 8)).tmod 3)) (m := ((IntKind.u8.wrap (a0.Tag.tdiv 8)).tmod 3).toNat) I s73 I I (vecR_map _ _ _) I hg1 (Nat.zero_add _)) ?_
 have ⟨hg2, h⟩ := Zx h
 refine Z3 19 I (st_loadV (l := ([[97], [98], [119, 101, 115, 116, 32, 49]] : List Str)) (enc := e_str) (z := []) (v := (.str (([[97], [98], [119, 101, 115, 116, 32, 49]] : List Str).getD ((IntKind.u8.wrap (a0.Tag.tdiv 8)).tmod 3).toNat []))) I o9 I I hg2 I) <| Z3 20 I (stx_build (vs := [(0, (.int .i64 1)), (1, (.str (([[97], [98], [119, 101, 115, 116, 32, 49]] : List Str).getD ((IntKind.u8.wrap (a0.Tag.tdiv 8)).tmod 3).toNat [])))]) I st172 ⟨I, I, I, I, J0⟩ I) <| Z3 21 I (stx_build (vs := [(0, (.str [122, 111, 110, 101])), (1, (.ag [(.int .i64 1), (.str (([[97], [98], [119, 101, 115, 116, 32, 49]] : List Str).getD ((IntKind.u8.wrap (a0.Tag.tdiv 8)).tmod 3).toNat [])), (.int .i64 0)]))]) I st174 ⟨I, I, I, I, J0⟩ I) <| Z3 22 I (Z1i (vs := [(.ag [(.str [111, 107]), (.int .i64 3), (.str []), (.int .i64 (IntKind.i64.wrap ((IntKind.u8.wrap (a0.Tag.tdiv 4)).tmod 2)))]), (.ag [(.str [115, 105, 122, 101]), (.int .i64 2), (.str []), (.int .i64 (IntKind.i64.wrap ((IntKind.i64.wrap a0.Tag) - 100)))]), (.ag [(.str [122, 111, 110, 101]), (.int .i64 1), (.str (([[97], [98], [119, 101, 115, 116, 32, 49]] : List Str).getD ((IntKind.u8.wrap (a0.Tag.tdiv 8)).tmod 3).toNat [])), (.int .i64 0)])]) (enc := Z1p) (l := [(⟨[111, 107], (⟨3, [], (IntKind.i64.wrap ((IntKind.u8.wrap (a0.Tag.tdiv 4)).tmod 2))⟩ : Z24)⟩ : Z1q), (⟨[115, 105, 122, 101], (⟨2, [], (IntKind.i64.wrap ((IntKind.i64.wrap a0.Tag) - 100))⟩ : Z24)⟩ : Z1q), (⟨[122, 111, 110, 101], (⟨1, (([[97], [98], [119, 101, 115, 116, 32, 49]] : List Str).getD ((IntKind.u8.wrap (a0.Tag.tdiv 8)).tmod 3).toNat []), 0⟩ : Z24)⟩ : Z1q)]) I el53 I I ⟨I, I, I, J0⟩ I els_Tapi_Attr I I I I) <| Z3 23 I (Zj I I) <| Z21 (by kernel_rfl) I <| Z9 <| Zb <| Z4 <| Z1 I (Zh I I) I <| Z1 I (Zn I f241_9 I I) I <| Z1 I (Zs I o5 I I I) I <| Z1 I (st_div (b := 4) (c := (a0.Tag.tmod 4)) I I I I (by decide)) I ?_
 have ⟨hg3, h⟩ := Zx h
 have ⟨hg4, h⟩ := Zx h
 refine Z1 I (stx_sliceVH (v := (.vs 26)) (n := 26) (off := 0) (len := ([(⟨[111, 107], (⟨3, [], (IntKind.i64.wrap ((IntKind.u8.wrap (a0.Tag.tdiv 4)).tmod 2))⟩ : Z24)⟩ : Z1q), (⟨[115, 105, 122, 101], (⟨2, [], (IntKind.i64.wrap ((IntKind.i64.wrap a0.Tag) - 100))⟩ : Z24)⟩ : Z1q), (⟨[122, 111, 110, 101], (⟨1, (([[97], [98], [119, 101, 115, 116, 32, 49]] : List Str).getD ((IntKind.u8.wrap (a0.Tag.tdiv 8)).tmod 3).toNat []), 0⟩ : Z24)⟩ : Z1q)]).length) (l := ([(⟨[111, 107], (⟨3, [], (IntKind.i64.wrap ((IntKind.u8.wrap (a0.Tag.tdiv 4)).tmod 2))⟩ : Z24)⟩ : Z1q), (⟨[115, 105, 122, 101], (⟨2, [], (IntKind.i64.wrap ((IntKind.i64.wrap a0.Tag) - 100))⟩ : Z24)⟩ : Z1q), (⟨[122, 111, 110, 101], (⟨1, (([[97], [98], [119, 101, 115, 116, 32, 49]] : List Str).getD ((IntKind.u8.wrap (a0.Tag.tdiv 8)).tmod 3).toNat []), 0⟩ : Z24)⟩ : Z1q)])) (enc := Z1p) (kh := .u8) (hi := (a0.Tag.tmod 4)) I s53 I I (vecR_map _ _ _) I hg3 I) I <| Z1 I (Zj I I) I <| Z8 <| Z9 <| Z1e <| At.ghost (st' := ⟨[(2, (.sl 4 (((([(⟨[111, 107], (⟨3, [], (IntKind.i64.wrap ((IntKind.u8.wrap (a0.Tag.tdiv 4)).tmod 2))⟩ : Z24)⟩ : Z1q), (⟨[115, 105, 122, 101], (⟨2, [], (IntKind.i64.wrap ((IntKind.i64.wrap a0.Tag) - 100))⟩ : Z24)⟩ : Z1q), (⟨[122, 111, 110, 101], (⟨1, (([[97], [98], [119, 101, 115, 116, 32, 49]] : List Str).getD ((IntKind.u8.wrap (a0.Tag.tdiv 8)).tmod 3).toNat []), 0⟩ : Z24)⟩ : Z1q)]).drop (0 + (0 : Int).toNat)).take ((a0.Tag.tmod 4).toNat - (0 : Int).toNat)).map Z1p) false))], []⟩) (fun a w h => (Z17 _ (ghost_freeze (m := 26) (sz := 4) (es := (List.map Z1p ([(⟨[111, 107], (⟨3, [], (IntKind.i64.wrap ((IntKind.u8.wrap (a0.Tag.tdiv 4)).tmod 2))⟩ : Z24)⟩ : Z1q), (⟨[115, 105, 122, 101], (⟨2, [], (IntKind.i64.wrap ((IntKind.i64.wrap a0.Tag) - 100))⟩ : Z24)⟩ : Z1q), (⟨[122, 111, 110, 101], (⟨1, (([[97], [98], [119, 101, 115, 116, 32, 49]] : List Str).getD ((IntKind.u8.wrap (a0.Tag.tdiv 8)).tmod 3).toNat []), 0⟩ : Z24)⟩ : Z1q)]))) a w (Z17 ⟨[(2, (.vsub 26 (0 + (0 : Int).toNat) ((a0.Tag.tmod 4).toNat - (0 : Int).toNat) false))], [(26, (.vec 4 (List.map Z1p ([(⟨[111, 107], (⟨3, [], (IntKind.i64.wrap ((IntKind.u8.wrap (a0.Tag.tdiv 4)).tmod 2))⟩ : Z24)⟩ : Z1q), (⟨[115, 105, 122, 101], (⟨2, [], (IntKind.i64.wrap ((IntKind.i64.wrap a0.Tag) - 100))⟩ : Z24)⟩ : Z1q), (⟨[122, 111, 110, 101], (⟨1, (([[97], [98], [119, 101, 115, 116, 32, 49]] : List Str).getD ((IntKind.u8.wrap (a0.Tag.tdiv 8)).tmod 3).toNat []), 0⟩ : Z24)⟩ : Z1q)]))))]⟩ h ⟨I, J0⟩ ⟨I, J0⟩)) ⟨(congrArg some (frz_sub hg4)), J0⟩ J0)) ?_
 have h := Option.some.inj h
 subst h
 refine (hret _ ?_).1
 exact ⟨[(.sl 4 (((([(⟨[111, 107], (⟨3, [], (IntKind.i64.wrap ((IntKind.u8.wrap (a0.Tag.tdiv 4)).tmod 2))⟩ : Z24)⟩ : Z1q), (⟨[115, 105, 122, 101], (⟨2, [], (IntKind.i64.wrap ((IntKind.i64.wrap a0.Tag) - 100))⟩ : Z24)⟩ : Z1q), (⟨[122, 111, 110, 101], (⟨1, (([[97], [98], [119, 101, 115, 116, 32, 49]] : List Str).getD ((IntKind.u8.wrap (a0.Tag.tdiv 8)).tmod 3).toNat []), 0⟩ : Z24)⟩ : Z1q)]).drop (0 + (0 : Int).toNat)).take ((a0.Tag.tmod 4).toNat - (0 : Int).toNat)).map Z1p) false)], ⟨I, J0⟩, I, J0⟩
def F123_j21 (K : Nat) (a0 : Zy) (a1 : Int) (a2 : Int) (v16 : Zg) (v20 : (List Tapi_Ref)) : Option (Zg) :=
 (F154 K ((a0.Trees.getD a1.toNat Zi).Calls.getD a2.toNat Za)).bind fun v23 =>
 some (⟨v16.Trace, v16.Id, v16.Parent, v16.Revision, v16.Clock, v16.Kind, v16.Service, v16.Version, v16.Operation, v16.Start, v16.End, v16.Error, v23, v20⟩ : Zg)
def F123_j17 (K : Nat) (a0 : Zy) (a1 : Int) (a2 : Int) (a3 : (List Int)) (v16 : Zg) : Option (Zg) :=
 if (decide ((IntKind.i64.wrap (((a0.Trees.getD a1.toNat Zi).Calls.getD a2.toNat Za).Link.tmod 16)) < a2)) = true then
 if (0 : Int) ≤ (IntKind.i64.wrap (((a0.Trees.getD a1.toNat Zi).Calls.getD a2.toNat Za).Link.tmod 16)) ∧ (IntKind.i64.wrap (((a0.Trees.getD a1.toNat Zi).Calls.getD a2.toNat Za).Link.tmod 16)) < a3.length then
 if (0 : Int) ≤ a2 ∧ a2 < a3.length then
 if (decide ((a3.getD (IntKind.i64.wrap (((a0.Trees.getD a1.toNat Zi).Calls.getD a2.toNat Za).Link.tmod 16)).toNat 0) ≤ (a3.getD a2.toNat 0))) = true then
 F123_j21 K a0 a1 a2 v16 [(⟨v16.Trace, (IntKind.i64.wrap ((IntKind.i64.wrap (((a0.Trees.getD a1.toNat Zi).Calls.getD a2.toNat Za).Link.tmod 16)) + 1))⟩ : Tapi_Ref)]
 else
 F123_j21 K a0 a1 a2 v16 v16.Links
 else none
 else none
 else
 (F154 K ((a0.Trees.getD a1.toNat Zi).Calls.getD a2.toNat Za)).bind fun v25 =>
 some (⟨v16.Trace, v16.Id, v16.Parent, v16.Revision, v16.Clock, v16.Kind, v16.Service, v16.Version, v16.Operation, v16.Start, v16.End, v16.Error, v25, v16.Links⟩ : Zg)
def F123 (K : Nat) (a0 : Zy) (a1 : Int) (a2 : Int) (a3 : (List Int)) (a4 : (List Int)) : Option (Zg) :=
 if (0 : Int) ≤ a1 ∧ a1 < a0.Trees.length then
 if (0 : Int) ≤ a2 ∧ a2 < (a0.Trees.getD a1.toNat Zi).Calls.length then
 (F82 K a0 a1).bind fun v4 =>
 (F153 K ((a0.Trees.getD a1.toNat Zi).Calls.getD a2.toNat Za)).bind fun v6 =>
 if (0 : Int) ≤ a2 ∧ a2 < a3.length then
 if (0 : Int) ≤ a2 ∧ a2 < a4.length then
 if (0 : Int) ≤ (((a0.Trees.getD a1.toNat Zi).Calls.getD a2.toNat Za).Service.tmod 4) ∧ (((a0.Trees.getD a1.toNat Zi).Calls.getD a2.toNat Za).Service.tmod 4) < (([[97, 112, 105], [100, 98], [119, 101, 98], [99, 97, 99, 104, 101]] : List Str).length : Nat) then
 if (((a0.Trees.getD a1.toNat Zi).Calls.getD a2.toNat Za).Service.tmod 4).toNat < ([[97, 112, 105], [100, 98], [119, 101, 98], [99, 97, 99, 104, 101]] : List Str).length then
 if (0 : Int) ≤ (((a0.Trees.getD a1.toNat Zi).Calls.getD a2.toNat Za).Version.tmod 3) ∧ (((a0.Trees.getD a1.toNat Zi).Calls.getD a2.toNat Za).Version.tmod 3) < (([[118, 49], [118, 50], []] : List Str).length : Nat) then
 if (((a0.Trees.getD a1.toNat Zi).Calls.getD a2.toNat Za).Version.tmod 3).toNat < ([[118, 49], [118, 50], []] : List Str).length then
 if (0 : Int) ≤ (((a0.Trees.getD a1.toNat Zi).Calls.getD a2.toNat Za).Operation.tmod 3) ∧ (((a0.Trees.getD a1.toNat Zi).Calls.getD a2.toNat Za).Operation.tmod 3) < (([[103, 101, 116], [112, 117, 116], [108, 105, 115, 116]] : List Str).length : Nat) then
 if (((a0.Trees.getD a1.toNat Zi).Calls.getD a2.toNat Za).Operation.tmod 3).toNat < ([[103, 101, 116], [112, 117, 116], [108, 105, 115, 116]] : List Str).length then
 if (IntKind.i64.wrap (a2 + 1)) ≠ 0 then
 if (decide (((IntKind.i64.wrap ((a0.Trees.getD a1.toNat Zi).Calls.getD a2.toNat Za).Parent).tmod (IntKind.i64.wrap (a2 + 1))) < a2)) = true then
 F123_j17 K a0 a1 a2 a3 (⟨v4, (IntKind.i64.wrap (a2 + 1)), (IntKind.i64.wrap (((IntKind.i64.wrap ((a0.Trees.getD a1.toNat Zi).Calls.getD a2.toNat Za).Parent).tmod (IntKind.i64.wrap (a2 + 1))) + 1)), 0, (IntKind.i64.wrap (1 + (IntKind.i64.wrap (((a0.Trees.getD a1.toNat Zi).Calls.getD a2.toNat Za).Clock.tmod 4)))), v6, (([[97, 112, 105], [100, 98], [119, 101, 98], [99, 97, 99, 104, 101]] : List Str).getD (((a0.Trees.getD a1.toNat Zi).Calls.getD a2.toNat Za).Service.tmod 4).toNat []), (([[118, 49], [118, 50], []] : List Str).getD (((a0.Trees.getD a1.toNat Zi).Calls.getD a2.toNat Za).Version.tmod 3).toNat []), (([[103, 101, 116], [112, 117, 116], [108, 105, 115, 116]] : List Str).getD (((a0.Trees.getD a1.toNat Zi).Calls.getD a2.toNat Za).Operation.tmod 3).toNat []), (a3.getD a2.toNat 0), (a4.getD a2.toNat 0), ((a0.Trees.getD a1.toNat Zi).Calls.getD a2.toNat Za).Fail, [], []⟩ : Zg)
 else
 if (decide (a2 > 0)) = true then
 F123_j17 K a0 a1 a2 a3 (⟨v4, (IntKind.i64.wrap (a2 + 1)), 100, 0, (IntKind.i64.wrap (1 + (IntKind.i64.wrap (((a0.Trees.getD a1.toNat Zi).Calls.getD a2.toNat Za).Clock.tmod 4)))), v6, (([[97, 112, 105], [100, 98], [119, 101, 98], [99, 97, 99, 104, 101]] : List Str).getD (((a0.Trees.getD a1.toNat Zi).Calls.getD a2.toNat Za).Service.tmod 4).toNat []), (([[118, 49], [118, 50], []] : List Str).getD (((a0.Trees.getD a1.toNat Zi).Calls.getD a2.toNat Za).Version.tmod 3).toNat []), (([[103, 101, 116], [112, 117, 116], [108, 105, 115, 116]] : List Str).getD (((a0.Trees.getD a1.toNat Zi).Calls.getD a2.toNat Za).Operation.tmod 3).toNat []), (a3.getD a2.toNat 0), (a4.getD a2.toNat 0), ((a0.Trees.getD a1.toNat Zi).Calls.getD a2.toNat Za).Fail, [], []⟩ : Zg)
 else
 F123_j17 K a0 a1 a2 a3 (⟨v4, (IntKind.i64.wrap (a2 + 1)), 0, 0, (IntKind.i64.wrap (1 + (IntKind.i64.wrap (((a0.Trees.getD a1.toNat Zi).Calls.getD a2.toNat Za).Clock.tmod 4)))), v6, (([[97, 112, 105], [100, 98], [119, 101, 98], [99, 97, 99, 104, 101]] : List Str).getD (((a0.Trees.getD a1.toNat Zi).Calls.getD a2.toNat Za).Service.tmod 4).toNat []), (([[118, 49], [118, 50], []] : List Str).getD (((a0.Trees.getD a1.toNat Zi).Calls.getD a2.toNat Za).Version.tmod 3).toNat []), (([[103, 101, 116], [112, 117, 116], [108, 105, 115, 116]] : List Str).getD (((a0.Trees.getD a1.toNat Zi).Calls.getD a2.toNat Za).Operation.tmod 3).toNat []), (a3.getD a2.toNat 0), (a4.getD a2.toNat 0), ((a0.Trees.getD a1.toNat Zi).Calls.getD a2.toNat Za).Fail, [], []⟩ : Zg)
 else none
 else none
 else none
 else none
 else none
 else none
 else none
 else none
 else none
 else none
 else none
theorem F123_ok (K : Nat) (a0 : Zy) (a1 : Int) (a2 : Int) (a3 : (List Int)) (a4 : (List Int)) (r : Zg) (h : F123 K a0 a1 a2 a3 a4 = some r) : ACall P 123 ⟨[(Z1a a0), (.int .i64 a1), (.int .i64 a2), (.sl 1 (a3.map Z1f) false), (.sl 1 (a4.map Z1f) false)], [], (Zf r), [], []⟩ := by
 refine Z1r Tryz.func123 Tryz.results123 rfl Tryz.ntmps123 rfl rfl rfl ?_
 intro E Q hP hN hro hret
 obtain ⟨P', nt', w0, F0, p0, S0, β0, ro0⟩ := E
 simp only at hP hN
 subst hP hN
 dsimp only [argT]
 unfold F123 at h
 refine Zb <| Z4 <| Z1 I (st_box I I I I I) I <| Z1 I (Z1z I z56 I I I) I <| Z8 <| Z9 <| Zb <| Z4 <| Z1 I (Zn I f27_0 I I) I <| Z1 I (Zs I o22 I I I) I <| Z1 I (Zh I I) I ?_
 have ⟨hg1, h⟩ := Zx h
 refine Z1 I (Z1s (k := .i64) (l := a0.Trees) (enc := Z1o) (z := Zi) (n := a1) (cs := (Z1o (a0.Trees.getD a1.toNat Zi)).cells) (full := false) I s22 I I hg1 I) I <| Z1 I (st_fieldI I f105_2 I I I) I <| Z1 I (st_loadI I o103 I I) I <| Z1 I (Zh I I) I ?_
 have ⟨hg2, h⟩ := Zx h
 refine Z1 I (Z1s (k := .i64) (l := (a0.Trees.getD a1.toNat Zi).Calls) (enc := Z1n) (z := Za) (n := a2) (cs := (Z1n ((a0.Trees.getD a1.toNat Zi).Calls.getD a2.toNat Za)).cells) (full := false) I s103 I I hg2 I) I <| Z1 I (st_loadIA I a241 I I I) I <| Z1 I (Z1z I z241 I I I) I <| Z1 I (Z19 sz241 I I I I I I I I) I <| Z8 <| Z9 <| Zb <| Z1t mixed <| Z3 0 I (Z1l (cs := (Z1a a0).cells) (vs := (Z1a a0).cells) I a27 I I I I) <| Z3 1 I (Zh I I) ?_
 have ⟨v4, hv4, h⟩ := Z1b h
 refine Z3 2 I (Z1h (ar := [(Z1a a0), (.int .i64 a1)]) (caps := []) Tryz.call82 (F82_ok K a0 a1 v4 hv4) I I ⟨I, I, J0⟩ I) <| Z3 3 I (Zh I I) <| Z3 4 I (Z1c (k := .i64) (b := 1) (c := (IntKind.i64.wrap (a2 + 1))) I I I I) <| Z3 5 I (Zn I f241_1 I I) <| Z3 6 I (Zs I o5 I I I) <| Z3 7 I (st_div (k := .u8) (a := ((a0.Trees.getD a1.toNat Zi).Calls.getD a2.toNat Za).Clock) (b := 4) (c := (((a0.Trees.getD a1.toNat Zi).Calls.getD a2.toNat Za).Clock.tmod 4)) I I I I (by decide)) <| Z3 8 I (st_conv I us5 u3 I) <| Z3 9 I (Z1c (k := .i64) (a := 1) (c := (IntKind.i64.wrap (1 + (IntKind.i64.wrap (((a0.Trees.getD a1.toNat Zi).Calls.getD a2.toNat Za).Clock.tmod 4))))) I I I I) <| Z3 10 I (Z1l (cs := (Z1n ((a0.Trees.getD a1.toNat Zi).Calls.getD a2.toNat Za)).cells) (vs := (Z1n ((a0.Trees.getD a1.toNat Zi).Calls.getD a2.toNat Za)).cells) I a241 I I I I) ?_
 have ⟨v6, hv6, h⟩ := Z1b h
 refine Z3 11 I (Z1h (ar := [(Z1n ((a0.Trees.getD a1.toNat Zi).Calls.getD a2.toNat Za))]) (caps := []) Tryz.call153 (F153_ok K ((a0.Trees.getD a1.toNat Zi).Calls.getD a2.toNat Za) v6 hv6) I I ⟨I, J0⟩ I) <| Z3 12 I (Zn I f241_10 I I) <| Z3 13 I (Zs I o4 I I I) <| Z3 14 I (Zh I I) <| Z3 15 I (Zh I I) ?_
 have ⟨hg7, h⟩ := Zx h
 refine Z3 16 I (Z1s (k := .i64) (l := a3) (enc := Z1f) (z := 0) (n := a2) (cs := [(.int .i64 (a3.getD a2.toNat 0))]) (full := false) I s65 I I hg7 I) <| Z3 17 I (st_loadI I o3 I I) <| Z3 18 I (Zh I I) <| Z3 19 I (Zh I I) ?_
 have ⟨hg8, h⟩ := Zx h
 refine Z3 20 I (Z1s (k := .i64) (l := a4) (enc := Z1f) (z := 0) (n := a2) (cs := [(.int .i64 (a4.getD a2.toNat 0))]) (full := false) I s65 I I hg8 I) <| Z3 21 I (st_loadI I o3 I I) <| Z3 22 I (stx_build (vs := [(0, (.int .i64 v4)), (1, (.int .i64 (IntKind.i64.wrap (a2 + 1)))), (4, (.int .i64 (IntKind.i64.wrap (1 + (IntKind.i64.wrap (((a0.Trees.getD a1.toNat Zi).Calls.getD a2.toNat Za).Clock.tmod 4)))))), (5, (.int .i64 v6)), (11, (.bool ((a0.Trees.getD a1.toNat Zi).Calls.getD a2.toNat Za).Fail)), (9, (.int .i64 (a3.getD a2.toNat 0))), (10, (.int .i64 (a4.getD a2.toNat 0)))]) (cs := [(.int .i64 v4), (.int .i64 (IntKind.i64.wrap (a2 + 1))), (.int .i64 0), (.int .i64 0), (.int .i64 (IntKind.i64.wrap (1 + (IntKind.i64.wrap (((a0.Trees.getD a1.toNat Zi).Calls.getD a2.toNat Za).Clock.tmod 4))))), (.int .i64 v6), (.str []), (.str []), (.str []), (.int .i64 (a3.getD a2.toNat 0)), (.int .i64 (a4.getD a2.toNat 0)), (.bool ((a0.Trees.getD a1.toNat Zi).Calls.getD a2.toNat Za).Fail), (.sl 4 [] false), (.sl 2 [] false)]) I st56 ⟨I, I, I, I, I, I, I, I, I, I, I, I, I, I, J0⟩ I) <| Z3 23 I (Z1z I z56 I I I) <| Z3 24 I (Z19 sz56 I I I I I I I I) <| Z21 (by kernel_rfl) I <| Z9 <| Zb <| Z4 <| Z1 I (Z1i (vs := [(.str [97, 112, 105]), (.str [100, 98]), (.str [119, 101, 98]), (.str [99, 97, 99, 104, 101])]) (enc := e_str) (l := ([[97, 112, 105], [100, 98], [119, 101, 98], [99, 97, 99, 104, 101]] : List Str)) I el73 I I ⟨I, I, I, I, J0⟩ I els_str I I I I) I <| Z1 I (Zn I f241_3 I I) I <| Z1 I (Zs I o5 I I I) I <| Z1 I (st_div (k := .u8) (a := ((a0.Trees.getD a1.toNat Zi).Calls.getD a2.toNat Za).Service) (b := 4) (c := (((a0.Trees.getD a1.toNat Zi).Calls.getD a2.toNat Za).Service.tmod 4)) I I I I (by decide)) I ?_
 have ⟨hg9, h⟩ := Zx h
 refine Z1 I (st_indexV (k := .u8) (v := (.vs 47)) (n := 47) (off := 0) (len := ([[97, 112, 105], [100, 98], [119, 101, 98], [99, 97, 99, 104, 101]] : List Str).length) (es := (List.map e_str ([[97, 112, 105], [100, 98], [119, 101, 98], [99, 97, 99, 104, 101]] : List Str))) (j := (((a0.Trees.getD a1.toNat Zi).Calls.getD a2.toNat Za).Service.tmod 4)) (m := (((a0.Trees.getD a1.toNat Zi).Calls.getD a2.toNat Za).Service.tmod 4).toNat) I s73 I I (vecR_map _ _ _) I hg9 (Nat.zero_add _)) I ?_
 have ⟨hg10, h⟩ := Zx h
 refine Z1 I (st_loadV (l := ([[97, 112, 105], [100, 98], [119, 101, 98], [99, 97, 99, 104, 101]] : List Str)) (enc := e_str) (z := []) (v := (.str (([[97, 112, 105], [100, 98], [119, 101, 98], [99, 97, 99, 104, 101]] : List Str).getD (((a0.Trees.getD a1.toNat Zi).Calls.getD a2.toNat Za).Service.tmod 4).toNat []))) I o9 I I hg10 I) I <| Z1 I (Zn I f56_6 I I) I <| Z1 I (Z19 sz9 I I I I I I I I) I <| Z8 <| Z9 <| Zb <| Z4 <| Z1 I (Z1i (vs := [(.str [118, 49]), (.str [118, 50]), (.str [])]) (enc := e_str) (l := ([[118, 49], [118, 50], []] : List Str)) I el73 I I ⟨I, I, I, J0⟩ I els_str I I I I) I <| Z1 I (Zn I f241_4 I I) I <| Z1 I (Zs I o5 I I I) I <| Z1 I (st_div (k := .u8) (a := ((a0.Trees.getD a1.toNat Zi).Calls.getD a2.toNat Za).Version) (b := 3) (c := (((a0.Trees.getD a1.toNat Zi).Calls.getD a2.toNat Za).Version.tmod 3)) I I I I (by decide)) I ?_
 have ⟨hg11, h⟩ := Zx h
 refine Z1 I (st_indexV (k := .u8) (v := (.vs 54)) (n := 54) (off := 0) (len := ([[118, 49], [118, 50], []] : List Str).length) (es := (List.map e_str ([[118, 49], [118, 50], []] : List Str))) (j := (((a0.Trees.getD a1.toNat Zi).Calls.getD a2.toNat Za).Version.tmod 3)) (m := (((a0.Trees.getD a1.toNat Zi).Calls.getD a2.toNat Za).Version.tmod 3).toNat) I s73 I I (vecR_map _ _ _) I hg11 (Nat.zero_add _)) I ?_
 have ⟨hg12, h⟩ := Zx h
 refine Z1 I (st_loadV (l := ([[118, 49], [118, 50], []] : List Str)) (enc := e_str) (z := []) (v := (.str (([[118, 49], [118, 50], []] : List Str).getD (((a0.Trees.getD a1.toNat Zi).Calls.getD a2.toNat Za).Version.tmod 3).toNat []))) I o9 I I hg12 I) I <| Z1 I (Zn I f56_7 I I) I <| Z1 I (Z19 sz9 I I I I I I I I) I <| Z8 <| Z9 <| Zb <| Z4 <| Z1 I (Z1i (vs := [(.str [103, 101, 116]), (.str [112, 117, 116]), (.str [108, 105, 115, 116])]) (enc := e_str) (l := ([[103, 101, 116], [112, 117, 116], [108, 105, 115, 116]] : List Str)) I el73 I I ⟨I, I, I, J0⟩ I els_str I I I I) I <| Z1 I (Zn I f241_5 I I) I <| Z1 I (Zs I o5 I I I) I <| Z1 I (st_div (k := .u8) (a := ((a0.Trees.getD a1.toNat Zi).Calls.getD a2.toNat Za).Operation) (b := 3) (c := (((a0.Trees.getD a1.toNat Zi).Calls.getD a2.toNat Za).Operation.tmod 3)) I I I I (by decide)) I ?_
 have ⟨hg13, h⟩ := Zx h
 refine Z1 I (st_indexV (k := .u8) (v := (.vs 61)) (n := 61) (off := 0) (len := ([[103, 101, 116], [112, 117, 116], [108, 105, 115, 116]] : List Str).length) (es := (List.map e_str ([[103, 101, 116], [112, 117, 116], [108, 105, 115, 116]] : List Str))) (j := (((a0.Trees.getD a1.toNat Zi).Calls.getD a2.toNat Za).Operation.tmod 3)) (m := (((a0.Trees.getD a1.toNat Zi).Calls.getD a2.toNat Za).Operation.tmod 3).toNat) I s73 I I (vecR_map _ _ _) I hg13 (Nat.zero_add _)) I ?_
 have ⟨hg14, h⟩ := Zx h
 refine Z1 I (st_loadV (l := ([[103, 101, 116], [112, 117, 116], [108, 105, 115, 116]] : List Str)) (enc := e_str) (z := []) (v := (.str (([[103, 101, 116], [112, 117, 116], [108, 105, 115, 116]] : List Str).getD (((a0.Trees.getD a1.toNat Zi).Calls.getD a2.toNat Za).Operation.tmod 3).toNat []))) I o9 I I hg14 I) I <| Z1 I (Zn I f56_8 I I) I <| Z1 I (Z19 sz9 I I I I I I I I) I <| Z8 <| Z9 <| Zb <| Zb <| Z4 <| Z1 I (Zn I f241_0 I I) I <| Z1 I (Zs I o5 I I I) I <| Z1 I (st_conv I us5 u3 I) I <| Z1 I (Zh I I) I <| Z1 I (Z1c (k := .i64) (b := 1) (c := (IntKind.i64.wrap (a2 + 1))) I I I I) I ?_
 have ⟨hg15, h⟩ := Zx h
 refine Z1 I (st_div (k := .i64) (a := (IntKind.i64.wrap ((a0.Trees.getD a1.toNat Zi).Calls.getD a2.toNat Za).Parent)) (b := (IntKind.i64.wrap (a2 + 1))) (c := ((IntKind.i64.wrap ((a0.Trees.getD a1.toNat Zi).Calls.getD a2.toNat Za).Parent).tmod (IntKind.i64.wrap (a2 + 1)))) I I I I hg15) I <| Z1 I (Zj I I) I <| Z8 <| Z9 <| Zb <| Z4 <| Z1 I (Zh I I) I <| Z1 I (Zh I I) I <| Z1 I (Z1y (c := (decide (((IntKind.i64.wrap ((a0.Trees.getD a1.toNat Zi).Calls.getD a2.toNat Za).Parent).tmod (IntKind.i64.wrap (a2 + 1))) < a2))) I I I I) I <| Z8 <| Z9 ?_
 refine AWp.join (V := Zg) (lp := fun v => F123_j17 K a0 a1 a2 a3 v = some r) (sh := fun v => ⟨[(2, (.int .i64 a2)), (3, (.sl 1 (a3.map Z1f) false)), (10, (.ptr 10 0)), (11, (.ptr 11 0)), (12, (.ptr 12 0))], [(10, (.box [(.int .i64 0), (.int .i64 0), (.int .i64 0), (.int .i64 0), (.int .i64 0), (.int .i64 0), (.str []), (.str []), (.str []), (.int .i64 0), (.int .i64 0), (.bool false), (.sl 4 [] false), (.sl 2 [] false)])), (11, (.box (Z1n ((a0.Trees.getD a1.toNat Zi).Calls.getD a2.toNat Za)).cells)), (12, (.box (Zf v).cells))]⟩) ?_ ?_
 ·intro v h
  revert h
  revert v
  intro v16 h
  try dsimp only at h ⊢
  unfold F123_j17 at h
  refine Z9 <| Zb <| Zb <| Z4 <| Z1 I (Zn I f241_8 I I) I <| Z1 I (Zs I o5 I I I) I <| Z1 I (st_div (k := .u8) (a := ((a0.Trees.getD a1.toNat Zi).Calls.getD a2.toNat Za).Link) (b := 16) (c := (((a0.Trees.getD a1.toNat Zi).Calls.getD a2.toNat Za).Link.tmod 16)) I I I I (by decide)) I <| Z1 I (st_conv I us5 u3 I) I <| Z1 I (Zj I I) I <| Z8 <| Z9 <| Zb <| Z1t mixed <| Z3 0 I (Zh I I) <| Z3 1 I (Zh I I) <| Z3 2 I (Z1y (c := (decide ((IntKind.i64.wrap (((a0.Trees.getD a1.toNat Zi).Calls.getD a2.toNat Za).Link.tmod 16)) < a2))) I I I I) <| Z3 3 I (Zh I I) ?_
  have hif := Z2a h
  refine AOpsD.split (fun hc => ?_) (fun hc => ?_)
  ·have h := hif.1 hc
   refine Z16 4 I I I I (Zh I I) <| Z16 5 I I I I (Zh I I) ?_
   have ⟨hg18, h⟩ := Zx h
   refine Z16 6 I I I I (Z1s (k := .i64) (l := a3) (enc := Z1f) (z := 0) (n := (IntKind.i64.wrap (((a0.Trees.getD a1.toNat Zi).Calls.getD a2.toNat Za).Link.tmod 16))) (cs := [(.int .i64 (a3.getD (IntKind.i64.wrap (((a0.Trees.getD a1.toNat Zi).Calls.getD a2.toNat Za).Link.tmod 16)).toNat 0))]) (full := false) I s65 I I hg18 I) <| Z16 7 I I I I (st_loadI I o3 I I) <| Z16 8 I I I I (Zh I I) <| Z16 9 I I I I (Zh I I) ?_
   have ⟨hg19, h⟩ := Zx h
   refine Z16 10 I I I I (Z1s (k := .i64) (l := a3) (enc := Z1f) (z := 0) (n := a2) (cs := [(.int .i64 (a3.getD a2.toNat 0))]) (full := false) I s65 I I hg19 I) <| Z16 11 I I I I (st_loadI I o3 I I) <| Z16 12 I I I I (Z1y (c := (decide ((a3.getD (IntKind.i64.wrap (((a0.Trees.getD a1.toNat Zi).Calls.getD a2.toNat Za).Link.tmod 16)).toNat 0) ≤ (a3.getD a2.toNat 0)))) I I I I) <| Z3 13 I (st_pickT (v := (.bool (decide ((a3.getD (IntKind.i64.wrap (((a0.Trees.getD a1.toNat Zi).Calls.getD a2.toNat Za).Link.tmod 16)).toNat 0) ≤ (a3.getD a2.toNat 0))))) I I I) <| Z21 (by kernel_rfl) I <| Z9 ?_
   refine AWp.join (V := (List Tapi_Ref)) (lp := fun v => F123_j21 K a0 a1 a2 v16 v = some r) (sh := fun v => ⟨[(10, (.ptr 10 0)), (11, (.ptr 11 0)), (12, (.ptr 12 0))], [(10, (.box [(.int .i64 0), (.int .i64 0), (.int .i64 0), (.int .i64 0), (.int .i64 0), (.int .i64 0), (.str []), (.str []), (.str []), (.int .i64 0), (.int .i64 0), (.bool false), (.sl 4 [] false), (.sl 2 [] false)])), (11, (.box (Z1n ((a0.Trees.getD a1.toNat Zi).Calls.getD a2.toNat Za)).cells)), (12, (.box [(.int .i64 v16.Trace), (.int .i64 v16.Id), (.int .i64 v16.Parent), (.int .i64 v16.Revision), (.int .i64 v16.Clock), (.int .i64 v16.Kind), (.str v16.Service), (.str v16.Version), (.str v16.Operation), (.int .i64 v16.Start), (.int .i64 v16.End), (.bool v16.Error), (.sl 4 (v16.Attrs.map Z1p) false), (.sl 2 (v.map Z20) false)]))]⟩) ?_ ?_
   ·intro v h
    revert h
    revert v
    intro v20 h
    try dsimp only at h ⊢
    unfold F123_j21 at h
    refine Z9 <| Zb <| Z4 <| Z1 I (Z1l (cs := (Z1n ((a0.Trees.getD a1.toNat Zi).Calls.getD a2.toNat Za)).cells) (vs := (Z1n ((a0.Trees.getD a1.toNat Zi).Calls.getD a2.toNat Za)).cells) I a241 I I I I) I ?_
    have ⟨v23, hv23, h⟩ := Z1b h
    refine Z1 I (Z1h (ar := [(Z1n ((a0.Trees.getD a1.toNat Zi).Calls.getD a2.toNat Za))]) (caps := []) Tryz.call154 (F154_ok K ((a0.Trees.getD a1.toNat Zi).Calls.getD a2.toNat Za) v23 hv23) I I ⟨I, J0⟩ I) I <| Z1 I (Zn I f56_12 I I) I <| Z1 I (Z19 sz53 I I I I I I I I) I <| Z8 <| Z9 <| Zb <| Z4 <| Z1 I (Z1l (cs := [(.int .i64 v16.Trace), (.int .i64 v16.Id), (.int .i64 v16.Parent), (.int .i64 v16.Revision), (.int .i64 v16.Clock), (.int .i64 v16.Kind), (.str v16.Service), (.str v16.Version), (.str v16.Operation), (.int .i64 v16.Start), (.int .i64 v16.End), (.bool v16.Error), (.sl 4 (v23.map Z1p) false), (.sl 2 (v20.map Z20) false)]) (vs := [(.int .i64 v16.Trace), (.int .i64 v16.Id), (.int .i64 v16.Parent), (.int .i64 v16.Revision), (.int .i64 v16.Clock), (.int .i64 v16.Kind), (.str v16.Service), (.str v16.Version), (.str v16.Operation), (.int .i64 v16.Start), (.int .i64 v16.End), (.bool v16.Error), (.sl 4 (v23.map Z1p) false), (.sl 2 (v20.map Z20) false)]) I a56 I I I I) I <| Z1 I (Z19 sz56 I I I I I I I I) I <| Z8 <| Z9 <| Z1e ?_
    have h := Option.some.inj h
    subst h
    refine (hret _ ?_).1
    exact ⟨[(.ag [(.int .i64 v16.Trace), (.int .i64 v16.Id), (.int .i64 v16.Parent), (.int .i64 v16.Revision), (.int .i64 v16.Clock), (.int .i64 v16.Kind), (.str v16.Service), (.str v16.Version), (.str v16.Operation), (.int .i64 v16.Start), (.int .i64 v16.End), (.bool v16.Error), (.sl 4 (v23.map Z1p) false), (.sl 2 (v20.map Z20) false)])], ⟨⟨10, _, I, I, .inr ⟨_, a56, I, I⟩⟩, J0⟩, I, J0⟩
   intro J21
   have hif := Z2a h
   refine Z15 I (fun hc => ?_) (fun hc => ?_)
   ·have h := hif.1 hc
    refine Z4 <| Z1 I (Zn I f56_0 I I) I <| Z1 I (Zs I o3 I I I) I <| Z1 I (Zh I I) I <| Z1 I (Z1c (k := .i64) (b := 1) (c := (IntKind.i64.wrap ((IntKind.i64.wrap (((a0.Trees.getD a1.toNat Zi).Calls.getD a2.toNat Za).Link.tmod 16)) + 1))) I I I I) I <| Z1 I (stx_build (vs := [(0, (.int .i64 v16.Trace)), (1, (.int .i64 (IntKind.i64.wrap ((IntKind.i64.wrap (((a0.Trees.getD a1.toNat Zi).Calls.getD a2.toNat Za).Link.tmod 16)) + 1))))]) (cs := [(.int .i64 v16.Trace), (.int .i64 (IntKind.i64.wrap ((IntKind.i64.wrap (((a0.Trees.getD a1.toNat Zi).Calls.getD a2.toNat Za).Link.tmod 16)) + 1)))]) I st177 ⟨I, I, I, I, J0⟩ I) I <| Z1 I (Z1i (vs := [(.ag [(.int .i64 v16.Trace), (.int .i64 (IntKind.i64.wrap ((IntKind.i64.wrap (((a0.Trees.getD a1.toNat Zi).Calls.getD a2.toNat Za).Link.tmod 16)) + 1)))])]) (enc := Z20) (l := [(⟨v16.Trace, (IntKind.i64.wrap ((IntKind.i64.wrap (((a0.Trees.getD a1.toNat Zi).Calls.getD a2.toNat Za).Link.tmod 16)) + 1))⟩ : Tapi_Ref)]) I el54 I I ⟨I, J0⟩ I els_Tapi_Ref I I I I) I <| Z1 I (Zn I f56_13 I I) I <| Z1 I (Z19 sz54 I I I I I I I I) I <| Z8 <| At.ghost (st' := ⟨[(10, (.ptr 10 0)), (11, (.ptr 11 0)), (12, (.ptr 12 0))], [(10, (.box [(.int .i64 0), (.int .i64 0), (.int .i64 0), (.int .i64 0), (.int .i64 0), (.int .i64 0), (.str []), (.str []), (.str []), (.int .i64 0), (.int .i64 0), (.bool false), (.sl 4 [] false), (.sl 2 [] false)])), (11, (.box (Z1n ((a0.Trees.getD a1.toNat Zi).Calls.getD a2.toNat Za)).cells)), (12, (.box [(.int .i64 v16.Trace), (.int .i64 v16.Id), (.int .i64 v16.Parent), (.int .i64 v16.Revision), (.int .i64 v16.Clock), (.int .i64 v16.Kind), (.str v16.Service), (.str v16.Version), (.str v16.Operation), (.int .i64 v16.Start), (.int .i64 v16.End), (.bool v16.Error), (.sl 4 (v16.Attrs.map Z1p) false), (.sl 2 ([(⟨v16.Trace, (IntKind.i64.wrap ((IntKind.i64.wrap (((a0.Trees.getD a1.toNat Zi).Calls.getD a2.toNat Za).Link.tmod 16)) + 1))⟩ : Tapi_Ref)].map Z20) false)]))]⟩) (fun a w h => (Z17 _ (ghost_freeze (m := 106) (sz := 2) (es := (List.map Z20 [(⟨v16.Trace, (IntKind.i64.wrap ((IntKind.i64.wrap (((a0.Trees.getD a1.toNat Zi).Calls.getD a2.toNat Za).Link.tmod 16)) + 1))⟩ : Tapi_Ref)])) a w (Z17 ⟨[(10, (.ptr 10 0)), (11, (.ptr 11 0)), (12, (.ptr 12 0))], [(106, (.vec 2 (List.map Z20 [(⟨v16.Trace, (IntKind.i64.wrap ((IntKind.i64.wrap (((a0.Trees.getD a1.toNat Zi).Calls.getD a2.toNat Za).Link.tmod 16)) + 1))⟩ : Tapi_Ref)]))), (10, (.box [(.int .i64 0), (.int .i64 0), (.int .i64 0), (.int .i64 0), (.int .i64 0), (.int .i64 0), (.str []), (.str []), (.str []), (.int .i64 0), (.int .i64 0), (.bool false), (.sl 4 [] false), (.sl 2 [] false)])), (11, (.box (Z1n ((a0.Trees.getD a1.toNat Zi).Calls.getD a2.toNat Za)).cells)), (12, (.box [(.int .i64 v16.Trace), (.int .i64 v16.Id), (.int .i64 v16.Parent), (.int .i64 v16.Revision), (.int .i64 v16.Clock), (.int .i64 v16.Kind), (.str v16.Service), (.str v16.Version), (.str v16.Operation), (.int .i64 v16.Start), (.int .i64 v16.End), (.bool v16.Error), (.sl 4 (v16.Attrs.map Z1p) false), (.vs 106)]))]⟩ h ⟨I, I, I, J0⟩ ⟨I, I, I, I, J0⟩)) ⟨I, I, I, J0⟩ ⟨I, I, I, J0⟩)) ?_
    exact Z1d (J21 [(⟨v16.Trace, (IntKind.i64.wrap ((IntKind.i64.wrap (((a0.Trees.getD a1.toNat Zi).Calls.getD a2.toNat Za).Link.tmod 16)) + 1))⟩ : Tapi_Ref)] h) ⟨I, I, I, J0⟩ ⟨I, I, I, J0⟩
   have h := hif.2 hc
   refine Z18 ?_
   exact Z1d (J21 v16.Links h) ⟨I, I, I, J0⟩ ⟨I, I, I, J0⟩
  have h := hif.2 hc
  refine Z14 4 I I I I I I I <| Z14 5 I I I I I I I <| Z14 6 I I I I I I I <| Z14 7 I I I I I I I <| Z14 8 I I I I I I I <| Z14 9 I I I I I I I <| Z14 10 I I I I I I I <| Z14 11 I I I I I I I <| Z14 12 I I I I I I I <| Z3 13 I (st_pickF (v := (.bool false)) I I I) <| Z21 (by kernel_rfl) I <| Z9 ?_
  refine Z15 (b := false) I (fun hc => ?_) (fun hc => ?_)
  ·cases hc
  refine Z18 <| Z9 <| Zb <| Z4 <| Z1 I (Z1l (cs := (Z1n ((a0.Trees.getD a1.toNat Zi).Calls.getD a2.toNat Za)).cells) (vs := (Z1n ((a0.Trees.getD a1.toNat Zi).Calls.getD a2.toNat Za)).cells) I a241 I I I I) I ?_
  have ⟨v25, hv25, h⟩ := Z1b h
  refine Z1 I (Z1h (ar := [(Z1n ((a0.Trees.getD a1.toNat Zi).Calls.getD a2.toNat Za))]) (caps := []) Tryz.call154 (F154_ok K ((a0.Trees.getD a1.toNat Zi).Calls.getD a2.toNat Za) v25 hv25) I I ⟨I, J0⟩ I) I <| Z1 I (Zn I f56_12 I I) I <| Z1 I (Z19 sz53 I I I I I I I I) I <| Z8 <| Z9 <| Zb <| Z4 <| Z1 I (Z1l (cs := [(.int .i64 v16.Trace), (.int .i64 v16.Id), (.int .i64 v16.Parent), (.int .i64 v16.Revision), (.int .i64 v16.Clock), (.int .i64 v16.Kind), (.str v16.Service), (.str v16.Version), (.str v16.Operation), (.int .i64 v16.Start), (.int .i64 v16.End), (.bool v16.Error), (.sl 4 (v25.map Z1p) false), (.sl 2 (v16.Links.map Z20) false)]) (vs := [(.int .i64 v16.Trace), (.int .i64 v16.Id), (.int .i64 v16.Parent), (.int .i64 v16.Revision), (.int .i64 v16.Clock), (.int .i64 v16.Kind), (.str v16.Service), (.str v16.Version), (.str v16.Operation), (.int .i64 v16.Start), (.int .i64 v16.End), (.bool v16.Error), (.sl 4 (v25.map Z1p) false), (.sl 2 (v16.Links.map Z20) false)]) I a56 I I I I) I <| Z1 I (Z19 sz56 I I I I I I I I) I <| Z8 <| Z9 <| Z1e ?_
  have h := Option.some.inj h
  subst h
  refine (hret _ ?_).1
  exact ⟨[(.ag [(.int .i64 v16.Trace), (.int .i64 v16.Id), (.int .i64 v16.Parent), (.int .i64 v16.Revision), (.int .i64 v16.Clock), (.int .i64 v16.Kind), (.str v16.Service), (.str v16.Version), (.str v16.Operation), (.int .i64 v16.Start), (.int .i64 v16.End), (.bool v16.Error), (.sl 4 (v25.map Z1p) false), (.sl 2 (v16.Links.map Z20) false)])], ⟨⟨10, _, I, I, .inr ⟨_, a56, I, I⟩⟩, J0⟩, I, J0⟩
 intro J17
 have hif := Z2a h
 refine Z15 I (fun hc => ?_) (fun hc => ?_)
 ·have h := hif.1 hc
  refine Z4 <| Z1 I (Zh I I) I <| Z1 I (Z1c (k := .i64) (b := 1) (c := (IntKind.i64.wrap (((IntKind.i64.wrap ((a0.Trees.getD a1.toNat Zi).Calls.getD a2.toNat Za).Parent).tmod (IntKind.i64.wrap (a2 + 1))) + 1))) I I I I) I <| Z1 I (Zn I f56_2 I I) I <| Z1 I (Z19 sz3 I I I I I I I I) I <| Z8 ?_
  exact Z1d (J17 (⟨v4, (IntKind.i64.wrap (a2 + 1)), (IntKind.i64.wrap (((IntKind.i64.wrap ((a0.Trees.getD a1.toNat Zi).Calls.getD a2.toNat Za).Parent).tmod (IntKind.i64.wrap (a2 + 1))) + 1)), 0, (IntKind.i64.wrap (1 + (IntKind.i64.wrap (((a0.Trees.getD a1.toNat Zi).Calls.getD a2.toNat Za).Clock.tmod 4)))), v6, (([[97, 112, 105], [100, 98], [119, 101, 98], [99, 97, 99, 104, 101]] : List Str).getD (((a0.Trees.getD a1.toNat Zi).Calls.getD a2.toNat Za).Service.tmod 4).toNat []), (([[118, 49], [118, 50], []] : List Str).getD (((a0.Trees.getD a1.toNat Zi).Calls.getD a2.toNat Za).Version.tmod 3).toNat []), (([[103, 101, 116], [112, 117, 116], [108, 105, 115, 116]] : List Str).getD (((a0.Trees.getD a1.toNat Zi).Calls.getD a2.toNat Za).Operation.tmod 3).toNat []), (a3.getD a2.toNat 0), (a4.getD a2.toNat 0), ((a0.Trees.getD a1.toNat Zi).Calls.getD a2.toNat Za).Fail, [], []⟩ : Zg) h) ⟨I, I, I, I, I, J0⟩ ⟨I, I, I, J0⟩
 have h := hif.2 hc
 refine Zb <| Z4 <| Z1 I (Zh I I) I <| Z1 I (Z1y (b := 0) (c := (decide (a2 > 0))) I I I I) I <| Z8 <| Z9 ?_
 have hif := Z2a h
 refine Z15 I (fun hc => ?_) (fun hc => ?_)
 ·have h := hif.1 hc
  refine Z4 <| Z1 I (Zn I f56_2 I I) I <| Z1 I (Z19 (cs := [(.int .i64 v4), (.int .i64 (IntKind.i64.wrap (a2 + 1))), (.int .i64 0), (.int .i64 0), (.int .i64 (IntKind.i64.wrap (1 + (IntKind.i64.wrap (((a0.Trees.getD a1.toNat Zi).Calls.getD a2.toNat Za).Clock.tmod 4))))), (.int .i64 v6), (.str (([[97, 112, 105], [100, 98], [119, 101, 98], [99, 97, 99, 104, 101]] : List Str).getD (((a0.Trees.getD a1.toNat Zi).Calls.getD a2.toNat Za).Service.tmod 4).toNat [])), (.str (([[118, 49], [118, 50], []] : List Str).getD (((a0.Trees.getD a1.toNat Zi).Calls.getD a2.toNat Za).Version.tmod 3).toNat [])), (.str (([[103, 101, 116], [112, 117, 116], [108, 105, 115, 116]] : List Str).getD (((a0.Trees.getD a1.toNat Zi).Calls.getD a2.toNat Za).Operation.tmod 3).toNat [])), (.int .i64 (a3.getD a2.toNat 0)), (.int .i64 (a4.getD a2.toNat 0)), (.bool ((a0.Trees.getD a1.toNat Zi).Calls.getD a2.toNat Za).Fail), (.sl 4 [] false), (.sl 2 [] false)]) (vs := [(.int .i64 100)]) (ds := [(.int .i64 v4), (.int .i64 (IntKind.i64.wrap (a2 + 1))), (.int .i64 100), (.int .i64 0), (.int .i64 (IntKind.i64.wrap (1 + (IntKind.i64.wrap (((a0.Trees.getD a1.toNat Zi).Calls.getD a2.toNat Za).Clock.tmod 4))))), (.int .i64 v6), (.str (([[97, 112, 105], [100, 98], [119, 101, 98], [99, 97, 99, 104, 101]] : List Str).getD (((a0.Trees.getD a1.toNat Zi).Calls.getD a2.toNat Za).Service.tmod 4).toNat [])), (.str (([[118, 49], [118, 50], []] : List Str).getD (((a0.Trees.getD a1.toNat Zi).Calls.getD a2.toNat Za).Version.tmod 3).toNat [])), (.str (([[103, 101, 116], [112, 117, 116], [108, 105, 115, 116]] : List Str).getD (((a0.Trees.getD a1.toNat Zi).Calls.getD a2.toNat Za).Operation.tmod 3).toNat [])), (.int .i64 (a3.getD a2.toNat 0)), (.int .i64 (a4.getD a2.toNat 0)), (.bool ((a0.Trees.getD a1.toNat Zi).Calls.getD a2.toNat Za).Fail), (.sl 4 [] false), (.sl 2 [] false)]) (v := (.int .i64 100)) sz3 I I I I I I I I) I <| Z8 ?_
  exact Z1d (J17 (⟨v4, (IntKind.i64.wrap (a2 + 1)), 100, 0, (IntKind.i64.wrap (1 + (IntKind.i64.wrap (((a0.Trees.getD a1.toNat Zi).Calls.getD a2.toNat Za).Clock.tmod 4)))), v6, (([[97, 112, 105], [100, 98], [119, 101, 98], [99, 97, 99, 104, 101]] : List Str).getD (((a0.Trees.getD a1.toNat Zi).Calls.getD a2.toNat Za).Service.tmod 4).toNat []), (([[118, 49], [118, 50], []] : List Str).getD (((a0.Trees.getD a1.toNat Zi).Calls.getD a2.toNat Za).Version.tmod 3).toNat []), (([[103, 101, 116], [112, 117, 116], [108, 105, 115, 116]] : List Str).getD (((a0.Trees.getD a1.toNat Zi).Calls.getD a2.toNat Za).Operation.tmod 3).toNat []), (a3.getD a2.toNat 0), (a4.getD a2.toNat 0), ((a0.Trees.getD a1.toNat Zi).Calls.getD a2.toNat Za).Fail, [], []⟩ : Zg) h) ⟨I, I, I, I, I, J0⟩ ⟨I, I, I, J0⟩
 have h := hif.2 hc
 refine Z18 ?_
 exact Z1d (J17 (⟨v4, (IntKind.i64.wrap (a2 + 1)), 0, 0, (IntKind.i64.wrap (1 + (IntKind.i64.wrap (((a0.Trees.getD a1.toNat Zi).Calls.getD a2.toNat Za).Clock.tmod 4)))), v6, (([[97, 112, 105], [100, 98], [119, 101, 98], [99, 97, 99, 104, 101]] : List Str).getD (((a0.Trees.getD a1.toNat Zi).Calls.getD a2.toNat Za).Service.tmod 4).toNat []), (([[118, 49], [118, 50], []] : List Str).getD (((a0.Trees.getD a1.toNat Zi).Calls.getD a2.toNat Za).Version.tmod 3).toNat []), (([[103, 101, 116], [112, 117, 116], [108, 105, 115, 116]] : List Str).getD (((a0.Trees.getD a1.toNat Zi).Calls.getD a2.toNat Za).Operation.tmod 3).toNat []), (a3.getD a2.toNat 0), (a4.getD a2.toNat 0), ((a0.Trees.getD a1.toNat Zi).Calls.getD a2.toNat Za).Fail, [], []⟩ : Zg) h) ⟨I, I, I, I, I, J0⟩ ⟨I, I, I, J0⟩
def F124 (_K : Nat) (a0 : Zy) (a1 : Int) : Option (Int) :=
 if (0 : Int) ≤ ((IntKind.u64.wrap ((IntKind.u64.wrap a1) + 3)).tmod 4) ∧ ((IntKind.u64.wrap ((IntKind.u64.wrap a1) + 3)).tmod 4) < (4 : Nat) then
 some ((IntKind.i64.wrap (([a0.Offsets.e0, a0.Offsets.e1, a0.Offsets.e2, a0.Offsets.e3] : List Int).getD ((IntKind.u64.wrap ((IntKind.u64.wrap a1) + 3)).tmod 4).toNat 0)).tmod 21)
 else none
theorem F124_ok (K : Nat) (a0 : Zy) (a1 : Int) (r : Int) (h : F124 K a0 a1 = some r) : ACall P 124 ⟨[(Z1a a0), (.int .i64 a1)], [], (.int .i64 r), [], []⟩ := by
 refine Z1r Tryz.func124 Tryz.results124 rfl Tryz.ntmps124 rfl rfl rfl ?_
 intro E Q hP hN hro hret
 obtain ⟨P', nt', w0, F0, p0, S0, β0, ro0⟩ := E
 simp only at hP hN
 subst hP hN
 dsimp only [argT]
 unfold F124 at h
 refine Zb <| Z4 <| Z1 I (st_box I I I I I) I <| Z1 I (Zj (v := (.int .i64 0)) I I) I <| Z8 <| Z9 <| Zb <| Z4 <| Z1 I (Zh I I) I <| Z1 I (st_conv I us3 u107 I) I <| Z1 I (Z1c (k := .u64) (b := 3) (c := (IntKind.u64.wrap ((IntKind.u64.wrap a1) + 3))) I I I I) I <| Z1 I (st_div (b := 4) (c := ((IntKind.u64.wrap ((IntKind.u64.wrap a1) + 3)).tmod 4)) I I I I (by decide)) I <| Z1 I (Zn I f27_1 I I) I <| AOps.ghost (st' := ⟨[(4, (.int .i64 0)), (8, (.int .u64 ((IntKind.u64.wrap ((IntKind.u64.wrap a1) + 3)).tmod 4))), (9, (.ip [(.int .i8 a0.Offsets.e0), (.int .i8 a0.Offsets.e1), (.int .i8 a0.Offsets.e2), (.int .i8 a0.Offsets.e3), (.sl 5 (a0.Syncs.map e_Tsleuthlaw13_Sync) false), (.int .u8 a0.Wrong)]))], []⟩) (fun a w h => (Z17 _ (ghost_freezeB (m := 2) (cs := (Z1a a0).cells) I a w (Z17 ⟨[(4, (.int .i64 0)), (8, (.int .u64 ((IntKind.u64.wrap ((IntKind.u64.wrap a1) + 3)).tmod 4))), (9, (.ptr 2 1))], [(2, (.box (Z1a a0).cells))]⟩ h ⟨I, I, I, J0⟩ ⟨I, J0⟩)) ⟨I, I, I, J0⟩ J0)) ?_
 have ⟨hg1, h⟩ := Zx h
 refine Z1 I (st_indexIL (k := .u64) (j := ((IntKind.u64.wrap ((IntKind.u64.wrap a1) + 3)).tmod 4)) (l := [a0.Offsets.e0, a0.Offsets.e1, a0.Offsets.e2, a0.Offsets.e3]) (enc := e_i8) (z := 0) (ds := [(.int .i8 (([a0.Offsets.e0, a0.Offsets.e1, a0.Offsets.e2, a0.Offsets.e3] : List Int).getD ((IntKind.u64.wrap ((IntKind.u64.wrap a1) + 3)).tmod 4).toNat 0))]) I u24 sz23 I I I I els_i8 hg1 I) I <| Z1 I (st_loadI I o23 I I) I <| Z1 I (st_conv I us23 u3 I) I <| Z1 I (st_div (b := 21) (c := ((IntKind.i64.wrap (([a0.Offsets.e0, a0.Offsets.e1, a0.Offsets.e2, a0.Offsets.e3] : List Int).getD ((IntKind.u64.wrap ((IntKind.u64.wrap a1) + 3)).tmod 4).toNat 0)).tmod 21)) I I I I (by decide)) I <| Z1 I (Zj I I) I <| Z8 <| Z9 <| Z1e ?_
 have h := Option.some.inj h
 subst h
 refine (hret _ ?_).1
 exact ⟨[(.int .i64 ((IntKind.i64.wrap (([a0.Offsets.e0, a0.Offsets.e1, a0.Offsets.e2, a0.Offsets.e3] : List Int).getD ((IntKind.u64.wrap ((IntKind.u64.wrap a1) + 3)).tmod 4).toNat 0)).tmod 21))], ⟨I, J0⟩, I, J0⟩
end Go.AM.TopZ
