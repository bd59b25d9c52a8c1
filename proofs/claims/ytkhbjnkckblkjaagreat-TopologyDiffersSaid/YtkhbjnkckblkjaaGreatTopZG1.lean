/- What these functions compute, each with its walk: F17, F19, F11, F31, F53, F54, F71, F55. -/
import Derived.Test.YtkhbjnkckblkjaaGreatTopZT
import Derived.Test.YtkhbjnkckblkjaaGreatTopZG0
namespace Go.AM.TopZ
open Go Go.AM Go.Proofs
set_option maxRecDepth 100000
set_option maxHeartbeats 2000000
noncomputable def Z4b (K : Nat) (v10 : Bool) (v11 : (List (Str × Zg))) (v12 : (List (Zq × Zk))) : Option (Int × Zc) :=
 (F52 K v10 v11 v12).bind fun v16 =>
  some (v16.1, v16.2)
def Z7p (K : Nat) (b17 : Int → Bool → (List (Str × Zg)) → (List (Zq × Zk)) → Option (Int × Zc)) (v5 : Int) (v33 : Bool) (v34 : (List (Str × Zg))) (v35 : (List (Zq × Zk))) : Option (Int × Zc) :=
 b17 (IntKind.i64.wrap (v5 + 1)) v33 v34 v35
def F17_j42 (K : Nat) (b38 : Int → Bool → (List (Str × Zg)) → (List (Zq × Zk)) → Option (Int × Zc)) (v28 : Int) (v39 : Bool) (v40 : (List (Str × Zg))) (v41 : (List (Zq × Zk))) : Option (Int × Zc) :=
 b38 (IntKind.i64.wrap (v28 + 1)) v39 v40 v41
def F17_j52 (K : Nat) (b38 : Int → Bool → (List (Str × Zg)) → (List (Zq × Zk)) → Option (Int × Zc)) (v28 : Int) (v49 : Bool × (List (Str × Zg))) (v50 : Bool) (v51 : (List (Zq × Zk))) : Option (Int × Zc) :=
 F17_j42 K b38 v28 v50 v49.2 v51
def Z5f (K : Nat) (v21 : (List Zm)) (a0 : (List Zv)) (v5 : Int) (v25 : (List (Int × Zm))) (c37 : Bool → (List (Str × Zg)) → (List (Zq × Zk)) → Option (Int × Zc)) : Nat → Int → Bool → (List (Str × Zg)) → (List (Zq × Zk)) → Option (Int × Zc)
 | 0, _, _, _, _ => none
 | k32 + 1, v28, v29, v30, v31 =>
  if (decide (v28 < (v21.length : Int))) = true then
   if (0 : Int) ≤ v28 ∧ v28 < v21.length then
    (F49 K (v21.getD v28.toNat Z8).Error (a0.getD v5.toNat Zn).Weight).bind fun v45 =>
     (F49 K ((v21.getD v28.toNat Z8).Parent == 0) (a0.getD v5.toNat Zn).Weight).bind fun v47 =>
      (F48 K (⟨(v21.getD v28.toNat Z8).Service, (a0.getD v5.toNat Zn).Weight, v45, v47⟩ : Zg) v29 v30 v31).bind fun v49 =>
       if (mget Z33 (v21.getD v28.toNat Z8).Parent v25).isSome = true then
        if (!(((mget Z33 (v21.getD v28.toNat Z8).Parent v25).getD Z8).Service == (v21.getD v28.toNat Z8).Service)) = true then
         (F49 K (v21.getD v28.toNat Z8).Error (a0.getD v5.toNat Zn).Weight).bind fun v54 =>
          (F51 K (v21.getD v28.toNat Z8)).bind fun v56 =>
           (F50 K (⟨((mget Z33 (v21.getD v28.toNat Z8).Parent v25).getD Z8).Service, (v21.getD v28.toNat Z8).Service, (a0.getD v5.toNat Zn).Weight, v54, (IntKind.i64.wrap (v56 * (a0.getD v5.toNat Zn).Weight))⟩ : Zk) v49.1 v49.2 v31).bind fun v58 =>
            F17_j52 K (Z5f K v21 a0 v5 v25 c37 k32) v28 v49 v58.1 v58.2
        else
         F17_j52 K (Z5f K v21 a0 v5 v25 c37 k32) v28 v49 v49.1 v31
       else
        F17_j42 K (Z5f K v21 a0 v5 v25 c37 k32) v28 v49.1 v49.2 v31
   else none
  else
   c37 v29 v30 v31
def F17_c26 (K : Nat) (v21 : (List Zm)) (a0 : (List Zv)) (v5 : Int) (b17 : Int → Bool → (List (Str × Zg)) → (List (Zq × Zk)) → Option (Int × Zc)) (v6 : Bool) (v7 : (List (Str × Zg))) (v8 : (List (Zq × Zk))) (v25 : (List (Int × Zm))) : Option (Int × Zc) :=
 Z5f K v21 a0 v5 v25 (Z7p K b17 v5) K 0 v6 v7 v8
def F17_l24 (K : Nat) (v21 : (List Zm)) (c27 : (List (Int × Zm)) → Option (Int × Zc)) : Nat → Int → (List (Int × Zm)) → Option (Int × Zc)
 | 0, _, _ => none
 | k24 + 1, v22, v23 =>
  if (decide (v22 < (v21.length : Int))) = true then
   if (0 : Int) ≤ v22 ∧ v22 < v21.length then
    (F17_l24 K v21 c27 k24) (IntKind.i64.wrap (v22 + 1)) (mput Z33 (v21.getD v22.toNat Z8).Id (v21.getD v22.toNat Z8) v23)
   else none
  else
   c27 v23
def Z5j (K : Nat) (a0 : (List Zv)) (c14 : Bool → (List (Str × Zg)) → (List (Zq × Zk)) → Option (Int × Zc)) : Nat → Int → Bool → (List (Str × Zg)) → (List (Zq × Zk)) → Option (Int × Zc)
 | 0, _, _, _, _ => none
 | k9 + 1, v5, v6, v7, v8 =>
  if (decide (v5 < (a0.length : Int))) = true then
   if (0 : Int) ≤ v5 ∧ v5 < (a0.length : Nat) then
    if v5.toNat < a0.length then
     (F47 K (a0.getD v5.toNat Zn).Spans).bind fun v21 =>
      F17_l24 K v21 (F17_c26 K v21 a0 v5 (Z5j K a0 c14 k9) v6 v7 v8) K 0 ([] : List (Int × Zm))
    else none
   else none
  else
   c14 v6 v7 v8
noncomputable def F17 (K : Nat) (a0 : (List Zv)) : Option (Int × Zc) :=
 (F46 K).bind fun v4 =>
  Z5j K a0 (Z4b K) K 0 false ([] : List (Str × Zg)) ([] : List (Zq × Zk))
theorem F17_ok (K : Nat) (a0 : (List Zv)) (r : Int × Zc) (h : F17 K a0 = some r) : ACall P 17 ⟨[(.vs 2000)], [(2000, (.vec 3 (List.map Z1i a0)))], (.tup [(Z4 r.2), (.int .i64 r.1)]), [(2000, (.vec 3 (List.map Z1i a0)))], []⟩ := by
 refine Z1s Tryz.func17 Tryz.results17 rfl Tryz.ntmps17 rfl rfl rfl ?_
 intro E Q hP hN hro hret
 obtain ⟨P', nt', w0, F0, p0, S0, β0, ro0⟩ := E
 simp only at hP hN
 subst hP hN
 dsimp only [argT]
 unfold F17 at h
 refine Zj <| Zf <| Z2 I (Z1v (cs := [(.sl 4 [] false), (.sl 5 [] false)]) I z44 I I I) I <| Z2 I (Zp (v := (.int .i64 0)) I I) I <| Zi <| Zh <| Zj <| Zf ?_
 have ⟨v4, hv4, h⟩ := Z1f h
 refine Z2 I (Z2v (d := some 16) (c := ⟨[] ++ [], [], (.ptr 96 0), [(16, (.map (Zu Z20 Z3 ([] : List (Str × Zg))))), (97, (.map (Zu Zl Z5 ([] : List (Zq × Zk))))), (96, (.box [(.map 16), (.map 97), (.bool false)]))], [16, 97, 96]⟩) (ar := []) (caps := []) (news := [16, 97, 96]) (forg := []) Tryz.call46 ((((F46_ok K v4 hv4).sw 1 16).sw 2 97).sw 4 96) I I trivial I trivial I) I <| Z2 I (Zp (v := (.ptr 96 0)) I I) I <| Zi <| Zh <| Zj <| Zj <| Zf <| Z2 I (Zo (v := (.vs 2000)) I I) I ?_
 refine Z2 I (stx_lenV (l := a0) (enc := Z1i) I u31 I I) I <| Z2 I (Zo (v := (.int .i64 0)) I I) I <| Zi <| Zh <| AWp.weaken (st' := ⟨[(2, (.ptr 2 0)), (4, (.ptr 96 0)), (17, (.vs 2000)), (18, (.int .i64 (a0.length : Int))), (19, (.int .i64 0))], [(2, (.box [(.sl 4 [] false), (.sl 5 [] false)])), (16, (.map (Zu Z20 Z3 ([] : List (Str × Zg))))), (96, (.box [(.map 16), (.map 97), (.bool false)])), (97, (.map (Zu Zl Z5 ([] : List (Zq × Zk))))), (2000, (.vec 3 (List.map Z1i a0)))]⟩) ⟨rfl, rfl, rfl, rfl, rfl, trivial⟩ ⟨rfl, rfl, rfl, rfl, rfl, trivial⟩ ?_
 refine Z1n (V := Int × Bool × (List (Str × Zg)) × (List (Zq × Zk))) (X := Bool × (List (Str × Zg)) × (List (Zq × Zk))) (lp := fun k v => Z5j K a0 (Z4b K) k v.1 v.2.1 v.2.2.1 v.2.2.2 = some r) (sh := fun v => ⟨[(2, (.ptr 2 0)), (4, (.ptr 96 0)), (17, (.vs 2000)), (18, (.int .i64 (a0.length : Int))), (19, (.int .i64 v.1))], [(2, (.box [(.sl 4 [] false), (.sl 5 [] false)])), (16, (.map (Zu Z20 Z3 v.2.2.1))), (96, (.box [(.map 16), (.map 97), (.bool v.2.1)])), (97, (.map (Zu Zl Z5 v.2.2.2))), (2000, (.vec 3 (List.map Z1i a0)))]⟩) (x := fun v => Z4b K v.1 v.2.1 v.2.2 = some r) (shx := fun v => ⟨[(2, (.ptr 2 0)), (4, (.ptr 96 0))], [(2, (.box [(.sl 4 [] false), (.sl 5 [] false)])), (16, (.map (Zu Z20 Z3 v.2.1))), (96, (.box [(.map 16), (.map 97), (.bool v.1)])), (97, (.map (Zu Zl Z5 v.2.2))), (2000, (.vec 3 (List.map Z1i a0)))]⟩) (k := K) (v := (0, false, ([] : List (Str × Zg)), ([] : List (Zq × Zk)))) h ?_ ?_
 ·intro v h
  obtain ⟨v10, v11, v12⟩ := v
  try dsimp only at h ⊢
  unfold Z4b at h
  refine Zh <| Zj <| Zf <| Z2 I (Zo (v := (.ptr 96 0)) I I) I ?_
  have ⟨v16, hv16, h⟩ := Z1f h
  refine Z2 I (Z2v (d := some 95) (c := ⟨[(.ptr 96 0)] ++ [], [(96, (.box [(.map 16), (.map 97), (.bool v10)])), (16, (.map (Zu Z20 Z3 v11))), (97, (.map (Zu Zl Z5 v12)))], (.tup [(Z4 v16.2), (.int .i64 v16.1)]), [(96, (.box [(.map 16), (.map 97), (.bool v10)])), (16, (.fmap (Zu Z20 Z3 v11))), (97, (.fmap (Zu Zl Z5 v12)))], [16, 97]⟩) (ar := [(.ptr 96 0)]) (caps := []) (news := []) (forg := [16, 97]) Tryz.call52 ((((F52_ok K v10 v11 v12 v16 hv16).sw 2000 96).sw 59 16).sw 57 97) I I ⟨rfl, trivial⟩ I ⟨rfl, rfl, rfl, trivial⟩ I) I <| Z2 I (Z2g (vs := [(Z4 v16.2), (.int .i64 v16.1)]) (v := (Z4 v16.2)) I I I) I <| Z2 I (Z2g (vs := [(Z4 v16.2), (.int .i64 v16.1)]) (v := (.int .i64 v16.1)) I I I) I <| Z2 I (Z1e (cs := [(.sl 4 [] false), (.sl 5 [] false)]) (vs := (Z4 v16.2).cells) (ds := (Z4 v16.2).cells) (v := (Z4 v16.2)) Zau I I I I I I I I) I <| Z2 I (Zp (v := (.int .i64 v16.1)) I I) I <| Zi <| Zh <| Z1g ?_
  have h := Option.some.inj h
  subst h
  refine (hret _ ?_).1
  exact ⟨[(Z4 v16.2), (.int .i64 v16.1)], ⟨⟨2, _, rfl, rfl, .inr ⟨_, a44, rfl, rfl⟩⟩, rfl, trivial⟩, rfl, ⟨rfl, trivial⟩⟩
 ·intro N k9 v h IH9 J9
  obtain ⟨v5, v6, v7, v8⟩ := v
  try dsimp only at h IH9 J9 ⊢
  cases k9 with
  | zero => cases h
  | succ k9 =>
   rw [Z5j] at h
   refine Zj <| Zf <| Z2 I (Z25 (k := .i64) (a := v5) (b := (a0.length : Int)) (c := (decide (v5 < (a0.length : Int)))) I I I I) I <| Zi <| Zh <| Zj ?_
   have hif := Z28 h
   refine Z16 I (fun hc => ?_) (fun hc => ?_)
   ·have h := hif.1 hc
    refine Z1b <| Zh <| Zj <| AWp.block <| Zj <| Zf ?_
    have ⟨hg18, h⟩ := Z13 h
    refine Z2 I (Z3t (k := .i64) (v := (.vs 2000)) (n := 2000) (off := 0) (len := a0.length) (es := (List.map Z1i a0)) (j := v5) (m := v5.toNat) I s31 I I (Z43 _ _ _) I hg18 (Nat.zero_add _)) I ?_
    have ⟨hg19, h⟩ := Z13 h
    refine Z2 I (Z4o (l := a0) (enc := Z1i) (z := Zn) (vs := (Z1i (a0.getD v5.toNat Zn)).cells) I a39 I I hg19 I I) I <| Z2 I (Z1v (cs := [(.int .i64 0), (.int .i64 0), (.sl 14 [] false)]) I z39 I I I) I <| Z2 I (Z1e (cs := [(.int .i64 0), (.int .i64 0), (.sl 14 [] false)]) (vs := (Z1i (a0.getD v5.toNat Zn)).cells) (ds := (Z1i (a0.getD v5.toNat Zn)).cells) (v := (Z1i (a0.getD v5.toNat Zn))) sz39 I I I I I I I I) I <| Zi <| Zh <| Zj <| Zf <| Z2 I (Zr (m := 6) (o := 0) I f39_2 I I) I ?_
    refine Z2 I (Zt (cs := (Z1i (a0.getD v5.toNat Zn)).cells) (v := (.sl 14 ((a0.getD v5.toNat Zn).Spans.map Zd) false)) I o37 I I I) I ?_
    have ⟨v21, hv21, h⟩ := Z1f h
    refine Z2 I (Z1o (ar := [(.sl 14 ((a0.getD v5.toNat Zn).Spans.map Zd) false)]) (caps := []) Tryz.call47 (F47_ok K (a0.getD v5.toNat Zn).Spans v21 hv21) I I ⟨rfl, trivial⟩ I) I <| Z2 I (Zp (v := (.sl 14 (v21.map Zd) false)) I I) I <| Zi <| Zh <| Zj <| Zf <| Z2 I (Z61 I) I <| Z2 I (Zp (v := (.map 26)) I I) I ?_
    refine Zi <| Zh <| Zj <| Zj <| Zf <| Z2 I (Zo (v := (.sl 14 (v21.map Zd) false)) I I) I <| Z2 I (Z24 (l := v21) (enc := Zd) I s37 I) I <| Z2 I (Zo (v := (.int .i64 0)) I I) I ?_
    refine Zi <| Zh <| AWp.weaken (st' := ⟨[(2, (.ptr 2 0)), (4, (.ptr 96 0)), (6, (.ptr 6 0)), (7, (.sl 14 (v21.map Zd) false)), (8, (.map 26)), (17, (.vs 2000)), (18, (.int .i64 (a0.length : Int))), (19, (.int .i64 v5)), (27, (.sl 14 (v21.map Zd) false)), (28, (.int .i64 (v21.length : Int))), (29, (.int .i64 0))], [(2, (.box [(.sl 4 [] false), (.sl 5 [] false)])), (6, (.box (Z1i (a0.getD v5.toNat Zn)).cells)), (16, (.map (Zu Z20 Z3 v7))), (26, (.map (Zu Z2l Zd ([] : List (Int × Zm))))), (96, (.box [(.map 16), (.map 97), (.bool v6)])), (97, (.map (Zu Zl Z5 v8))), (2000, (.vec 3 (List.map Z1i a0)))]⟩) ⟨rfl, rfl, rfl, rfl, rfl, rfl, rfl, rfl, rfl, rfl, rfl, trivial⟩ ⟨rfl, rfl, rfl, rfl, rfl, rfl, rfl, trivial⟩ ?_
    refine Z1n (V := Int × (List (Int × Zm))) (X := (List (Int × Zm))) (lp := fun k v => F17_l24 K v21 (F17_c26 K v21 a0 v5 (Z5j K a0 (Z4b K) k9) v6 v7 v8) k v.1 v.2 = some r) (sh := fun v => ⟨[(2, (.ptr 2 0)), (4, (.ptr 96 0)), (6, (.ptr 6 0)), (7, (.sl 14 (v21.map Zd) false)), (8, (.map 26)), (17, (.vs 2000)), (18, (.int .i64 (a0.length : Int))), (19, (.int .i64 v5)), (27, (.sl 14 (v21.map Zd) false)), (28, (.int .i64 (v21.length : Int))), (29, (.int .i64 v.1))], [(2, (.box [(.sl 4 [] false), (.sl 5 [] false)])), (6, (.box (Z1i (a0.getD v5.toNat Zn)).cells)), (16, (.map (Zu Z20 Z3 v7))), (26, (.map (Zu Z2l Zd v.2))), (96, (.box [(.map 16), (.map 97), (.bool v6)])), (97, (.map (Zu Zl Z5 v8))), (2000, (.vec 3 (List.map Z1i a0)))]⟩) (x := fun v => F17_c26 K v21 a0 v5 (Z5j K a0 (Z4b K) k9) v6 v7 v8 v = some r) (shx := fun v => ⟨[(2, (.ptr 2 0)), (4, (.ptr 96 0)), (6, (.ptr 6 0)), (7, (.sl 14 (v21.map Zd) false)), (8, (.map 26)), (17, (.vs 2000)), (18, (.int .i64 (a0.length : Int))), (19, (.int .i64 v5))], [(2, (.box [(.sl 4 [] false), (.sl 5 [] false)])), (6, (.box (Z1i (a0.getD v5.toNat Zn)).cells)), (16, (.map (Zu Z20 Z3 v7))), (26, (.map (Zu Z2l Zd v))), (96, (.box [(.map 16), (.map 97), (.bool v6)])), (97, (.map (Zu Zl Z5 v8))), (2000, (.vec 3 (List.map Z1i a0)))]⟩) (k := K) (v := (0, ([] : List (Int × Zm)))) h ?_ ?_
    ·intro v h
     revert h
     revert v
     intro v25 h
     try dsimp only at h ⊢
     unfold F17_c26 at h
     refine Zh <| Zj <| Zf <| Z2 I (Zr (m := 6) (o := 0) I f39_1 I I) I <| Z2 I (Zt (cs := (Z1i (a0.getD v5.toNat Zn)).cells) (v := (.int .i64 (a0.getD v5.toNat Zn).Weight)) I o3 I I I) I <| Z2 I (Zp (v := (.int .i64 (a0.getD v5.toNat Zn).Weight)) I I) I <| Zi <| Zh ?_
     refine Zj <| Zf <| Z2 I (Zo (v := (.sl 14 (v21.map Zd) false)) I I) I <| Z2 I (Z24 (l := v21) (enc := Zd) I s37 I) I <| Z2 I (Zo (v := (.int .i64 0)) I I) I <| Zi <| Zh <| AWp.weaken (st' := ⟨[(2, (.ptr 2 0)), (4, (.ptr 96 0)), (8, (.map 26)), (11, (.int .i64 (a0.getD v5.toNat Zn).Weight)), (17, (.vs 2000)), (18, (.int .i64 (a0.length : Int))), (19, (.int .i64 v5)), (40, (.sl 14 (v21.map Zd) false)), (41, (.int .i64 (v21.length : Int))), (42, (.int .i64 0))], [(2, (.box [(.sl 4 [] false), (.sl 5 [] false)])), (16, (.map (Zu Z20 Z3 v7))), (26, (.map (Zu Z2l Zd v25))), (96, (.box [(.map 16), (.map 97), (.bool v6)])), (97, (.map (Zu Zl Z5 v8))), (2000, (.vec 3 (List.map Z1i a0)))]⟩) ⟨rfl, rfl, rfl, rfl, rfl, rfl, rfl, rfl, rfl, rfl, trivial⟩ ⟨rfl, rfl, rfl, rfl, rfl, rfl, trivial⟩ ?_
     refine Z1n (V := Int × Bool × (List (Str × Zg)) × (List (Zq × Zk))) (X := Bool × (List (Str × Zg)) × (List (Zq × Zk))) (lp := fun k v => Z5f K v21 a0 v5 v25 (Z7p K (Z5j K a0 (Z4b K) k9) v5) k v.1 v.2.1 v.2.2.1 v.2.2.2 = some r) (sh := fun v => ⟨[(2, (.ptr 2 0)), (4, (.ptr 96 0)), (8, (.map 26)), (11, (.int .i64 (a0.getD v5.toNat Zn).Weight)), (17, (.vs 2000)), (18, (.int .i64 (a0.length : Int))), (19, (.int .i64 v5)), (40, (.sl 14 (v21.map Zd) false)), (41, (.int .i64 (v21.length : Int))), (42, (.int .i64 v.1))], [(2, (.box [(.sl 4 [] false), (.sl 5 [] false)])), (16, (.map (Zu Z20 Z3 v.2.2.1))), (26, (.map (Zu Z2l Zd v25))), (96, (.box [(.map 16), (.map 97), (.bool v.2.1)])), (97, (.map (Zu Zl Z5 v.2.2.2))), (2000, (.vec 3 (List.map Z1i a0)))]⟩) (x := fun v => Z7p K (Z5j K a0 (Z4b K) k9) v5 v.1 v.2.1 v.2.2 = some r) (shx := fun v => ⟨[(2, (.ptr 2 0)), (4, (.ptr 96 0)), (17, (.vs 2000)), (18, (.int .i64 (a0.length : Int))), (19, (.int .i64 v5))], [(2, (.box [(.sl 4 [] false), (.sl 5 [] false)])), (16, (.map (Zu Z20 Z3 v.2.1))), (96, (.box [(.map 16), (.map 97), (.bool v.1)])), (97, (.map (Zu Zl Z5 v.2.2))), (2000, (.vec 3 (List.map Z1i a0)))]⟩) (k := K) (v := (0, v6, v7, v8)) h ?_ ?_
     ·intro v h
      obtain ⟨v33, v34, v35⟩ := v
      try dsimp only at h ⊢
      unfold Z7p at h
      refine At.end <| Zh <| Zf <| Z2 I (Z1u (k := .i64) (a := v5) (b := 1) (c := (IntKind.i64.wrap (v5 + 1))) I I I I) I <| Z2 I (Zo (v := (.int .i64 (IntKind.i64.wrap (v5 + 1)))) I I) I <| Zi ?_
      exact Zy (st' := ⟨[(2, (.ptr 2 0)), (4, (.ptr 96 0)), (17, (.vs 2000)), (18, (.int .i64 (a0.length : Int))), (19, (.int .i64 (IntKind.i64.wrap (v5 + 1))))], [(2, (.box [(.sl 4 [] false), (.sl 5 [] false)])), (16, (.map (Zu Z20 Z3 v34))), (96, (.box [(.map 16), (.map 97), (.bool v33)])), (97, (.map (Zu Zl Z5 v35))), (2000, (.vec 3 (List.map Z1i a0)))]⟩) ⟨rfl, rfl, rfl, rfl, rfl, trivial⟩ ⟨rfl, rfl, rfl, rfl, rfl, trivial⟩ (IH9 _ ((IntKind.i64.wrap (v5 + 1)), v33, v34, v35) (Nat.lt_succ_self _) h)
     ·intro N k32 v h IH32 J32
      obtain ⟨v28, v29, v30, v31⟩ := v
      try dsimp only at h IH32 J32 ⊢
      cases k32 with
      | zero => cases h
      | succ k32 =>
       rw [Z5f] at h
       refine Zj <| Zf <| Z2 I (Z25 (k := .i64) (a := v28) (b := (v21.length : Int)) (c := (decide (v28 < (v21.length : Int)))) I I I I) I <| Zi <| Zh <| Zj ?_
       have hif := Z28 h
       refine Z16 I (fun hc => ?_) (fun hc => ?_)
       ·have h := hif.1 hc
        refine Z1b <| Zh <| Zj ?_
        refine AWp.blockJoin (V := Bool × (List (Str × Zg)) × (List (Zq × Zk))) (lp := fun v => F17_j42 K (Z5f K v21 a0 v5 v25 (Z7p K (Z5j K a0 (Z4b K) k9) v5) k32) v28 v.1 v.2.1 v.2.2 = some r) (sh := fun v => ⟨[(2, (.ptr 2 0)), (4, (.ptr 96 0)), (8, (.map 26)), (11, (.int .i64 (a0.getD v5.toNat Zn).Weight)), (17, (.vs 2000)), (18, (.int .i64 (a0.length : Int))), (19, (.int .i64 v5)), (40, (.sl 14 (v21.map Zd) false)), (41, (.int .i64 (v21.length : Int))), (42, (.int .i64 v28))], [(2, (.box [(.sl 4 [] false), (.sl 5 [] false)])), (16, (.map (Zu Z20 Z3 v.2.1))), (26, (.map (Zu Z2l Zd v25))), (96, (.box [(.map 16), (.map 97), (.bool v.1)])), (97, (.map (Zu Zl Z5 v.2.2))), (2000, (.vec 3 (List.map Z1i a0)))]⟩) ?_ ?_
        ·intro v h
         obtain ⟨v39, v40, v41⟩ := v
         try dsimp only at h ⊢
         unfold F17_j42 at h
         refine Zh <| Zf <| Z2 I (Z1u (k := .i64) (a := v28) (b := 1) (c := (IntKind.i64.wrap (v28 + 1))) I I I I) I <| Z2 I (Zo (v := (.int .i64 (IntKind.i64.wrap (v28 + 1)))) I I) I <| Zi ?_
         exact Zy (st' := ⟨[(2, (.ptr 2 0)), (4, (.ptr 96 0)), (8, (.map 26)), (11, (.int .i64 (a0.getD v5.toNat Zn).Weight)), (17, (.vs 2000)), (18, (.int .i64 (a0.length : Int))), (19, (.int .i64 v5)), (40, (.sl 14 (v21.map Zd) false)), (41, (.int .i64 (v21.length : Int))), (42, (.int .i64 (IntKind.i64.wrap (v28 + 1))))], [(2, (.box [(.sl 4 [] false), (.sl 5 [] false)])), (16, (.map (Zu Z20 Z3 v40))), (26, (.map (Zu Z2l Zd v25))), (96, (.box [(.map 16), (.map 97), (.bool v39)])), (97, (.map (Zu Zl Z5 v41))), (2000, (.vec 3 (List.map Z1i a0)))]⟩) ⟨rfl, rfl, rfl, rfl, rfl, rfl, rfl, rfl, rfl, rfl, trivial⟩ ⟨rfl, rfl, rfl, rfl, rfl, rfl, trivial⟩ (IH32 _ ((IntKind.i64.wrap (v28 + 1)), v39, v40, v41) (Nat.lt_succ_self _) h)
        ·intro J42
         refine Zj <| Zf ?_
         have ⟨hg43, h⟩ := Z13 h
         refine Z2 I (Z1w (k := .i64) (l := v21) (enc := Zd) (z := Z8) (n := v28) (cs := (Zd (v21.getD v28.toNat Z8)).cells) (full := false) I s37 I I hg43 I) I <| Z2 I (Z2i (cs := (Zd (v21.getD v28.toNat Z8)).cells) (vs := (Zd (v21.getD v28.toNat Z8)).cells) I a56 I I I) I <| Z2 I (Z1v (cs := [(.int .i64 0), (.int .i64 0), (.int .i64 0), (.int .i64 0), (.int .i64 0), (.int .i64 0), (.str []), (.str []), (.str []), (.int .i64 0), (.int .i64 0), (.bool false), (.sl 4 [] false), (.sl 2 [] false)]) I z56 I I I) I <| Z2 I (Z1e (cs := [(.int .i64 0), (.int .i64 0), (.int .i64 0), (.int .i64 0), (.int .i64 0), (.int .i64 0), (.str []), (.str []), (.str []), (.int .i64 0), (.int .i64 0), (.bool false), (.sl 4 [] false), (.sl 2 [] false)]) (vs := (Zd (v21.getD v28.toNat Z8)).cells) (ds := (Zd (v21.getD v28.toNat Z8)).cells) (v := (Zd (v21.getD v28.toNat Z8))) sz56 I I I I I I I I) I <| Zi <| Zh <| Zj <| Z1r mixed ?_
         refine Zb 0 I (Zo (v := (.ptr 96 0)) I I) <| Zb 1 I (Zr (m := 13) (o := 0) I f56_6 I I) <| Zb 2 I (Zt (cs := (Zd (v21.getD v28.toNat Z8)).cells) (v := (.str (v21.getD v28.toNat Z8).Service)) I o9 I I I) <| Zb 3 I (Zo (v := (.int .i64 (a0.getD v5.toNat Zn).Weight)) I I) <| Zb 4 I (Zr (m := 13) (o := 0) I f56_11 I I) <| Zb 5 I (Zt (cs := (Zd (v21.getD v28.toNat Z8)).cells) (v := (.bool (v21.getD v28.toNat Z8).Error)) I o4 I I I) <| Zb 6 I (Zo (v := (.int .i64 (a0.getD v5.toNat Zn).Weight)) I I) ?_
         have ⟨v45, hv45, h⟩ := Z1f h
         refine Zb 7 I (Z1o (ar := [(.bool (v21.getD v28.toNat Z8).Error), (.int .i64 (a0.getD v5.toNat Zn).Weight)]) (caps := []) Tryz.call49 (F49_ok K (v21.getD v28.toNat Z8).Error (a0.getD v5.toNat Zn).Weight v45 hv45) I I ⟨rfl, rfl, trivial⟩ I) <| Zb 8 I (Zr (m := 13) (o := 0) I f56_2 I I) <| Zb 9 I (Zt (cs := (Zd (v21.getD v28.toNat Z8)).cells) (v := (.int .i64 (v21.getD v28.toNat Z8).Parent)) I o3 I I I) <| Zb 10 I (Z25 (k := .i64) (a := (v21.getD v28.toNat Z8).Parent) (b := 0) (c := ((v21.getD v28.toNat Z8).Parent == 0)) I I I I) <| Zb 11 I (Zo (v := (.int .i64 (a0.getD v5.toNat Zn).Weight)) I I) ?_
         have ⟨v47, hv47, h⟩ := Z1f h
         refine Zb 12 I (Z1o (ar := [(.bool ((v21.getD v28.toNat Z8).Parent == 0)), (.int .i64 (a0.getD v5.toNat Zn).Weight)]) (caps := []) Tryz.call49 (F49_ok K ((v21.getD v28.toNat Z8).Parent == 0) (a0.getD v5.toNat Zn).Weight v47 hv47) I I ⟨rfl, rfl, trivial⟩ I) <| Zb 13 I (Z27 (vs := [(0, (.str (v21.getD v28.toNat Z8).Service)), (1, (.int .i64 (a0.getD v5.toNat Zn).Weight)), (2, (.int .i64 v45)), (3, (.int .i64 v47))]) (cs := [(.str (v21.getD v28.toNat Z8).Service), (.int .i64 (a0.getD v5.toNat Zn).Weight), (.int .i64 v45), (.int .i64 v47)]) I st68 ⟨rfl, rfl, rfl, rfl, rfl, rfl, rfl, rfl, trivial⟩ I) ?_
         have ⟨v49, hv49, h⟩ := Z1f h
         refine Zb 14 I (Z2v (d := some 60) (c := ⟨[(.ptr 96 0), (.ag [(.str (v21.getD v28.toNat Z8).Service), (.int .i64 (a0.getD v5.toNat Zn).Weight), (.int .i64 v45), (.int .i64 v47)])] ++ [], [(96, (.box [(.map 16), (.map 97), (.bool v29)])), (16, (.map (Zu Z20 Z3 v30))), (97, (.map (Zu Zl Z5 v31)))], (.tup []), [(96, (.box [(.map 16), (.map 97), (.bool v49.1)])), (16, (.map (Zu Z20 Z3 v49.2))), (97, (.map (Zu Zl Z5 v31)))], []⟩) (ar := [(.ptr 96 0), (.ag [(.str (v21.getD v28.toNat Z8).Service), (.int .i64 (a0.getD v5.toNat Zn).Weight), (.int .i64 v45), (.int .i64 v47)])]) (caps := []) (news := []) (forg := []) Tryz.call48 ((((F48_ok K (⟨(v21.getD v28.toNat Z8).Service, (a0.getD v5.toNat Zn).Weight, v45, v47⟩ : Zg) v29 v30 v31 v49 hv49).sw 2000 96).sw 2001 16).sw 2002 97) I I ⟨rfl, rfl, trivial⟩ I ⟨rfl, rfl, rfl, trivial⟩ I) <| AOpsD.nil (by kernel_rfl) I <| Zh <| Zj <| Zf <| Z2 I (Zo (v := (.map 26)) I I) I <| Z2 I (Zr (m := 13) (o := 0) I f56_2 I I) I <| Z2 I (Zt (cs := (Zd (v21.getD v28.toNat Z8)).cells) (v := (.int .i64 (v21.getD v28.toNat Z8).Parent)) I o3 I I I) I ?_
         refine Z2 I (st_mlookupOk (l := v25) (a := (v21.getD v28.toNat Z8).Parent) (kv := (.int .i64 (v21.getD v28.toNat Z8).Parent)) I mt110 I I (.inl I) I I) I <| Z2 I (Zo (v := (.tup [(Zd ((mget Z33 (v21.getD v28.toNat Z8).Parent v25).getD Z8)), (.bool (mget Z33 (v21.getD v28.toNat Z8).Parent v25).isSome)])) I I) I <| Z2 I (Z2g (vs := [(Zd ((mget Z33 (v21.getD v28.toNat Z8).Parent v25).getD Z8)), (.bool (mget Z33 (v21.getD v28.toNat Z8).Parent v25).isSome)]) (v := (Zd ((mget Z33 (v21.getD v28.toNat Z8).Parent v25).getD Z8))) I I I) I <| Z2 I (Z2g (vs := [(Zd ((mget Z33 (v21.getD v28.toNat Z8).Parent v25).getD Z8)), (.bool (mget Z33 (v21.getD v28.toNat Z8).Parent v25).isSome)]) (v := (.bool (mget Z33 (v21.getD v28.toNat Z8).Parent v25).isSome)) I I I) I <| Z2 I (Z1v (cs := [(.int .i64 0), (.int .i64 0), (.int .i64 0), (.int .i64 0), (.int .i64 0), (.int .i64 0), (.str []), (.str []), (.str []), (.int .i64 0), (.int .i64 0), (.bool false), (.sl 4 [] false), (.sl 2 [] false)]) I z56 I I I) I <| Z2 I (Z1e (cs := [(.int .i64 0), (.int .i64 0), (.int .i64 0), (.int .i64 0), (.int .i64 0), (.int .i64 0), (.str []), (.str []), (.str []), (.int .i64 0), (.int .i64 0), (.bool false), (.sl 4 [] false), (.sl 2 [] false)]) (vs := (Zd ((mget Z33 (v21.getD v28.toNat Z8).Parent v25).getD Z8)).cells) (ds := (Zd ((mget Z33 (v21.getD v28.toNat Z8).Parent v25).getD Z8)).cells) (v := (Zd ((mget Z33 (v21.getD v28.toNat Z8).Parent v25).getD Z8))) sz56 I I I I I I I I) I <| Z2 I (Zp (v := (.bool (mget Z33 (v21.getD v28.toNat Z8).Parent v25).isSome)) I I) I <| Zi ?_
         refine Zh <| Zj <| Zf <| Z2 I (Zo (v := (.bool (mget Z33 (v21.getD v28.toNat Z8).Parent v25).isSome)) I I) I <| Z2 I (Zo (v := (.bool (mget Z33 (v21.getD v28.toNat Z8).Parent v25).isSome)) I I) I ?_
         have hif := Z28 h
         refine AOps.split (fun hc => ?_) (fun hc => ?_)
         ·have h := hif.1 hc
          refine Z1j I I I I (Zr (m := 14) (o := 0) I f56_6 I I) I <| Z1j I I I I (Zt (cs := (Zd ((mget Z33 (v21.getD v28.toNat Z8).Parent v25).getD Z8)).cells) (v := (.str ((mget Z33 (v21.getD v28.toNat Z8).Parent v25).getD Z8).Service)) I o9 I I I) I <| Z1j I I I I (Zr (m := 13) (o := 0) I f56_6 I I) I <| Z1j I I I I (Zt (cs := (Zd (v21.getD v28.toNat Z8)).cells) (v := (.str (v21.getD v28.toNat Z8).Service)) I o9 I I I) I <| Z1j I I I I (Z3c (a := ((mget Z33 (v21.getD v28.toNat Z8).Parent v25).getD Z8).Service) (b := (v21.getD v28.toNat Z8).Service) (c := (!(((mget Z33 (v21.getD v28.toNat Z8).Parent v25).getD Z8).Service == (v21.getD v28.toNat Z8).Service))) I I I I) I <| Z2 I (Z2w (v := (.bool (!(((mget Z33 (v21.getD v28.toNat Z8).Parent v25).getD Z8).Service == (v21.getD v28.toNat Z8).Service)))) I I I) I <| Zi <| Zh ?_
          refine AWp.join (V := Bool × (List (Zq × Zk))) (lp := fun v => F17_j52 K (Z5f K v21 a0 v5 v25 (Z7p K (Z5j K a0 (Z4b K) k9) v5) k32) v28 v49 v.1 v.2 = some r) (sh := fun v => ⟨[(2, (.ptr 2 0)), (4, (.ptr 96 0)), (8, (.map 26)), (11, (.int .i64 (a0.getD v5.toNat Zn).Weight)), (17, (.vs 2000)), (18, (.int .i64 (a0.length : Int))), (19, (.int .i64 v5)), (40, (.sl 14 (v21.map Zd) false)), (41, (.int .i64 (v21.length : Int))), (42, (.int .i64 v28))], [(2, (.box [(.sl 4 [] false), (.sl 5 [] false)])), (16, (.map (Zu Z20 Z3 v49.2))), (26, (.map (Zu Z2l Zd v25))), (96, (.box [(.map 16), (.map 97), (.bool v.1)])), (97, (.map (Zu Zl Z5 v.2))), (2000, (.vec 3 (List.map Z1i a0)))]⟩) ?_ ?_
          ·intro v h
           obtain ⟨v50, v51⟩ := v
           try dsimp only at h ⊢
           unfold F17_j52 at h
           refine At.end ?_
           exact Zy (st' := ⟨[(2, (.ptr 2 0)), (4, (.ptr 96 0)), (8, (.map 26)), (11, (.int .i64 (a0.getD v5.toNat Zn).Weight)), (17, (.vs 2000)), (18, (.int .i64 (a0.length : Int))), (19, (.int .i64 v5)), (40, (.sl 14 (v21.map Zd) false)), (41, (.int .i64 (v21.length : Int))), (42, (.int .i64 v28))], [(2, (.box [(.sl 4 [] false), (.sl 5 [] false)])), (16, (.map (Zu Z20 Z3 v49.2))), (26, (.map (Zu Z2l Zd v25))), (96, (.box [(.map 16), (.map 97), (.bool v50)])), (97, (.map (Zu Zl Z5 v51))), (2000, (.vec 3 (List.map Z1i a0)))]⟩) ⟨rfl, rfl, rfl, rfl, rfl, rfl, rfl, rfl, rfl, rfl, trivial⟩ ⟨rfl, rfl, rfl, rfl, rfl, rfl, trivial⟩ (J42 (v50, v49.2, v51) h)
          ·intro J52
           have hif := Z28 h
           refine Z16 I (fun hc => ?_) (fun hc => ?_)
           ·have h := hif.1 hc
            refine Z1r mixed <| Zb 0 I (Zo (v := (.ptr 96 0)) I I) <| Zb 1 I (Zr (m := 14) (o := 0) I f56_6 I I) <| Zb 2 I (Zt (cs := (Zd ((mget Z33 (v21.getD v28.toNat Z8).Parent v25).getD Z8)).cells) (v := (.str ((mget Z33 (v21.getD v28.toNat Z8).Parent v25).getD Z8).Service)) I o9 I I I) <| Zb 3 I (Zr (m := 13) (o := 0) I f56_6 I I) <| Zb 4 I (Zt (cs := (Zd (v21.getD v28.toNat Z8)).cells) (v := (.str (v21.getD v28.toNat Z8).Service)) I o9 I I I) <| Zb 5 I (Zo (v := (.int .i64 (a0.getD v5.toNat Zn).Weight)) I I) <| Zb 6 I (Zr (m := 13) (o := 0) I f56_11 I I) ?_
            refine Zb 7 I (Zt (cs := (Zd (v21.getD v28.toNat Z8)).cells) (v := (.bool (v21.getD v28.toNat Z8).Error)) I o4 I I I) <| Zb 8 I (Zo (v := (.int .i64 (a0.getD v5.toNat Zn).Weight)) I I) ?_
            have ⟨v54, hv54, h⟩ := Z1f h
            refine Zb 9 I (Z1o (ar := [(.bool (v21.getD v28.toNat Z8).Error), (.int .i64 (a0.getD v5.toNat Zn).Weight)]) (caps := []) Tryz.call49 (F49_ok K (v21.getD v28.toNat Z8).Error (a0.getD v5.toNat Zn).Weight v54 hv54) I I ⟨rfl, rfl, trivial⟩ I) <| Zb 10 I (Z1l (cs := (Zd (v21.getD v28.toNat Z8)).cells) (vs := (Zd (v21.getD v28.toNat Z8)).cells) I a56 I I I I) ?_
            have ⟨v56, hv56, h⟩ := Z1f h
            refine Zb 11 I (Z1o (ar := [(Zd (v21.getD v28.toNat Z8))]) (caps := []) Tryz.call51 (F51_ok K (v21.getD v28.toNat Z8) v56 hv56) I I ⟨rfl, trivial⟩ I) <| Zb 12 I (Zo (v := (.int .i64 (a0.getD v5.toNat Zn).Weight)) I I) <| Zb 13 I (Z1u (k := .i64) (a := v56) (b := (a0.getD v5.toNat Zn).Weight) (c := (IntKind.i64.wrap (v56 * (a0.getD v5.toNat Zn).Weight))) I I I I) <| Zb 14 I (Z27 (vs := [(0, (.str ((mget Z33 (v21.getD v28.toNat Z8).Parent v25).getD Z8).Service)), (1, (.str (v21.getD v28.toNat Z8).Service)), (2, (.int .i64 (a0.getD v5.toNat Zn).Weight)), (3, (.int .i64 v54)), (4, (.int .i64 (IntKind.i64.wrap (v56 * (a0.getD v5.toNat Zn).Weight))))]) (cs := [(.str ((mget Z33 (v21.getD v28.toNat Z8).Parent v25).getD Z8).Service), (.str (v21.getD v28.toNat Z8).Service), (.int .i64 (a0.getD v5.toNat Zn).Weight), (.int .i64 v54), (.int .i64 (IntKind.i64.wrap (v56 * (a0.getD v5.toNat Zn).Weight)))]) I st88 ⟨rfl, rfl, rfl, rfl, rfl, rfl, rfl, rfl, rfl, rfl, trivial⟩ I) ?_
            have ⟨v58, hv58, h⟩ := Z1f h
            refine Zb 15 I (Z2v (d := some 91) (c := ⟨[(.ptr 96 0), (.ag [(.str ((mget Z33 (v21.getD v28.toNat Z8).Parent v25).getD Z8).Service), (.str (v21.getD v28.toNat Z8).Service), (.int .i64 (a0.getD v5.toNat Zn).Weight), (.int .i64 v54), (.int .i64 (IntKind.i64.wrap (v56 * (a0.getD v5.toNat Zn).Weight)))])] ++ [], [(96, (.box [(.map 16), (.map 97), (.bool v49.1)])), (16, (.map (Zu Z20 Z3 v49.2))), (97, (.map (Zu Zl Z5 v31)))], (.tup []), [(96, (.box [(.map 16), (.map 97), (.bool v58.1)])), (16, (.map (Zu Z20 Z3 v49.2))), (97, (.map (Zu Zl Z5 v58.2)))], []⟩) (ar := [(.ptr 96 0), (.ag [(.str ((mget Z33 (v21.getD v28.toNat Z8).Parent v25).getD Z8).Service), (.str (v21.getD v28.toNat Z8).Service), (.int .i64 (a0.getD v5.toNat Zn).Weight), (.int .i64 v54), (.int .i64 (IntKind.i64.wrap (v56 * (a0.getD v5.toNat Zn).Weight)))])]) (caps := []) (news := []) (forg := []) Tryz.call50 ((((F50_ok K (⟨((mget Z33 (v21.getD v28.toNat Z8).Parent v25).getD Z8).Service, (v21.getD v28.toNat Z8).Service, (a0.getD v5.toNat Zn).Weight, v54, (IntKind.i64.wrap (v56 * (a0.getD v5.toNat Zn).Weight))⟩ : Zk) v49.1 v49.2 v31 v58 hv58).sw 2000 96).sw 2001 16).sw 2002 97) I I ⟨rfl, rfl, trivial⟩ I ⟨rfl, rfl, rfl, trivial⟩ I) <| AOpsD.nil (by kernel_rfl) I ?_
            exact Zy (st' := ⟨[(2, (.ptr 2 0)), (4, (.ptr 96 0)), (8, (.map 26)), (11, (.int .i64 (a0.getD v5.toNat Zn).Weight)), (17, (.vs 2000)), (18, (.int .i64 (a0.length : Int))), (19, (.int .i64 v5)), (40, (.sl 14 (v21.map Zd) false)), (41, (.int .i64 (v21.length : Int))), (42, (.int .i64 v28))], [(2, (.box [(.sl 4 [] false), (.sl 5 [] false)])), (16, (.map (Zu Z20 Z3 v49.2))), (26, (.map (Zu Z2l Zd v25))), (96, (.box [(.map 16), (.map 97), (.bool v58.1)])), (97, (.map (Zu Zl Z5 v58.2))), (2000, (.vec 3 (List.map Z1i a0)))]⟩) ⟨rfl, rfl, rfl, rfl, rfl, rfl, rfl, rfl, rfl, rfl, trivial⟩ ⟨rfl, rfl, rfl, rfl, rfl, rfl, trivial⟩ (J52 (v58.1, v58.2) h)
           ·have h := hif.2 hc
            refine Z1b ?_
            exact Zy (st' := ⟨[(2, (.ptr 2 0)), (4, (.ptr 96 0)), (8, (.map 26)), (11, (.int .i64 (a0.getD v5.toNat Zn).Weight)), (17, (.vs 2000)), (18, (.int .i64 (a0.length : Int))), (19, (.int .i64 v5)), (40, (.sl 14 (v21.map Zd) false)), (41, (.int .i64 (v21.length : Int))), (42, (.int .i64 v28))], [(2, (.box [(.sl 4 [] false), (.sl 5 [] false)])), (16, (.map (Zu Z20 Z3 v49.2))), (26, (.map (Zu Z2l Zd v25))), (96, (.box [(.map 16), (.map 97), (.bool v49.1)])), (97, (.map (Zu Zl Z5 v31))), (2000, (.vec 3 (List.map Z1i a0)))]⟩) ⟨rfl, rfl, rfl, rfl, rfl, rfl, rfl, rfl, rfl, rfl, trivial⟩ ⟨rfl, rfl, rfl, rfl, rfl, rfl, trivial⟩ (J52 (v49.1, v31) h)
         ·have h := hif.2 hc
          refine Z1d I I I I I I I <| Z1d I I I I I I I <| Z1d I I I I I I I <| Z1d I I I I I I I <| Z1d I I I I I I I <| Z2 I (Z2u (v := (.bool false)) I I I) I <| Zi <| Zh ?_
          refine Z16 (b := false) I (fun hc => ?_) (fun hc => ?_)
          ·cases hc
          refine Z1b <| At.end ?_
          exact Zy (st' := ⟨[(2, (.ptr 2 0)), (4, (.ptr 96 0)), (8, (.map 26)), (11, (.int .i64 (a0.getD v5.toNat Zn).Weight)), (17, (.vs 2000)), (18, (.int .i64 (a0.length : Int))), (19, (.int .i64 v5)), (40, (.sl 14 (v21.map Zd) false)), (41, (.int .i64 (v21.length : Int))), (42, (.int .i64 v28))], [(2, (.box [(.sl 4 [] false), (.sl 5 [] false)])), (16, (.map (Zu Z20 Z3 v49.2))), (26, (.map (Zu Z2l Zd v25))), (96, (.box [(.map 16), (.map 97), (.bool v49.1)])), (97, (.map (Zu Zl Z5 v31))), (2000, (.vec 3 (List.map Z1i a0)))]⟩) ⟨rfl, rfl, rfl, rfl, rfl, rfl, rfl, rfl, rfl, rfl, trivial⟩ ⟨rfl, rfl, rfl, rfl, rfl, rfl, trivial⟩ (J42 (v49.1, v49.2, v31) h)
       ·have h := hif.2 hc
        refine AWp.exit <| At.thru ?_
        exact Zy (st' := ⟨[(2, (.ptr 2 0)), (4, (.ptr 96 0)), (17, (.vs 2000)), (18, (.int .i64 (a0.length : Int))), (19, (.int .i64 v5))], [(2, (.box [(.sl 4 [] false), (.sl 5 [] false)])), (16, (.map (Zu Z20 Z3 v30))), (96, (.box [(.map 16), (.map 97), (.bool v29)])), (97, (.map (Zu Zl Z5 v31))), (2000, (.vec 3 (List.map Z1i a0)))]⟩) ⟨rfl, rfl, rfl, rfl, rfl, trivial⟩ ⟨rfl, rfl, rfl, rfl, rfl, trivial⟩ (J32 (v29, v30, v31) h)
    ·intro N k24 v h IH24 J24
     obtain ⟨v22, v23⟩ := v
     try dsimp only at h IH24 J24 ⊢
     cases k24 with
     | zero => cases h
     | succ k24 =>
      rw [F17_l24] at h
      refine Zj <| Zf <| Z2 I (Z25 (k := .i64) (a := v22) (b := (v21.length : Int)) (c := (decide (v22 < (v21.length : Int)))) I I I I) I <| Zi <| Zh <| Zj ?_
      have hif := Z28 h
      refine Z16 I (fun hc => ?_) (fun hc => ?_)
      ·have h := hif.1 hc
       refine Z1b <| Zh <| Zj <| AWp.block <| Zj <| Zf ?_
       have ⟨hg60, h⟩ := Z13 h
       refine Z2 I (Z1w (k := .i64) (l := v21) (enc := Zd) (z := Z8) (n := v22) (cs := (Zd (v21.getD v22.toNat Z8)).cells) (full := false) I s37 I I hg60 I) I <| Z2 I (Z2i (cs := (Zd (v21.getD v22.toNat Z8)).cells) (vs := (Zd (v21.getD v22.toNat Z8)).cells) I a56 I I I) I <| Z2 I (Z1v (cs := [(.int .i64 0), (.int .i64 0), (.int .i64 0), (.int .i64 0), (.int .i64 0), (.int .i64 0), (.str []), (.str []), (.str []), (.int .i64 0), (.int .i64 0), (.bool false), (.sl 4 [] false), (.sl 2 [] false)]) I z56 I I I) I <| Z2 I (Z1e (cs := [(.int .i64 0), (.int .i64 0), (.int .i64 0), (.int .i64 0), (.int .i64 0), (.int .i64 0), (.str []), (.str []), (.str []), (.int .i64 0), (.int .i64 0), (.bool false), (.sl 4 [] false), (.sl 2 [] false)]) (vs := (Zd (v21.getD v22.toNat Z8)).cells) (ds := (Zd (v21.getD v22.toNat Z8)).cells) (v := (Zd (v21.getD v22.toNat Z8))) sz56 I I I I I I I I) I <| Zi <| Zh <| Zf <| Z2 I (Zo (v := (.map 26)) I I) I ?_
       refine Z2 I (Zr (m := 10) (o := 0) I f56_1 I I) I <| Z2 I (Zt (cs := (Zd (v21.getD v22.toNat Z8)).cells) (v := (.int .i64 (v21.getD v22.toNat Z8).Id)) I o3 I I I) I <| Z2 I (Z1l (cs := (Zd (v21.getD v22.toNat Z8)).cells) (vs := (Zd (v21.getD v22.toNat Z8)).cells) I a56 I I I I) I <| Z2 I (Z3r (l := v23) (a := (v21.getD v22.toNat Z8).Id) (b := (v21.getD v22.toNat Z8)) (kv := (.int .i64 (v21.getD v22.toNat Z8).Id)) (vv := (Zd (v21.getD v22.toNat Z8))) mt110 I I I I I I) I <| Zi <| At.end <| Zh <| Zf ?_
       refine Z2 I (Z1u (k := .i64) (a := v22) (b := 1) (c := (IntKind.i64.wrap (v22 + 1))) I I I I) I <| Z2 I (Zo (v := (.int .i64 (IntKind.i64.wrap (v22 + 1)))) I I) I <| Zi ?_
       exact Zy (st' := ⟨[(2, (.ptr 2 0)), (4, (.ptr 96 0)), (6, (.ptr 6 0)), (7, (.sl 14 (v21.map Zd) false)), (8, (.map 26)), (17, (.vs 2000)), (18, (.int .i64 (a0.length : Int))), (19, (.int .i64 v5)), (27, (.sl 14 (v21.map Zd) false)), (28, (.int .i64 (v21.length : Int))), (29, (.int .i64 (IntKind.i64.wrap (v22 + 1))))], [(2, (.box [(.sl 4 [] false), (.sl 5 [] false)])), (6, (.box (Z1i (a0.getD v5.toNat Zn)).cells)), (16, (.map (Zu Z20 Z3 v7))), (26, (.map (Zu Z2l Zd (mput Z33 (v21.getD v22.toNat Z8).Id (v21.getD v22.toNat Z8) v23)))), (96, (.box [(.map 16), (.map 97), (.bool v6)])), (97, (.map (Zu Zl Z5 v8))), (2000, (.vec 3 (List.map Z1i a0)))]⟩) ⟨rfl, rfl, rfl, rfl, rfl, rfl, rfl, rfl, rfl, rfl, rfl, trivial⟩ ⟨rfl, rfl, rfl, rfl, rfl, rfl, rfl, trivial⟩ (IH24 _ ((IntKind.i64.wrap (v22 + 1)), (mput Z33 (v21.getD v22.toNat Z8).Id (v21.getD v22.toNat Z8) v23)) (Nat.lt_succ_self _) h)
      ·have h := hif.2 hc
       refine AWp.exit <| At.thru ?_
       exact Zy (st' := ⟨[(2, (.ptr 2 0)), (4, (.ptr 96 0)), (6, (.ptr 6 0)), (7, (.sl 14 (v21.map Zd) false)), (8, (.map 26)), (17, (.vs 2000)), (18, (.int .i64 (a0.length : Int))), (19, (.int .i64 v5))], [(2, (.box [(.sl 4 [] false), (.sl 5 [] false)])), (6, (.box (Z1i (a0.getD v5.toNat Zn)).cells)), (16, (.map (Zu Z20 Z3 v7))), (26, (.map (Zu Z2l Zd v23))), (96, (.box [(.map 16), (.map 97), (.bool v6)])), (97, (.map (Zu Zl Z5 v8))), (2000, (.vec 3 (List.map Z1i a0)))]⟩) ⟨rfl, rfl, rfl, rfl, rfl, rfl, rfl, rfl, trivial⟩ ⟨rfl, rfl, rfl, rfl, rfl, rfl, rfl, trivial⟩ (J24 v23 h)
   ·have h := hif.2 hc
    refine AWp.exit <| At.thru ?_
    exact Zy (st' := ⟨[(2, (.ptr 2 0)), (4, (.ptr 96 0))], [(2, (.box [(.sl 4 [] false), (.sl 5 [] false)])), (16, (.map (Zu Z20 Z3 v7))), (96, (.box [(.map 16), (.map 97), (.bool v6)])), (97, (.map (Zu Zl Z5 v8))), (2000, (.vec 3 (List.map Z1i a0)))]⟩) ⟨rfl, rfl, trivial⟩ ⟨rfl, rfl, rfl, rfl, rfl, trivial⟩ (J9 (v6, v7, v8) h)
def Zaz (K : Nat) : Option (Bool) :=
 some true
def Z9c (K : Nat) (a0 : Zc) (a1 : Zc) (c8 : Option (Bool)) : Nat → Int → Option (Bool)
 | 0, _ => none
 | k6 + 1, v5 =>
  if (decide (v5 < (a0.Calls.length : Int))) = true then
   if (0 : Int) ≤ v5 ∧ v5 < a0.Calls.length then
    if (0 : Int) ≤ v5 ∧ v5 < a1.Calls.length then
     if (!(((a0.Calls.getD v5.toNat Z6).Caller == (a1.Calls.getD v5.toNat Z6).Caller) && (((a0.Calls.getD v5.toNat Z6).Callee == (a1.Calls.getD v5.toNat Z6).Callee) && (((a0.Calls.getD v5.toNat Z6).Count == (a1.Calls.getD v5.toNat Z6).Count) && (((a0.Calls.getD v5.toNat Z6).Errors == (a1.Calls.getD v5.toNat Z6).Errors) && (((a0.Calls.getD v5.toNat Z6).Time == (a1.Calls.getD v5.toNat Z6).Time) && true)))))) = true then
      some false
     else
      (Z9c K a0 a1 c8 k6) (IntKind.i64.wrap (v5 + 1))
    else none
   else none
  else
   c8
def Zam (K : Nat) (a0 : Zc) (a1 : Zc) : Option (Bool) :=
 Z9c K a0 a1 (Zaz K) K 0
def Z9m (K : Nat) (a0 : Zc) (a1 : Zc) (c4 : Option (Bool)) : Nat → Int → Option (Bool)
 | 0, _ => none
 | k2 + 1, v1 =>
  if (decide (v1 < (a0.Services.length : Int))) = true then
   if (0 : Int) ≤ v1 ∧ v1 < a0.Services.length then
    if (0 : Int) ≤ v1 ∧ v1 < a1.Services.length then
     if (!(((a0.Services.getD v1.toNat Z9).Name == (a1.Services.getD v1.toNat Z9).Name) && (((a0.Services.getD v1.toNat Z9).Spans == (a1.Services.getD v1.toNat Z9).Spans) && (((a0.Services.getD v1.toNat Z9).Errors == (a1.Services.getD v1.toNat Z9).Errors) && (((a0.Services.getD v1.toNat Z9).Roots == (a1.Services.getD v1.toNat Z9).Roots) && true))))) = true then
      some false
     else
      (Z9m K a0 a1 c4 k2) (IntKind.i64.wrap (v1 + 1))
    else none
   else none
  else
   c4
def F19 (K : Nat) (a0 : Zc) (a1 : Zc) : Option (Bool) :=
 if ((a0.Services.length : Int) != (a1.Services.length : Int)) = true then
  some false
 else
  if ((a0.Calls.length : Int) != (a1.Calls.length : Int)) = true then
   some false
  else
   Z9m K a0 a1 (Zam K a0 a1) K 0
theorem F19_ok (K : Nat) (a0 : Zc) (a1 : Zc) (r : Bool) (h : F19 K a0 a1 = some r) : ACall P 19 ⟨[(Z4 a0), (Z4 a1)], [], (.bool r), [], []⟩ := by
 refine Z1s Tryz.func19 Tryz.results19 rfl Tryz.ntmps19 rfl rfl rfl ?_
 intro E Q hP hN hro hret
 obtain ⟨P', nt', w0, F0, p0, S0, β0, ro0⟩ := E
 simp only at hP hN
 subst hP hN
 dsimp only [argT]
 unfold F19 at h
 refine Zj <| Zf <| Z2 I (Z2m (v := (Z4 a0)) (cs := (Z4 a0).cells) I I I I I) I <| Z2 I (Z2m (v := (Z4 a1)) (cs := (Z4 a1).cells) I I I I I) I <| Z2 I (Zp (v := (.bool false)) I I) I <| Zi <| Zh <| Zj ?_
 refine Zj <| Zf <| Z2 I (Zr (m := 2) (o := 0) I Z3v I I) I <| Z2 I (Zt (cs := (Z4 a0).cells) (v := (.sl 4 (a0.Services.map Z3) false)) I o41 I I I) I <| Z2 I (Z24 (l := a0.Services) (enc := Z3) I s41 I) I <| Z2 I (Zr (m := 3) (o := 0) I Z3v I I) I <| Z2 I (Zt (cs := (Z4 a1).cells) (v := (.sl 4 (a1.Services.map Z3) false)) I o41 I I I) I <| Z2 I (Z24 (l := a1.Services) (enc := Z3) I s41 I) I ?_
 refine Z2 I (Z25 (k := .i64) (a := (a0.Services.length : Int)) (b := (a1.Services.length : Int)) (c := ((a0.Services.length : Int) != (a1.Services.length : Int))) I I I I) I <| Z2 I (Zo (v := (.bool ((a0.Services.length : Int) != (a1.Services.length : Int)))) I I) I ?_
 have hif := Z28 h
 refine AOps.split (fun hc => ?_) (fun hc => ?_)
 ·have h := hif.1 hc
  refine Z1d I I I I I I I <| Z1d I I I I I I I <| Z1d I I I I I I I <| Z1d I I I I I I I <| Z1d I I I I I I I <| Z1d I I I I I I I <| Z1d I I I I I I I <| Z2 I (Z2w (v := (.bool true)) I I I) I ?_
  refine Zi <| Zh ?_
  refine Z16 (b := true) I (fun hc => ?_) (fun hc => ?_)
  rotate_left
  ·cases hc
  refine Zj <| Zf <| Z2 I (Zp (v := (.bool false)) I I) I <| Zi <| Zh <| Z1g <| Z1k ?_
  have h := Option.some.inj h
  subst h
  refine (hret _ ?_).1
  exact ⟨[(.bool false)], ⟨rfl, trivial⟩, rfl, trivial⟩
 ·have h := hif.2 hc
  refine Z1j I I I I (Zr (m := 2) (o := 0) I Z3i I I) I <| Z1j I I I I (Zt (cs := (Z4 a0).cells) (v := (.sl 5 (a0.Calls.map Z5) false)) I o42 I I I) I <| Z1j I I I I (Z24 (l := a0.Calls) (enc := Z5) I s42 I) I <| Z1j I I I I (Zr (m := 3) (o := 0) I Z3i I I) I <| Z1j I I I I (Zt (cs := (Z4 a1).cells) (v := (.sl 5 (a1.Calls.map Z5) false)) I o42 I I I) I <| Z1j I I I I (Z24 (l := a1.Calls) (enc := Z5) I s42 I) I <| Z1j I I I I (Z25 (k := .i64) (a := (a0.Calls.length : Int)) (b := (a1.Calls.length : Int)) (c := ((a0.Calls.length : Int) != (a1.Calls.length : Int))) I I I I) I <| Z2 I (Z2u (v := (.bool ((a0.Calls.length : Int) != (a1.Calls.length : Int)))) I I I) I ?_
  refine Zi <| Zh ?_
  have hif := Z28 h
  refine Z16 I (fun hc => ?_) (fun hc => ?_)
  ·have h := hif.1 hc
   refine Zj <| Zf <| Z2 I (Zp (v := (.bool false)) I I) I <| Zi <| Zh <| Z1g <| Z1k ?_
   have h := Option.some.inj h
   subst h
   refine (hret _ ?_).1
   exact ⟨[(.bool false)], ⟨rfl, trivial⟩, rfl, trivial⟩
  ·have h := hif.2 hc
   refine Z1b <| Zh <| Zj <| Zj <| Zf <| Z2 I (Zp (v := (.int .i64 0)) I I) I <| Zi <| Zh ?_
   refine AWp.weaken (st' := ⟨[(2, (.ptr 2 0)), (3, (.ptr 3 0)), (5, (.int .i64 0))], [(2, (.box (Z4 a0).cells)), (3, (.box (Z4 a1).cells))]⟩) ⟨rfl, rfl, rfl, trivial⟩ ⟨rfl, rfl, trivial⟩ ?_
   refine Z1n (V := Int) (X := Unit) (lp := fun k v => Z9m K a0 a1 (Zam K a0 a1) k v = some r) (sh := fun v => ⟨[(2, (.ptr 2 0)), (3, (.ptr 3 0)), (5, (.int .i64 v))], [(2, (.box (Z4 a0).cells)), (3, (.box (Z4 a1).cells))]⟩) (x := fun v => Zam K a0 a1 = some r) (shx := fun v => ⟨[(2, (.ptr 2 0)), (3, (.ptr 3 0))], [(2, (.box (Z4 a0).cells)), (3, (.box (Z4 a1).cells))]⟩) (k := K) (v := 0) h ?_ ?_
   ·intro v h
    try dsimp only at h ⊢
    unfold Zam at h
    refine Zh <| Zj <| Zj <| Zf <| Z2 I (Zp (v := (.int .i64 0)) I I) I <| Zi <| Zh <| AWp.weaken (st' := ⟨[(2, (.ptr 2 0)), (3, (.ptr 3 0)), (6, (.int .i64 0))], [(2, (.box (Z4 a0).cells)), (3, (.box (Z4 a1).cells))]⟩) ⟨rfl, rfl, rfl, trivial⟩ ⟨rfl, rfl, trivial⟩ ?_
    refine Z1n (V := Int) (X := Unit) (lp := fun k v => Z9c K a0 a1 (Zaz K) k v = some r) (sh := fun v => ⟨[(2, (.ptr 2 0)), (3, (.ptr 3 0)), (6, (.int .i64 v))], [(2, (.box (Z4 a0).cells)), (3, (.box (Z4 a1).cells))]⟩) (x := fun v => Zaz K = some r) (shx := fun v => ⟨[], []⟩) (k := K) (v := 0) h ?_ ?_
    ·intro v h
     try dsimp only at h ⊢
     unfold Zaz at h
     refine Zh <| Zj <| Zf <| Z2 I (Zp (v := (.bool true)) I I) I <| Zi <| Zh <| Z1g ?_
     have h := Option.some.inj h
     subst h
     refine (hret _ ?_).1
     exact ⟨[(.bool true)], ⟨rfl, trivial⟩, rfl, trivial⟩
    ·intro N k6 v h IH6 J6
     revert h
     revert v
     intro v5 h
     try dsimp only at h IH6 J6 ⊢
     cases k6 with
     | zero => cases h
     | succ k6 =>
      rw [Z9c] at h
      refine Zj <| Zj <| Zf <| Z2 I (Zo (v := (.int .i64 v5)) I I) I <| Z2 I (Zr (m := 2) (o := 0) I Z3i I I) I <| Z2 I (Zt (cs := (Z4 a0).cells) (v := (.sl 5 (a0.Calls.map Z5) false)) I o42 I I I) I <| Z2 I (Z24 (l := a0.Calls) (enc := Z5) I s42 I) I <| Z2 I (Z25 (k := .i64) (a := v5) (b := (a0.Calls.length : Int)) (c := (decide (v5 < (a0.Calls.length : Int)))) I I I I) I ?_
      refine Zi <| Zh ?_
      have hif := Z28 h
      refine Z16 I (fun hc => ?_) (fun hc => ?_)
      ·have h := hif.1 hc
       refine Z1b <| Zh <| Zj <| AWp.block <| Zj <| Z1r mixed <| Zb 0 I (Zr (m := 2) (o := 0) I Z3i I I) <| Zb 1 I (Zt (cs := (Z4 a0).cells) (v := (.sl 5 (a0.Calls.map Z5) false)) I o42 I I I) ?_
       refine Zb 2 I (Zo (v := (.int .i64 v5)) I I) ?_
       have ⟨hg10, h⟩ := Z13 h
       refine Zb 3 I (Z1w (k := .i64) (l := a0.Calls) (enc := Z5) (z := Z6) (n := v5) (cs := (Z5 (a0.Calls.getD v5.toNat Z6)).cells) (full := false) I s42 I I hg10 I) <| Zb 4 I (Z2i (cs := (Z5 (a0.Calls.getD v5.toNat Z6)).cells) (vs := (Z5 (a0.Calls.getD v5.toNat Z6)).cells) I a88 I I I) <| Zb 5 I (Zr (m := 3) (o := 0) I Z3i I I) <| Zb 6 I (Zt (cs := (Z4 a1).cells) (v := (.sl 5 (a1.Calls.map Z5) false)) I o42 I I I) <| Zb 7 I (Zo (v := (.int .i64 v5)) I I) ?_
       have ⟨hg11, h⟩ := Z13 h
       refine Zb 8 I (Z1w (k := .i64) (l := a1.Calls) (enc := Z5) (z := Z6) (n := v5) (cs := (Z5 (a1.Calls.getD v5.toNat Z6)).cells) (full := false) I s42 I I hg11 I) <| Zb 9 I (Z2i (cs := (Z5 (a1.Calls.getD v5.toNat Z6)).cells) (vs := (Z5 (a1.Calls.getD v5.toNat Z6)).cells) I a88 I I I) <| Zb 10 I (Zad (xs := (Z5 (a0.Calls.getD v5.toNat Z6)).cells) (ys := (Z5 (a1.Calls.getD v5.toNat Z6)).cells) (b := (((a0.Calls.getD v5.toNat Z6).Caller == (a1.Calls.getD v5.toNat Z6).Caller) && (((a0.Calls.getD v5.toNat Z6).Callee == (a1.Calls.getD v5.toNat Z6).Callee) && (((a0.Calls.getD v5.toNat Z6).Count == (a1.Calls.getD v5.toNat Z6).Count) && (((a0.Calls.getD v5.toNat Z6).Errors == (a1.Calls.getD v5.toNat Z6).Errors) && (((a0.Calls.getD v5.toNat Z6).Time == (a1.Calls.getD v5.toNat Z6).Time) && true)))))) (c := (!(((a0.Calls.getD v5.toNat Z6).Caller == (a1.Calls.getD v5.toNat Z6).Caller) && (((a0.Calls.getD v5.toNat Z6).Callee == (a1.Calls.getD v5.toNat Z6).Callee) && (((a0.Calls.getD v5.toNat Z6).Count == (a1.Calls.getD v5.toNat Z6).Count) && (((a0.Calls.getD v5.toNat Z6).Errors == (a1.Calls.getD v5.toNat Z6).Errors) && (((a0.Calls.getD v5.toNat Z6).Time == (a1.Calls.getD v5.toNat Z6).Time) && true))))))) I eq88 I I I I) <| AOpsD.nil (by kernel_rfl) I <| Zh ?_
       have hif := Z28 h
       refine Z16 I (fun hc => ?_) (fun hc => ?_)
       ·have h := hif.1 hc
        refine Zj <| Zf <| Z2 I (Zp (v := (.bool false)) I I) I <| Zi <| Zh <| Z1g <| At.overR <| Z1k ?_
        refine Z1k (At.overR ?_)
        refine Z1k ?_
        have h := Option.some.inj h
        subst h
        refine (hret _ ?_).1
        exact ⟨[(.bool false)], ⟨rfl, trivial⟩, rfl, trivial⟩
       ·have h := hif.2 hc
        refine Z1b <| At.end <| Zh <| Zf <| Z2 I (Zo (v := (.int .i64 v5)) I I) I <| Z2 I (Z1u (k := .i64) (a := v5) (b := 1) (c := (IntKind.i64.wrap (v5 + 1))) I I I I) I <| Z2 I (Zp (v := (.int .i64 (IntKind.i64.wrap (v5 + 1)))) I I) I <| Zi ?_
        exact Zy (st' := ⟨[(2, (.ptr 2 0)), (3, (.ptr 3 0)), (6, (.int .i64 (IntKind.i64.wrap (v5 + 1))))], [(2, (.box (Z4 a0).cells)), (3, (.box (Z4 a1).cells))]⟩) ⟨rfl, rfl, rfl, trivial⟩ ⟨rfl, rfl, trivial⟩ (IH6 _ (IntKind.i64.wrap (v5 + 1)) (Nat.lt_succ_self _) h)
      ·have h := hif.2 hc
       refine AWp.exit <| At.thru ?_
       exact Zy (st' := ⟨[], []⟩) trivial trivial (J6 () h)
   ·intro N k2 v h IH2 J2
    revert h
    revert v
    intro v1 h
    try dsimp only at h IH2 J2 ⊢
    cases k2 with
    | zero => cases h
    | succ k2 =>
     rw [Z9m] at h
     refine Zj <| Zj <| Zf <| Z2 I (Zo (v := (.int .i64 v1)) I I) I <| Z2 I (Zr (m := 2) (o := 0) I Z3v I I) I <| Z2 I (Zt (cs := (Z4 a0).cells) (v := (.sl 4 (a0.Services.map Z3) false)) I o41 I I I) I <| Z2 I (Z24 (l := a0.Services) (enc := Z3) I s41 I) I <| Z2 I (Z25 (k := .i64) (a := v1) (b := (a0.Services.length : Int)) (c := (decide (v1 < (a0.Services.length : Int)))) I I I I) I ?_
     refine Zi <| Zh ?_
     have hif := Z28 h
     refine Z16 I (fun hc => ?_) (fun hc => ?_)
     ·have h := hif.1 hc
      refine Z1b <| Zh <| Zj <| AWp.block <| Zj <| Z1r mixed <| Zb 0 I (Zr (m := 2) (o := 0) I Z3v I I) <| Zb 1 I (Zt (cs := (Z4 a0).cells) (v := (.sl 4 (a0.Services.map Z3) false)) I o41 I I I) ?_
      refine Zb 2 I (Zo (v := (.int .i64 v1)) I I) ?_
      have ⟨hg13, h⟩ := Z13 h
      refine Zb 3 I (Z1w (k := .i64) (l := a0.Services) (enc := Z3) (z := Z9) (n := v1) (cs := (Z3 (a0.Services.getD v1.toNat Z9)).cells) (full := false) I s41 I I hg13 I) <| Zb 4 I (Z2i (cs := (Z3 (a0.Services.getD v1.toNat Z9)).cells) (vs := (Z3 (a0.Services.getD v1.toNat Z9)).cells) I a68 I I I) <| Zb 5 I (Zr (m := 3) (o := 0) I Z3v I I) <| Zb 6 I (Zt (cs := (Z4 a1).cells) (v := (.sl 4 (a1.Services.map Z3) false)) I o41 I I I) <| Zb 7 I (Zo (v := (.int .i64 v1)) I I) ?_
      have ⟨hg14, h⟩ := Z13 h
      refine Zb 8 I (Z1w (k := .i64) (l := a1.Services) (enc := Z3) (z := Z9) (n := v1) (cs := (Z3 (a1.Services.getD v1.toNat Z9)).cells) (full := false) I s41 I I hg14 I) <| Zb 9 I (Z2i (cs := (Z3 (a1.Services.getD v1.toNat Z9)).cells) (vs := (Z3 (a1.Services.getD v1.toNat Z9)).cells) I a68 I I I) <| Zb 10 I (Zad (xs := (Z3 (a0.Services.getD v1.toNat Z9)).cells) (ys := (Z3 (a1.Services.getD v1.toNat Z9)).cells) (b := (((a0.Services.getD v1.toNat Z9).Name == (a1.Services.getD v1.toNat Z9).Name) && (((a0.Services.getD v1.toNat Z9).Spans == (a1.Services.getD v1.toNat Z9).Spans) && (((a0.Services.getD v1.toNat Z9).Errors == (a1.Services.getD v1.toNat Z9).Errors) && (((a0.Services.getD v1.toNat Z9).Roots == (a1.Services.getD v1.toNat Z9).Roots) && true))))) (c := (!(((a0.Services.getD v1.toNat Z9).Name == (a1.Services.getD v1.toNat Z9).Name) && (((a0.Services.getD v1.toNat Z9).Spans == (a1.Services.getD v1.toNat Z9).Spans) && (((a0.Services.getD v1.toNat Z9).Errors == (a1.Services.getD v1.toNat Z9).Errors) && (((a0.Services.getD v1.toNat Z9).Roots == (a1.Services.getD v1.toNat Z9).Roots) && true)))))) I eq68 I I I I) <| AOpsD.nil (by kernel_rfl) I <| Zh ?_
      have hif := Z28 h
      refine Z16 I (fun hc => ?_) (fun hc => ?_)
      ·have h := hif.1 hc
       refine Zj <| Zf <| Z2 I (Zp (v := (.bool false)) I I) I <| Zi <| Zh <| Z1g <| At.overR <| Z1k ?_
       refine Z1k (At.overR ?_)
       refine Z1k ?_
       have h := Option.some.inj h
       subst h
       refine (hret _ ?_).1
       exact ⟨[(.bool false)], ⟨rfl, trivial⟩, rfl, trivial⟩
      ·have h := hif.2 hc
       refine Z1b <| At.end <| Zh <| Zf <| Z2 I (Zo (v := (.int .i64 v1)) I I) I <| Z2 I (Z1u (k := .i64) (a := v1) (b := 1) (c := (IntKind.i64.wrap (v1 + 1))) I I I I) I <| Z2 I (Zp (v := (.int .i64 (IntKind.i64.wrap (v1 + 1)))) I I) I <| Zi ?_
       exact Zy (st' := ⟨[(2, (.ptr 2 0)), (3, (.ptr 3 0)), (5, (.int .i64 (IntKind.i64.wrap (v1 + 1))))], [(2, (.box (Z4 a0).cells)), (3, (.box (Z4 a1).cells))]⟩) ⟨rfl, rfl, rfl, trivial⟩ ⟨rfl, rfl, trivial⟩ (IH2 _ (IntKind.i64.wrap (v1 + 1)) (Nat.lt_succ_self _) h)
     ·have h := hif.2 hc
      refine AWp.exit <| At.thru ?_
      exact Zy (st' := ⟨[(2, (.ptr 2 0)), (3, (.ptr 3 0))], [(2, (.box (Z4 a0).cells)), (3, (.box (Z4 a1).cells))]⟩) ⟨rfl, rfl, trivial⟩ ⟨rfl, rfl, trivial⟩ (J2 () h)
noncomputable def F11 (K : Nat) : Option (Bool) :=
 (F17 K ([(⟨9, 2, [(⟨9, 1, 0, 0, 1, 1, [119, 101, 98], [], [111], 0, 30, false, [], []⟩ : Zm), (⟨9, 2, 1, 0, 1, 1, [97, 112, 105], [], [111], 0, 10, true, [], []⟩ : Zm), (⟨9, 3, 2, 0, 1, 1, [97, 112, 105], [], [111], 0, 5, false, [], []⟩ : Zm)]⟩ : Zv)])).bind fun v2 =>
  if (v2.1 == 0) = true then
   (F19 K v2.2 (⟨[(⟨[97, 112, 105], 4, 2, 0⟩ : Zg), (⟨[119, 101, 98], 2, 0, 2⟩ : Zg)], [(⟨[119, 101, 98], [97, 112, 105], 2, 2, 20⟩ : Zk)]⟩ : Zc)).bind fun v4 =>
    some v4
  else
   some false
theorem F11_ok (K : Nat) (r : Bool) (h : F11 K = some r) : ACall P 11 ⟨[], [], (.bool r), [], []⟩ := by
 refine Z1s Tryz.func11 Tryz.results11 rfl Tryz.ntmps11 rfl rfl rfl ?_
 intro E Q hP hN hro hret
 obtain ⟨P', nt', w0, F0, p0, S0, β0, ro0⟩ := E
 simp only at hP hN
 subst hP hN
 dsimp only [argT]
 unfold F11 at h
 refine Zj <| Zf <| Z2 I (Zp (v := (.bool false)) I I) I <| Zi <| Zh <| Zj <| Zf <| Z2 I (Z27 (vs := [(0, (.int .i64 9)), (1, (.int .i64 1)), (4, (.int .i64 1)), (5, (.int .i64 1)), (6, (.str [119, 101, 98])), (8, (.str [111])), (10, (.int .i64 30))]) (cs := [(.int .i64 9), (.int .i64 1), (.int .i64 0), (.int .i64 0), (.int .i64 1), (.int .i64 1), (.str [119, 101, 98]), (.str []), (.str [111]), (.int .i64 0), (.int .i64 30), (.bool false), (.sl 4 [] false), (.sl 2 [] false)]) I st56 ⟨rfl, rfl, rfl, rfl, rfl, rfl, rfl, rfl, rfl, rfl, rfl, rfl, rfl, rfl, trivial⟩ I) I ?_
 refine Z2 I (Z1v (cs := [(.int .i64 0), (.int .i64 0), (.int .i64 0), (.int .i64 0), (.int .i64 0), (.int .i64 0), (.str []), (.str []), (.str []), (.int .i64 0), (.int .i64 0), (.bool false), (.sl 4 [] false), (.sl 2 [] false)]) I z56 I I I) I <| Z2 I (Z1e (cs := [(.int .i64 0), (.int .i64 0), (.int .i64 0), (.int .i64 0), (.int .i64 0), (.int .i64 0), (.str []), (.str []), (.str []), (.int .i64 0), (.int .i64 0), (.bool false), (.sl 4 [] false), (.sl 2 [] false)]) (vs := [(.int .i64 9), (.int .i64 1), (.int .i64 0), (.int .i64 0), (.int .i64 1), (.int .i64 1), (.str [119, 101, 98]), (.str []), (.str [111]), (.int .i64 0), (.int .i64 30), (.bool false), (.sl 4 [] false), (.sl 2 [] false)]) (ds := [(.int .i64 9), (.int .i64 1), (.int .i64 0), (.int .i64 0), (.int .i64 1), (.int .i64 1), (.str [119, 101, 98]), (.str []), (.str [111]), (.int .i64 0), (.int .i64 30), (.bool false), (.sl 4 [] false), (.sl 2 [] false)]) (v := (.ag [(.int .i64 9), (.int .i64 1), (.int .i64 0), (.int .i64 0), (.int .i64 1), (.int .i64 1), (.str [119, 101, 98]), (.str []), (.str [111]), (.int .i64 0), (.int .i64 30), (.bool false), (.sl 4 [] false), (.sl 2 [] false)])) sz56 I I I I I I I I) I <| Zi <| Zh <| Zj <| Zf <| Z2 I (Z27 (vs := [(0, (.int .i64 9)), (1, (.int .i64 2)), (2, (.int .i64 1)), (4, (.int .i64 1)), (5, (.int .i64 1)), (6, (.str [97, 112, 105])), (8, (.str [111])), (10, (.int .i64 10)), (11, (.bool true))]) (cs := [(.int .i64 9), (.int .i64 2), (.int .i64 1), (.int .i64 0), (.int .i64 1), (.int .i64 1), (.str [97, 112, 105]), (.str []), (.str [111]), (.int .i64 0), (.int .i64 10), (.bool true), (.sl 4 [] false), (.sl 2 [] false)]) I st56 ⟨rfl, rfl, rfl, rfl, rfl, rfl, rfl, rfl, rfl, rfl, rfl, rfl, rfl, rfl, rfl, rfl, rfl, rfl, trivial⟩ I) I <| Z2 I (Z1v (cs := [(.int .i64 0), (.int .i64 0), (.int .i64 0), (.int .i64 0), (.int .i64 0), (.int .i64 0), (.str []), (.str []), (.str []), (.int .i64 0), (.int .i64 0), (.bool false), (.sl 4 [] false), (.sl 2 [] false)]) I z56 I I I) I ?_
 refine Z2 I (Z1e (cs := [(.int .i64 0), (.int .i64 0), (.int .i64 0), (.int .i64 0), (.int .i64 0), (.int .i64 0), (.str []), (.str []), (.str []), (.int .i64 0), (.int .i64 0), (.bool false), (.sl 4 [] false), (.sl 2 [] false)]) (vs := [(.int .i64 9), (.int .i64 2), (.int .i64 1), (.int .i64 0), (.int .i64 1), (.int .i64 1), (.str [97, 112, 105]), (.str []), (.str [111]), (.int .i64 0), (.int .i64 10), (.bool true), (.sl 4 [] false), (.sl 2 [] false)]) (ds := [(.int .i64 9), (.int .i64 2), (.int .i64 1), (.int .i64 0), (.int .i64 1), (.int .i64 1), (.str [97, 112, 105]), (.str []), (.str [111]), (.int .i64 0), (.int .i64 10), (.bool true), (.sl 4 [] false), (.sl 2 [] false)]) (v := (.ag [(.int .i64 9), (.int .i64 2), (.int .i64 1), (.int .i64 0), (.int .i64 1), (.int .i64 1), (.str [97, 112, 105]), (.str []), (.str [111]), (.int .i64 0), (.int .i64 10), (.bool true), (.sl 4 [] false), (.sl 2 [] false)])) sz56 I I I I I I I I) I <| Zi <| Zh <| Zj <| Zf <| Z2 I (Z27 (vs := [(0, (.int .i64 9)), (1, (.int .i64 3)), (2, (.int .i64 2)), (4, (.int .i64 1)), (5, (.int .i64 1)), (6, (.str [97, 112, 105])), (8, (.str [111])), (10, (.int .i64 5))]) (cs := [(.int .i64 9), (.int .i64 3), (.int .i64 2), (.int .i64 0), (.int .i64 1), (.int .i64 1), (.str [97, 112, 105]), (.str []), (.str [111]), (.int .i64 0), (.int .i64 5), (.bool false), (.sl 4 [] false), (.sl 2 [] false)]) I st56 ⟨rfl, rfl, rfl, rfl, rfl, rfl, rfl, rfl, rfl, rfl, rfl, rfl, rfl, rfl, rfl, rfl, trivial⟩ I) I <| Z2 I (Z1v (cs := [(.int .i64 0), (.int .i64 0), (.int .i64 0), (.int .i64 0), (.int .i64 0), (.int .i64 0), (.str []), (.str []), (.str []), (.int .i64 0), (.int .i64 0), (.bool false), (.sl 4 [] false), (.sl 2 [] false)]) I z56 I I I) I <| Z2 I (Z1e (cs := [(.int .i64 0), (.int .i64 0), (.int .i64 0), (.int .i64 0), (.int .i64 0), (.int .i64 0), (.str []), (.str []), (.str []), (.int .i64 0), (.int .i64 0), (.bool false), (.sl 4 [] false), (.sl 2 [] false)]) (vs := [(.int .i64 9), (.int .i64 3), (.int .i64 2), (.int .i64 0), (.int .i64 1), (.int .i64 1), (.str [97, 112, 105]), (.str []), (.str [111]), (.int .i64 0), (.int .i64 5), (.bool false), (.sl 4 [] false), (.sl 2 [] false)]) (ds := [(.int .i64 9), (.int .i64 3), (.int .i64 2), (.int .i64 0), (.int .i64 1), (.int .i64 1), (.str [97, 112, 105]), (.str []), (.str [111]), (.int .i64 0), (.int .i64 5), (.bool false), (.sl 4 [] false), (.sl 2 [] false)]) (v := (.ag [(.int .i64 9), (.int .i64 3), (.int .i64 2), (.int .i64 0), (.int .i64 1), (.int .i64 1), (.str [97, 112, 105]), (.str []), (.str [111]), (.int .i64 0), (.int .i64 5), (.bool false), (.sl 4 [] false), (.sl 2 [] false)])) sz56 I I I I I I I I) I ?_
 refine Zi <| Zh <| Zj <| Zf <| Z2 I (Z1l (cs := [(.int .i64 9), (.int .i64 1), (.int .i64 0), (.int .i64 0), (.int .i64 1), (.int .i64 1), (.str [119, 101, 98]), (.str []), (.str [111]), (.int .i64 0), (.int .i64 30), (.bool false), (.sl 4 [] false), (.sl 2 [] false)]) (vs := [(.int .i64 9), (.int .i64 1), (.int .i64 0), (.int .i64 0), (.int .i64 1), (.int .i64 1), (.str [119, 101, 98]), (.str []), (.str [111]), (.int .i64 0), (.int .i64 30), (.bool false), (.sl 4 [] false), (.sl 2 [] false)]) I a56 I I I I) I <| Z2 I (Z1l (cs := [(.int .i64 9), (.int .i64 2), (.int .i64 1), (.int .i64 0), (.int .i64 1), (.int .i64 1), (.str [97, 112, 105]), (.str []), (.str [111]), (.int .i64 0), (.int .i64 10), (.bool true), (.sl 4 [] false), (.sl 2 [] false)]) (vs := [(.int .i64 9), (.int .i64 2), (.int .i64 1), (.int .i64 0), (.int .i64 1), (.int .i64 1), (.str [97, 112, 105]), (.str []), (.str [111]), (.int .i64 0), (.int .i64 10), (.bool true), (.sl 4 [] false), (.sl 2 [] false)]) I a56 I I I I) I <| Z2 I (Z1l (cs := [(.int .i64 9), (.int .i64 3), (.int .i64 2), (.int .i64 0), (.int .i64 1), (.int .i64 1), (.str [97, 112, 105]), (.str []), (.str [111]), (.int .i64 0), (.int .i64 5), (.bool false), (.sl 4 [] false), (.sl 2 [] false)]) (vs := [(.int .i64 9), (.int .i64 3), (.int .i64 2), (.int .i64 0), (.int .i64 1), (.int .i64 1), (.str [97, 112, 105]), (.str []), (.str [111]), (.int .i64 0), (.int .i64 5), (.bool false), (.sl 4 [] false), (.sl 2 [] false)]) I a56 I I I I) I <| Z2 I (Z1m (vs := [(.ag [(.int .i64 9), (.int .i64 1), (.int .i64 0), (.int .i64 0), (.int .i64 1), (.int .i64 1), (.str [119, 101, 98]), (.str []), (.str [111]), (.int .i64 0), (.int .i64 30), (.bool false), (.sl 4 [] false), (.sl 2 [] false)]), (.ag [(.int .i64 9), (.int .i64 2), (.int .i64 1), (.int .i64 0), (.int .i64 1), (.int .i64 1), (.str [97, 112, 105]), (.str []), (.str [111]), (.int .i64 0), (.int .i64 10), (.bool true), (.sl 4 [] false), (.sl 2 [] false)]), (.ag [(.int .i64 9), (.int .i64 3), (.int .i64 2), (.int .i64 0), (.int .i64 1), (.int .i64 1), (.str [97, 112, 105]), (.str []), (.str [111]), (.int .i64 0), (.int .i64 5), (.bool false), (.sl 4 [] false), (.sl 2 [] false)])]) (enc := Zd) (l := [(⟨9, 1, 0, 0, 1, 1, [119, 101, 98], [], [111], 0, 30, false, [], []⟩ : Zm), (⟨9, 2, 1, 0, 1, 1, [97, 112, 105], [], [111], 0, 10, true, [], []⟩ : Zm), (⟨9, 3, 2, 0, 1, 1, [97, 112, 105], [], [111], 0, 5, false, [], []⟩ : Zm)]) I el37 I I ⟨rfl, rfl, rfl, trivial⟩ I Z2z I I I I) I ?_
 refine Z2 I (Z27 (vs := [(0, (.int .i64 9)), (1, (.int .i64 2)), (2, (.vs 13))]) (cs := [(.int .i64 9), (.int .i64 2), (.vs 13)]) I st39 ⟨rfl, rfl, rfl, rfl, rfl, rfl, trivial⟩ I) I <| AOps.ghost (st' := ⟨[(14, (.ag [(.int .i64 9), (.int .i64 2), (.sl 14 (([(⟨9, 1, 0, 0, 1, 1, [119, 101, 98], [], [111], 0, 30, false, [], []⟩ : Zm), (⟨9, 2, 1, 0, 1, 1, [97, 112, 105], [], [111], 0, 10, true, [], []⟩ : Zm), (⟨9, 3, 2, 0, 1, 1, [97, 112, 105], [], [111], 0, 5, false, [], []⟩ : Zm)]).map Zd) false)]))], []⟩) (fun a w h => (Z17 ⟨[(14, (.ag [(.int .i64 9), (.int .i64 2), (.sl 14 (([(⟨9, 1, 0, 0, 1, 1, [119, 101, 98], [], [111], 0, 30, false, [], []⟩ : Zm), (⟨9, 2, 1, 0, 1, 1, [97, 112, 105], [], [111], 0, 10, true, [], []⟩ : Zm), (⟨9, 3, 2, 0, 1, 1, [97, 112, 105], [], [111], 0, 5, false, [], []⟩ : Zm)]).map Zd) false)]))], []⟩ (Z29 (m := 13) (sz := 14) (es := (List.map Zd ([(⟨9, 1, 0, 0, 1, 1, [119, 101, 98], [], [111], 0, 30, false, [], []⟩ : Zm), (⟨9, 2, 1, 0, 1, 1, [97, 112, 105], [], [111], 0, 10, true, [], []⟩ : Zm), (⟨9, 3, 2, 0, 1, 1, [97, 112, 105], [], [111], 0, 5, false, [], []⟩ : Zm)]))) a w (Z17 ⟨[(14, (.ag [(.int .i64 9), (.int .i64 2), (.vs 13)]))], [(13, (.vec 14 (List.map Zd ([(⟨9, 1, 0, 0, 1, 1, [119, 101, 98], [], [111], 0, 30, false, [], []⟩ : Zm), (⟨9, 2, 1, 0, 1, 1, [97, 112, 105], [], [111], 0, 10, true, [], []⟩ : Zm), (⟨9, 3, 2, 0, 1, 1, [97, 112, 105], [], [111], 0, 5, false, [], []⟩ : Zm)]))))]⟩ h ⟨rfl, trivial⟩ ⟨rfl, trivial⟩)) ⟨rfl, trivial⟩ trivial)) <| Z2 I (Z1m (vs := [(.ag [(.int .i64 9), (.int .i64 2), (.sl 14 (([(⟨9, 1, 0, 0, 1, 1, [119, 101, 98], [], [111], 0, 30, false, [], []⟩ : Zm), (⟨9, 2, 1, 0, 1, 1, [97, 112, 105], [], [111], 0, 10, true, [], []⟩ : Zm), (⟨9, 3, 2, 0, 1, 1, [97, 112, 105], [], [111], 0, 5, false, [], []⟩ : Zm)]).map Zd) false)])]) (enc := Z1i) (l := [(⟨9, 2, [(⟨9, 1, 0, 0, 1, 1, [119, 101, 98], [], [111], 0, 30, false, [], []⟩ : Zm), (⟨9, 2, 1, 0, 1, 1, [97, 112, 105], [], [111], 0, 10, true, [], []⟩ : Zm), (⟨9, 3, 2, 0, 1, 1, [97, 112, 105], [], [111], 0, 5, false, [], []⟩ : Zm)]⟩ : Zv)]) I el31 I I ⟨rfl, trivial⟩ I Zaf I I I I) I ?_
 have ⟨v2, hv2, h⟩ := Z1f h
 refine Z2 I (Z2v (d := some 16) (c := ⟨[(.vs 15)] ++ [], [(15, (.vec 3 (List.map Z1i ([(⟨9, 2, [(⟨9, 1, 0, 0, 1, 1, [119, 101, 98], [], [111], 0, 30, false, [], []⟩ : Zm), (⟨9, 2, 1, 0, 1, 1, [97, 112, 105], [], [111], 0, 10, true, [], []⟩ : Zm), (⟨9, 3, 2, 0, 1, 1, [97, 112, 105], [], [111], 0, 5, false, [], []⟩ : Zm)]⟩ : Zv)]))))], (.tup [(Z4 v2.2), (.int .i64 v2.1)]), [(15, (.vec 3 (List.map Z1i ([(⟨9, 2, [(⟨9, 1, 0, 0, 1, 1, [119, 101, 98], [], [111], 0, 30, false, [], []⟩ : Zm), (⟨9, 2, 1, 0, 1, 1, [97, 112, 105], [], [111], 0, 10, true, [], []⟩ : Zm), (⟨9, 3, 2, 0, 1, 1, [97, 112, 105], [], [111], 0, 5, false, [], []⟩ : Zm)]⟩ : Zv)]))))], []⟩) (ar := [(.vs 15)]) (caps := []) (news := []) (forg := []) Tryz.call17 ((F17_ok K ([(⟨9, 2, [(⟨9, 1, 0, 0, 1, 1, [119, 101, 98], [], [111], 0, 30, false, [], []⟩ : Zm), (⟨9, 2, 1, 0, 1, 1, [97, 112, 105], [], [111], 0, 10, true, [], []⟩ : Zm), (⟨9, 3, 2, 0, 1, 1, [97, 112, 105], [], [111], 0, 5, false, [], []⟩ : Zm)]⟩ : Zv)]) v2 hv2).sw 2000 15) I I ⟨rfl, trivial⟩ I ⟨rfl, trivial⟩ I) I <| Z2 I (Zo (v := (.tup [(Z4 v2.2), (.int .i64 v2.1)])) I I) I <| Z2 I (Z2g (vs := [(Z4 v2.2), (.int .i64 v2.1)]) (v := (Z4 v2.2)) I I I) I <| Z2 I (Z2g (vs := [(Z4 v2.2), (.int .i64 v2.1)]) (v := (.int .i64 v2.1)) I I I) I <| Z2 I (Z1v (cs := [(.sl 4 [] false), (.sl 5 [] false)]) I z44 I I I) I <| Z2 I (Z1e (cs := [(.sl 4 [] false), (.sl 5 [] false)]) (vs := (Z4 v2.2).cells) (ds := (Z4 v2.2).cells) (v := (Z4 v2.2)) Zau I I I I I I I I) I <| Z2 I (Zp (v := (.int .i64 v2.1)) I I) I <| Zi ?_
 refine Zh <| Zj <| Zf <| Z2 I (Zo (v := (.int .i64 v2.1)) I I) I <| Z2 I (Z25 (k := .i64) (a := v2.1) (b := 0) (c := (v2.1 == 0)) I I I I) I <| Z2 I (Zo (v := (.bool (v2.1 == 0))) I I) I ?_
 have hif := Z28 h
 refine AOps.split (fun hc => ?_) (fun hc => ?_)
 ·have h := hif.1 hc
  refine Z1j I I I I (Z1l (cs := (Z4 v2.2).cells) (vs := (Z4 v2.2).cells) I a44 I I I I) I <| Z1j I I I I (Z27 (vs := [(0, (.str [97, 112, 105])), (1, (.int .i64 4)), (2, (.int .i64 2))]) (cs := [(.str [97, 112, 105]), (.int .i64 4), (.int .i64 2), (.int .i64 0)]) I st68 ⟨rfl, rfl, rfl, rfl, rfl, rfl, trivial⟩ I) I <| Z1j I I I I (Z27 (vs := [(0, (.str [119, 101, 98])), (1, (.int .i64 2)), (3, (.int .i64 2))]) (cs := [(.str [119, 101, 98]), (.int .i64 2), (.int .i64 0), (.int .i64 2)]) I st68 ⟨rfl, rfl, rfl, rfl, rfl, rfl, trivial⟩ I) I <| Z1j I I I I (Z1m (vs := [(.ag [(.str [97, 112, 105]), (.int .i64 4), (.int .i64 2), (.int .i64 0)]), (.ag [(.str [119, 101, 98]), (.int .i64 2), (.int .i64 0), (.int .i64 2)])]) (enc := Z3) (l := [(⟨[97, 112, 105], 4, 2, 0⟩ : Zg), (⟨[119, 101, 98], 2, 0, 2⟩ : Zg)]) I el41 I I ⟨rfl, rfl, trivial⟩ I Z1q I I I I) I <| Z1j I I I I (Z27 (vs := [(0, (.str [119, 101, 98])), (1, (.str [97, 112, 105])), (2, (.int .i64 2)), (3, (.int .i64 2)), (4, (.int .i64 20))]) (cs := [(.str [119, 101, 98]), (.str [97, 112, 105]), (.int .i64 2), (.int .i64 2), (.int .i64 20)]) I st88 ⟨rfl, rfl, rfl, rfl, rfl, rfl, rfl, rfl, rfl, rfl, trivial⟩ I) I <| Z1j I I I I (Z1m (vs := [(.ag [(.str [119, 101, 98]), (.str [97, 112, 105]), (.int .i64 2), (.int .i64 2), (.int .i64 20)])]) (enc := Z5) (l := [(⟨[119, 101, 98], [97, 112, 105], 2, 2, 20⟩ : Zk)]) I el42 I I ⟨rfl, trivial⟩ I Z2b I I I I) I <| Z1j I I I I (Z27 (vs := [(0, (.vs 25)), (1, (.vs 27))]) (cs := [(.vs 25), (.vs 27)]) I st44 ⟨rfl, rfl, rfl, rfl, trivial⟩ I) I <| AOps.ghost (st' := ⟨[(21, (.bool true)), (22, (Z4 v2.2)), (28, (.ag [(.sl 4 (([(⟨[97, 112, 105], 4, 2, 0⟩ : Zg), (⟨[119, 101, 98], 2, 0, 2⟩ : Zg)]).map Z3) false), (.vs 27)]))], [(27, (.vec 5 (List.map Z5 ([(⟨[119, 101, 98], [97, 112, 105], 2, 2, 20⟩ : Zk)]))))]⟩) (fun a w h => (Z17 ⟨[(21, (.bool true)), (22, (Z4 v2.2)), (28, (.ag [(.sl 4 (([(⟨[97, 112, 105], 4, 2, 0⟩ : Zg), (⟨[119, 101, 98], 2, 0, 2⟩ : Zg)]).map Z3) false), (.vs 27)]))], [(27, (.vec 5 (List.map Z5 ([(⟨[119, 101, 98], [97, 112, 105], 2, 2, 20⟩ : Zk)]))))]⟩ (Z29 (m := 25) (sz := 4) (es := (List.map Z3 ([(⟨[97, 112, 105], 4, 2, 0⟩ : Zg), (⟨[119, 101, 98], 2, 0, 2⟩ : Zg)]))) a w (Z17 ⟨[(21, (.bool true)), (22, (Z4 v2.2)), (28, (.ag [(.vs 25), (.vs 27)]))], [(25, (.vec 4 (List.map Z3 ([(⟨[97, 112, 105], 4, 2, 0⟩ : Zg), (⟨[119, 101, 98], 2, 0, 2⟩ : Zg)])))), (27, (.vec 5 (List.map Z5 ([(⟨[119, 101, 98], [97, 112, 105], 2, 2, 20⟩ : Zk)]))))]⟩ h ⟨rfl, rfl, rfl, trivial⟩ ⟨rfl, rfl, trivial⟩)) ⟨rfl, rfl, rfl, trivial⟩ ⟨rfl, trivial⟩)) ?_
  refine AOps.ghost (st' := ⟨[(21, (.bool true)), (22, (Z4 v2.2)), (28, (.ag [(.sl 4 (([(⟨[97, 112, 105], 4, 2, 0⟩ : Zg), (⟨[119, 101, 98], 2, 0, 2⟩ : Zg)]).map Z3) false), (.sl 5 (([(⟨[119, 101, 98], [97, 112, 105], 2, 2, 20⟩ : Zk)]).map Z5) false)]))], []⟩) (fun a w h => (Z17 ⟨[(21, (.bool true)), (22, (Z4 v2.2)), (28, (.ag [(.sl 4 (([(⟨[97, 112, 105], 4, 2, 0⟩ : Zg), (⟨[119, 101, 98], 2, 0, 2⟩ : Zg)]).map Z3) false), (.sl 5 (([(⟨[119, 101, 98], [97, 112, 105], 2, 2, 20⟩ : Zk)]).map Z5) false)]))], []⟩ (Z29 (m := 27) (sz := 5) (es := (List.map Z5 ([(⟨[119, 101, 98], [97, 112, 105], 2, 2, 20⟩ : Zk)]))) a w (Z17 ⟨[(21, (.bool true)), (22, (Z4 v2.2)), (28, (.ag [(.sl 4 (([(⟨[97, 112, 105], 4, 2, 0⟩ : Zg), (⟨[119, 101, 98], 2, 0, 2⟩ : Zg)]).map Z3) false), (.vs 27)]))], [(27, (.vec 5 (List.map Z5 ([(⟨[119, 101, 98], [97, 112, 105], 2, 2, 20⟩ : Zk)]))))]⟩ h ⟨rfl, rfl, rfl, trivial⟩ ⟨rfl, trivial⟩)) ⟨rfl, rfl, rfl, trivial⟩ trivial)) ?_
  have ⟨v4, hv4, h⟩ := Z1f h
  refine Z1j I I I I (Z1o (ar := [(Z4 v2.2), (.ag [(.sl 4 (([(⟨[97, 112, 105], 4, 2, 0⟩ : Zg), (⟨[119, 101, 98], 2, 0, 2⟩ : Zg)]).map Z3) false), (.sl 5 (([(⟨[119, 101, 98], [97, 112, 105], 2, 2, 20⟩ : Zk)]).map Z5) false)])]) (caps := []) Tryz.call19 (F19_ok K v2.2 (⟨[(⟨[97, 112, 105], 4, 2, 0⟩ : Zg), (⟨[119, 101, 98], 2, 0, 2⟩ : Zg)], [(⟨[119, 101, 98], [97, 112, 105], 2, 2, 20⟩ : Zk)]⟩ : Zc) v4 hv4) I I ⟨rfl, rfl, trivial⟩ I) I <| Z2 I (Z2w (v := (.bool v4)) I I I) I <| Z2 I (Zp (v := (.bool v4)) I I) I <| Zi <| Zh <| Z1g ?_
  have h := Option.some.inj h
  subst h
  refine (hret _ ?_).1
  exact ⟨[(.bool v4)], ⟨rfl, trivial⟩, rfl, trivial⟩
 ·have h := hif.2 hc
  refine Z1d I I I I I I I <| Z1d I I I I I I I <| Z1d I I I I I I I <| Z1d I I I I I I I <| Z1d I I I I I I I <| Z1d I I I I I I I <| Z1d I I I I I I I <| Z1d I I I I I I I ?_
  refine Z2 I (Z2u (v := (.bool false)) I I I) I <| Z2 I (Zp (v := (.bool false)) I I) I <| Zi <| Zh <| Z1g ?_
  have h := Option.some.inj h
  subst h
  refine (hret _ ?_).1
  exact ⟨[(.bool false)], ⟨rfl, trivial⟩, rfl, trivial⟩
def Zai (K : Nat) (a1 : Str) : Option (Zg) :=
 some (⟨a1, 0, 0, 0⟩ : Zg)
def Z9j (K : Nat) (a0 : Zc) (a1 : Str) (c4 : Option (Zg)) : Nat → Int → Option (Zg)
 | 0, _ => none
 | k2 + 1, v1 =>
  if (decide (v1 < (a0.Services.length : Int))) = true then
   if (0 : Int) ≤ v1 ∧ v1 < a0.Services.length then
    if ((a0.Services.getD v1.toNat Z9).Name == a1) = true then
     if (0 : Int) ≤ v1 ∧ v1 < a0.Services.length then
      some (a0.Services.getD v1.toNat Z9)
     else none
    else
     (Z9j K a0 a1 c4 k2) (IntKind.i64.wrap (v1 + 1))
   else none
  else
   c4
def F31 (K : Nat) (a0 : Zc) (a1 : Str) : Option (Zg) :=
 Z9j K a0 a1 (Zai K a1) K 0
theorem F31_ok (K : Nat) (a0 : Zc) (a1 : Str) (r : Zg) (h : F31 K a0 a1 = some r) : ACall P 31 ⟨[(Z4 a0), (.str a1)], [], (Z3 r), [], []⟩ := by
 refine Z1s Tryz.func31 Tryz.results31 rfl Tryz.ntmps31 rfl rfl rfl ?_
 intro E Q hP hN hro hret
 obtain ⟨P', nt', w0, F0, p0, S0, β0, ro0⟩ := E
 simp only at hP hN
 subst hP hN
 dsimp only [argT]
 unfold F31 at h
 refine Zj <| Zf <| Z2 I (Z2m (v := (Z4 a0)) (cs := (Z4 a0).cells) I I I I I) I <| Z2 I (Z1v (cs := [(.str []), (.int .i64 0), (.int .i64 0), (.int .i64 0)]) I z68 I I I) I <| Zi <| Zh <| Zj <| Zj ?_
 refine Zf <| Z2 I (Zp (v := (.int .i64 0)) I I) I <| Zi <| Zh <| AWp.weaken (st' := ⟨[(1, (.str a1)), (2, (.ptr 2 0)), (4, (.ptr 4 0)), (5, (.int .i64 0))], [(2, (.box (Z4 a0).cells)), (4, (.box [(.str []), (.int .i64 0), (.int .i64 0), (.int .i64 0)]))]⟩) ⟨rfl, rfl, rfl, rfl, trivial⟩ ⟨rfl, rfl, trivial⟩ ?_
 refine Z1n (V := Int) (X := Unit) (lp := fun k v => Z9j K a0 a1 (Zai K a1) k v = some r) (sh := fun v => ⟨[(1, (.str a1)), (2, (.ptr 2 0)), (4, (.ptr 4 0)), (5, (.int .i64 v))], [(2, (.box (Z4 a0).cells)), (4, (.box [(.str []), (.int .i64 0), (.int .i64 0), (.int .i64 0)]))]⟩) (x := fun v => Zai K a1 = some r) (shx := fun v => ⟨[(1, (.str a1)), (4, (.ptr 4 0))], [(4, (.box [(.str []), (.int .i64 0), (.int .i64 0), (.int .i64 0)]))]⟩) (k := K) (v := 0) h ?_ ?_
 ·intro v h
  try dsimp only at h ⊢
  unfold Zai at h
  refine Zh <| Zj <| Zf <| Z2 I (Zo (v := (.str a1)) I I) I <| Z2 I (Z27 (vs := [(0, (.str a1))]) (cs := [(.str a1), (.int .i64 0), (.int .i64 0), (.int .i64 0)]) I st68 ⟨rfl, rfl, trivial⟩ I) I <| Z2 I (Z1e (cs := [(.str []), (.int .i64 0), (.int .i64 0), (.int .i64 0)]) (vs := [(.str a1), (.int .i64 0), (.int .i64 0), (.int .i64 0)]) (ds := [(.str a1), (.int .i64 0), (.int .i64 0), (.int .i64 0)]) (v := (.ag [(.str a1), (.int .i64 0), (.int .i64 0), (.int .i64 0)])) sz68 I I I I I I I I) I <| Zi <| Zh ?_
  refine Z1g ?_
  have h := Option.some.inj h
  subst h
  refine (hret _ ?_).1
  exact ⟨[(.ag [(.str a1), (.int .i64 0), (.int .i64 0), (.int .i64 0)])], ⟨⟨4, _, rfl, rfl, .inr ⟨_, a68, rfl, rfl⟩⟩, trivial⟩, rfl, trivial⟩
 ·intro N k2 v h IH2 J2
  revert h
  revert v
  intro v1 h
  try dsimp only at h IH2 J2 ⊢
  cases k2 with
  | zero => cases h
  | succ k2 =>
   rw [Z9j] at h
   refine Zj <| Zj <| Zf <| Z2 I (Zo (v := (.int .i64 v1)) I I) I <| Z2 I (Zr (m := 2) (o := 0) I Z3v I I) I <| Z2 I (Zt (cs := (Z4 a0).cells) (v := (.sl 4 (a0.Services.map Z3) false)) I o41 I I I) I <| Z2 I (Z24 (l := a0.Services) (enc := Z3) I s41 I) I <| Z2 I (Z25 (k := .i64) (a := v1) (b := (a0.Services.length : Int)) (c := (decide (v1 < (a0.Services.length : Int)))) I I I I) I ?_
   refine Zi <| Zh ?_
   have hif := Z28 h
   refine Z16 I (fun hc => ?_) (fun hc => ?_)
   ·have h := hif.1 hc
    refine Z1b <| Zh <| Zj <| AWp.block <| Zj <| Zf <| Z2 I (Zr (m := 2) (o := 0) I Z3v I I) I <| Z2 I (Zt (cs := (Z4 a0).cells) (v := (.sl 4 (a0.Services.map Z3) false)) I o41 I I I) I ?_
    refine Z2 I (Zo (v := (.int .i64 v1)) I I) I ?_
    have ⟨hg6, h⟩ := Z13 h
    refine Z2 I (Z1w (k := .i64) (l := a0.Services) (enc := Z3) (z := Z9) (n := v1) (cs := (Z3 (a0.Services.getD v1.toNat Z9)).cells) (full := false) I s41 I I hg6 I) I <| Z2 I (Z2n (cs := (Z3 (a0.Services.getD v1.toNat Z9)).cells) (ds := (Z3 (a0.Services.getD v1.toNat Z9)).cells) I Z6s I I I) I <| Z2 I (Z2f (cs := (Z3 (a0.Services.getD v1.toNat Z9)).cells) (v := (.str (a0.Services.getD v1.toNat Z9).Name)) I o9 I I) I <| Z2 I (Zo (v := (.str a1)) I I) I <| Z2 I (Z3c (a := (a0.Services.getD v1.toNat Z9).Name) (b := a1) (c := ((a0.Services.getD v1.toNat Z9).Name == a1)) I I I I) I <| Zi <| Zh ?_
    have hif := Z28 h
    refine Z16 I (fun hc => ?_) (fun hc => ?_)
    ·have h := hif.1 hc
     refine Zj <| Zf <| Z2 I (Zr (m := 2) (o := 0) I Z3v I I) I <| Z2 I (Zt (cs := (Z4 a0).cells) (v := (.sl 4 (a0.Services.map Z3) false)) I o41 I I I) I <| Z2 I (Zo (v := (.int .i64 v1)) I I) I ?_
     have ⟨hg7, h⟩ := Z13 h
     refine Z2 I (Z1w (k := .i64) (l := a0.Services) (enc := Z3) (z := Z9) (n := v1) (cs := (Z3 (a0.Services.getD v1.toNat Z9)).cells) (full := false) I s41 I I hg7 I) I <| Z2 I (Z2i (cs := (Z3 (a0.Services.getD v1.toNat Z9)).cells) (vs := (Z3 (a0.Services.getD v1.toNat Z9)).cells) I a68 I I I) I <| Z2 I (Z1e (cs := [(.str []), (.int .i64 0), (.int .i64 0), (.int .i64 0)]) (vs := (Z3 (a0.Services.getD v1.toNat Z9)).cells) (ds := (Z3 (a0.Services.getD v1.toNat Z9)).cells) (v := (Z3 (a0.Services.getD v1.toNat Z9))) sz68 I I I I I I I I) I <| Zi <| Zh <| Z1g <| At.overR <| Z1k ?_
     refine Z1k (At.overR ?_)
     refine Z1k ?_
     have h := Option.some.inj h
     subst h
     refine (hret _ ?_).1
     exact ⟨[(Z3 (a0.Services.getD v1.toNat Z9))], ⟨⟨4, _, rfl, rfl, .inr ⟨_, a68, rfl, rfl⟩⟩, trivial⟩, rfl, trivial⟩
    ·have h := hif.2 hc
     refine Z1b <| At.end <| Zh <| Zf <| Z2 I (Zo (v := (.int .i64 v1)) I I) I <| Z2 I (Z1u (k := .i64) (a := v1) (b := 1) (c := (IntKind.i64.wrap (v1 + 1))) I I I I) I <| Z2 I (Zp (v := (.int .i64 (IntKind.i64.wrap (v1 + 1)))) I I) I <| Zi ?_
     exact Zy (st' := ⟨[(1, (.str a1)), (2, (.ptr 2 0)), (4, (.ptr 4 0)), (5, (.int .i64 (IntKind.i64.wrap (v1 + 1))))], [(2, (.box (Z4 a0).cells)), (4, (.box [(.str []), (.int .i64 0), (.int .i64 0), (.int .i64 0)]))]⟩) ⟨rfl, rfl, rfl, rfl, trivial⟩ ⟨rfl, rfl, trivial⟩ (IH2 _ (IntKind.i64.wrap (v1 + 1)) (Nat.lt_succ_self _) h)
   ·have h := hif.2 hc
    refine AWp.exit <| At.thru ?_
    exact Zy (st' := ⟨[(1, (.str a1)), (4, (.ptr 4 0))], [(4, (.box [(.str []), (.int .i64 0), (.int .i64 0), (.int .i64 0)]))]⟩) ⟨rfl, rfl, trivial⟩ ⟨rfl, trivial⟩ (J2 () h)
def Z9w (K : Nat) (v3 : Int) (a0 : Zc) (a1 : Zg) (v8 : (List Zg)) : Option (Zc) :=
 if (0 : Int) ≤ 0 ∧ 0 ≤ v3 ∧ v3 ≤ a0.Services.length then
  if ([] : List Zg).length + (a0.Services.take v3.toNat).length ≤ 1073741824 then
   if (a0.Services.take v3.toNat).length + [a1].length ≤ 1073741824 then
    if ((a0.Services.take v3.toNat) ++ [a1]).length + v8.length ≤ 1073741824 then
     some (⟨(((a0.Services.take v3.toNat) ++ [a1]) ++ v8), a0.Calls⟩ : Zc)
    else none
   else none
  else none
 else none
def Za1 (K : Nat) (a0 : Zc) (a1 : Zg) (v3 : Int) : Option (Zc) :=
 if (0 : Int) ≤ v3 ∧ v3 ≤ (a0.Services.length : Int) ∧ (a0.Services.length : Int) ≤ a0.Services.length then
  if (decide (((a0.Services.drop v3.toNat).length : Int) > 0)) = true then
   if (0 : Int) ≤ 0 ∧ (0 : Int) < (a0.Services.drop v3.toNat).length then
    if (((a0.Services.drop v3.toNat).getD (0 : Int).toNat Z9).Name == a1.Name) = true then
     if (0 : Int) ≤ 1 ∧ 1 ≤ ((a0.Services.drop v3.toNat).length : Int) ∧ ((a0.Services.drop v3.toNat).length : Int) ≤ (a0.Services.drop v3.toNat).length then
      Z9w K v3 a0 a1 ((a0.Services.drop v3.toNat).drop (1 : Int).toNat)
     else none
    else
     Z9w K v3 a0 a1 (a0.Services.drop v3.toNat)
   else none
  else
   if (0 : Int) ≤ 0 ∧ 0 ≤ v3 ∧ v3 ≤ a0.Services.length then
    if ([] : List Zg).length + (a0.Services.take v3.toNat).length ≤ 1073741824 then
     if (a0.Services.take v3.toNat).length + [a1].length ≤ 1073741824 then
      if ((a0.Services.take v3.toNat) ++ [a1]).length + (a0.Services.drop v3.toNat).length ≤ 1073741824 then
       some (⟨(((a0.Services.take v3.toNat) ++ [a1]) ++ (a0.Services.drop v3.toNat)), a0.Calls⟩ : Zc)
      else none
     else none
    else none
   else none
 else none
def Z8d (K : Nat) (a0 : Zc) (a1 : Zg) (c5 : Int → Option (Zc)) : Nat → Int → Option (Zc)
 | 0, _ => none
 | k2 + 1, v1 =>
  if (decide (v1 < (a0.Services.length : Int))) = true then
   if (0 : Int) ≤ v1 ∧ v1 < a0.Services.length then
    if (slt (a0.Services.getD v1.toNat Z9).Name a1.Name) = true then
     (Z8d K a0 a1 c5 k2) (IntKind.i64.wrap (v1 + 1))
    else
     c5 v1
   else none
  else
   c5 v1
def F53 (K : Nat) (a0 : Zc) (a1 : Zg) : Option (Zc) :=
 Z8d K a0 a1 (Za1 K a0 a1) K 0
theorem F53_ok (K : Nat) (a0 : Zc) (a1 : Zg) (r : Zc) (h : F53 K a0 a1 = some r) : ACall P 53 ⟨[(Z4 a0), (Z3 a1)], [], (Z4 r), [], []⟩ := by
 refine Z1s Tryz.func53 Tryz.results53 rfl Tryz.ntmps53 rfl rfl rfl ?_
 intro E Q hP hN hro hret
 obtain ⟨P', nt', w0, F0, p0, S0, β0, ro0⟩ := E
 simp only at hP hN
 subst hP hN
 dsimp only [argT]
 unfold F53 at h
 refine Zj <| Zf <| Z2 I (Z2m (v := (Z4 a0)) (cs := (Z4 a0).cells) I I I I I) I <| Z2 I (Z2m (v := (Z3 a1)) (cs := (Z3 a1).cells) I I I I I) I <| Z2 I (Z1v (cs := [(.sl 4 [] false), (.sl 5 [] false)]) I z44 I I I) I <| Zi <| Zh <| Zj ?_
 refine Zf <| Z2 I (Zp (v := (.int .i64 0)) I I) I <| Zi <| Zh <| Zj <| AWp.weaken (st' := ⟨[(2, (.ptr 2 0)), (3, (.ptr 3 0)), (4, (.ptr 4 0)), (5, (.int .i64 0))], [(2, (.box (Z4 a0).cells)), (3, (.box (Z3 a1).cells)), (4, (.box [(.sl 4 [] false), (.sl 5 [] false)]))]⟩) ⟨rfl, rfl, rfl, rfl, trivial⟩ ⟨rfl, rfl, rfl, trivial⟩ ?_
 refine Z1n (V := Int) (X := Int) (lp := fun k v => Z8d K a0 a1 (Za1 K a0 a1) k v = some r) (sh := fun v => ⟨[(2, (.ptr 2 0)), (3, (.ptr 3 0)), (4, (.ptr 4 0)), (5, (.int .i64 v))], [(2, (.box (Z4 a0).cells)), (3, (.box (Z3 a1).cells)), (4, (.box [(.sl 4 [] false), (.sl 5 [] false)]))]⟩) (x := fun v => Za1 K a0 a1 v = some r) (shx := fun v => ⟨[(2, (.ptr 2 0)), (3, (.ptr 3 0)), (4, (.ptr 4 0)), (5, (.int .i64 v))], [(2, (.box (Z4 a0).cells)), (3, (.box (Z3 a1).cells)), (4, (.box [(.sl 4 [] false), (.sl 5 [] false)]))]⟩) (k := K) (v := 0) h ?_ ?_
 ·intro v h
  revert h
  revert v
  intro v3 h
  try dsimp only at h ⊢
  unfold Za1 at h
  refine Zh <| Zj <| Zf <| Z2 I (Zr (m := 2) (o := 0) I Z3v I I) I <| Z2 I (Zt (cs := (Z4 a0).cells) (v := (.sl 4 (a0.Services.map Z3) false)) I o41 I I I) I <| Z2 I (Zo (v := (.int .i64 v3)) I I) I ?_
  have ⟨hg6, h⟩ := Z13 h
  refine Z2 I (Z64 (l := a0.Services) (enc := Z3) (kl := .i64) (lo := v3) I s41 I I hg6) I <| Z2 I (Zp (v := (.sl 4 ((a0.Services.drop v3.toNat).map Z3) false)) I I) I <| Zi <| Zh <| Zj <| Zj <| Z1r mixed <| Zb 0 I (Zo (v := (.sl 4 ((a0.Services.drop v3.toNat).map Z3) false)) I I) ?_
  refine Zb 1 I (Z24 (l := (a0.Services.drop v3.toNat)) (enc := Z3) I s41 I) <| Zb 2 I (Z25 (k := .i64) (a := ((a0.Services.drop v3.toNat).length : Int)) (b := 0) (c := (decide (((a0.Services.drop v3.toNat).length : Int) > 0))) I I I I) <| Zb 3 I (Zo (v := (.bool (decide (((a0.Services.drop v3.toNat).length : Int) > 0)))) I I) ?_
  have hif := Z28 h
  refine AOpsD.split (fun hc => ?_) (fun hc => ?_)
  ·have h := hif.1 hc
   refine Z14 4 I I I I (Zo (v := (.sl 4 ((a0.Services.drop v3.toNat).map Z3) false)) I I) ?_
   have ⟨hg7, h⟩ := Z13 h
   refine Z14 5 I I I I (Z1w (k := .i64) (l := (a0.Services.drop v3.toNat)) (enc := Z3) (z := Z9) (n := 0) (cs := (Z3 ((a0.Services.drop v3.toNat).getD (0 : Int).toNat Z9)).cells) (full := false) I s41 I I hg7 I) <| Z14 6 I I I I (Z2n (cs := (Z3 ((a0.Services.drop v3.toNat).getD (0 : Int).toNat Z9)).cells) (ds := (Z3 ((a0.Services.drop v3.toNat).getD (0 : Int).toNat Z9)).cells) I Z6s I I I) <| Z14 7 I I I I (Z2f (cs := (Z3 ((a0.Services.drop v3.toNat).getD (0 : Int).toNat Z9)).cells) (v := (.str ((a0.Services.drop v3.toNat).getD (0 : Int).toNat Z9).Name)) I o9 I I) <| Z14 8 I I I I (Zr (m := 3) (o := 0) I Z6s I I) <| Z14 9 I I I I (Zt (cs := (Z3 a1).cells) (v := (.str a1.Name)) I o9 I I I) <| Z14 10 I I I I (Z3c (a := ((a0.Services.drop v3.toNat).getD (0 : Int).toNat Z9).Name) (b := a1.Name) (c := (((a0.Services.drop v3.toNat).getD (0 : Int).toNat Z9).Name == a1.Name)) I I I I) <| Zb 11 I (Z2w (v := (.bool (((a0.Services.drop v3.toNat).getD (0 : Int).toNat Z9).Name == a1.Name))) I I I) <| AOpsD.nil (by kernel_rfl) I ?_
   refine Zh ?_
   refine AWp.join (V := (List Zg)) (lp := fun v => Z9w K v3 a0 a1 v = some r) (sh := fun v => ⟨[(2, (.ptr 2 0)), (3, (.ptr 3 0)), (4, (.ptr 4 0)), (5, (.int .i64 v3)), (6, (.sl 4 (v.map Z3) false))], [(2, (.box (Z4 a0).cells)), (3, (.box (Z3 a1).cells)), (4, (.box [(.sl 4 [] false), (.sl 5 [] false)]))]⟩) ?_ ?_
   ·intro v h
    revert h
    revert v
    intro v8 h
    try dsimp only at h ⊢
    unfold Z9w at h
    refine Zh <| Zj <| Z1r mixed <| Zb 0 I (Z1m (vs := []) (enc := Z3) (l := ([] : List Zg)) I el41 I I trivial I Z1q I I I I) <| Zb 1 I (Zr (m := 2) (o := 0) I Z3v I I) <| Zb 2 I (Zt (cs := (Z4 a0).cells) (v := (.sl 4 (a0.Services.map Z3) false)) I o41 I I I) <| Zb 3 I (Zo (v := (.int .i64 v3)) I I) ?_
    have ⟨hg10, h⟩ := Z13 h
    refine Zb 4 I (Z80 (l := a0.Services) (enc := Z3) (kh := .i64) (hi := v3) I s41 I I hg10) ?_
    have ⟨hg11, h⟩ := Z13 h
    refine Zb 5 I (Z2p (m := 43) (enc := Z3) (l := ([] : List Zg)) (l' := (a0.Services.take v3.toNat)) (src := (.sl 4 ((a0.Services.take v3.toNat).map Z3) false)) (rd := []) I I el41 I u41 I I I ⟨rfl, rfl, rfl⟩ noReads Z1q hg11) <| Zb 6 I (Z1l (cs := (Z3 a1).cells) (vs := (Z3 a1).cells) I a68 I I I I) <| Zb 7 I (Z1m (vs := [(Z3 a1)]) (enc := Z3) (l := [a1]) I el41 I I ⟨rfl, trivial⟩ I Z1q I I I I) ?_
    have ⟨hg12, h⟩ := Z13 h
    refine Zb 8 I (Z2p (m := 43) (enc := Z3) (l := (a0.Services.take v3.toNat)) (l' := [a1]) (src := (.vs 50)) (rd := [(50, (.vec 4 (List.map Z3 [a1])))]) I I el41 I u41 I I I I (oneRead I) Z1q hg12) <| Zb 9 I (Zo (v := (.sl 4 (v8.map Z3) false)) I I) ?_
    have ⟨hg13, h⟩ := Z13 h
    refine Zb 10 I (Z2p (m := 43) (enc := Z3) (l := ((a0.Services.take v3.toNat) ++ [a1])) (l' := v8) (src := (.sl 4 (v8.map Z3) false)) (rd := []) I I el41 I u41 I I I ⟨rfl, rfl, rfl⟩ noReads Z1q hg13) <| Zb 11 I (Zr (m := 2) (o := 0) I Z3v I I) <| Zb 12 I (Z1e (cs := (Z4 a0).cells) (vs := [(.vs 43)]) (ds := [(.vs 43), (.sl 5 (a0.Calls.map Z5) false)]) (v := (.vs 43)) sz41 I I I I I I I I) <| AOpsD.nil (by kernel_rfl) I <| Zh <| Zj <| Zf <| Z2 I (Z1l (cs := [(.vs 43), (.sl 5 (a0.Calls.map Z5) false)]) (vs := [(.vs 43), (.sl 5 (a0.Calls.map Z5) false)]) I a44 I I I I) I ?_
    refine Z2 I (Z1e (cs := [(.sl 4 [] false), (.sl 5 [] false)]) (vs := [(.vs 43), (.sl 5 (a0.Calls.map Z5) false)]) (ds := [(.vs 43), (.sl 5 (a0.Calls.map Z5) false)]) (v := (.ag [(.vs 43), (.sl 5 (a0.Calls.map Z5) false)])) Zau I I I I I I I I) I <| Zi <| Zh <| Z1g <| At.ghost (st' := ⟨[(4, (.ptr 4 0))], [(4, (.box [(.sl 4 ((((a0.Services.take v3.toNat) ++ [a1]) ++ v8).map Z3) false), (.sl 5 (a0.Calls.map Z5) false)]))]⟩) (fun a w h => (Z17 ⟨[(4, (.ptr 4 0))], [(4, (.box [(.sl 4 ((((a0.Services.take v3.toNat) ++ [a1]) ++ v8).map Z3) false), (.sl 5 (a0.Calls.map Z5) false)]))]⟩ (Z29 (m := 43) (sz := 4) (es := (List.map Z3 (((a0.Services.take v3.toNat) ++ [a1]) ++ v8))) a w (Z17 ⟨[(4, (.ptr 4 0))], [(43, (.vec 4 (List.map Z3 (((a0.Services.take v3.toNat) ++ [a1]) ++ v8)))), (4, (.box [(.vs 43), (.sl 5 (a0.Calls.map Z5) false)]))]⟩ h ⟨rfl, trivial⟩ ⟨rfl, rfl, trivial⟩)) ⟨rfl, trivial⟩ ⟨rfl, trivial⟩)) ?_
    have h := Option.some.inj h
    subst h
    refine (hret _ ?_).1
    exact ⟨[(.ag [(.sl 4 ((((a0.Services.take v3.toNat) ++ [a1]) ++ v8).map Z3) false), (.sl 5 (a0.Calls.map Z5) false)])], ⟨⟨4, _, rfl, rfl, .inr ⟨_, a44, rfl, rfl⟩⟩, trivial⟩, rfl, trivial⟩
   ·intro J9
    have hif := Z28 h
    refine Z16 I (fun hc => ?_) (fun hc => ?_)
    ·have h := hif.1 hc
     refine Zf <| Z2 I (Zo (v := (.sl 4 ((a0.Services.drop v3.toNat).map Z3) false)) I I) I ?_
     have ⟨hg14, h⟩ := Z13 h
     refine Z2 I (Z64 (l := (a0.Services.drop v3.toNat)) (enc := Z3) (kl := .i64) (lo := 1) I s41 I I hg14) I <| Z2 I (Zp (v := (.sl 4 (((a0.Services.drop v3.toNat).drop (1 : Int).toNat).map Z3) false)) I I) I <| Zi ?_
     exact Zy (st' := ⟨[(2, (.ptr 2 0)), (3, (.ptr 3 0)), (4, (.ptr 4 0)), (5, (.int .i64 v3)), (6, (.sl 4 (((a0.Services.drop v3.toNat).drop (1 : Int).toNat).map Z3) false))], [(2, (.box (Z4 a0).cells)), (3, (.box (Z3 a1).cells)), (4, (.box [(.sl 4 [] false), (.sl 5 [] false)]))]⟩) ⟨rfl, rfl, rfl, rfl, rfl, trivial⟩ ⟨rfl, rfl, rfl, trivial⟩ (J9 ((a0.Services.drop v3.toNat).drop (1 : Int).toNat) h)
    ·have h := hif.2 hc
     refine Z1b ?_
     exact Zy (st' := ⟨[(2, (.ptr 2 0)), (3, (.ptr 3 0)), (4, (.ptr 4 0)), (5, (.int .i64 v3)), (6, (.sl 4 ((a0.Services.drop v3.toNat).map Z3) false))], [(2, (.box (Z4 a0).cells)), (3, (.box (Z3 a1).cells)), (4, (.box [(.sl 4 [] false), (.sl 5 [] false)]))]⟩) ⟨rfl, rfl, rfl, rfl, rfl, trivial⟩ ⟨rfl, rfl, rfl, trivial⟩ (J9 (a0.Services.drop v3.toNat) h)
  ·have h := hif.2 hc
   refine Z12 4 I I I I I I I <| Z12 5 I I I I I I I <| Z12 6 I I I I I I I <| Z12 7 I I I I I I I <| Z12 8 I I I I I I I <| Z12 9 I I I I I I I <| Z12 10 I I I I I I I <| Zb 11 I (Z2u (v := (.bool false)) I I I) ?_
   refine AOpsD.nil (by kernel_rfl) I <| Zh ?_
   refine Z16 (b := false) I (fun hc => ?_) (fun hc => ?_)
   ·cases hc
   refine Z1b <| Zh <| Zj <| Z1r mixed <| Zb 0 I (Z1m (vs := []) (enc := Z3) (l := ([] : List Zg)) I el41 I I trivial I Z1q I I I I) <| Zb 1 I (Zr (m := 2) (o := 0) I Z3v I I) <| Zb 2 I (Zt (cs := (Z4 a0).cells) (v := (.sl 4 (a0.Services.map Z3) false)) I o41 I I I) <| Zb 3 I (Zo (v := (.int .i64 v3)) I I) ?_
   have ⟨hg15, h⟩ := Z13 h
   refine Zb 4 I (Z80 (l := a0.Services) (enc := Z3) (kh := .i64) (hi := v3) I s41 I I hg15) ?_
   have ⟨hg16, h⟩ := Z13 h
   refine Zb 5 I (Z2p (m := 43) (enc := Z3) (l := ([] : List Zg)) (l' := (a0.Services.take v3.toNat)) (src := (.sl 4 ((a0.Services.take v3.toNat).map Z3) false)) (rd := []) I I el41 I u41 I I I ⟨rfl, rfl, rfl⟩ noReads Z1q hg16) <| Zb 6 I (Z1l (cs := (Z3 a1).cells) (vs := (Z3 a1).cells) I a68 I I I I) <| Zb 7 I (Z1m (vs := [(Z3 a1)]) (enc := Z3) (l := [a1]) I el41 I I ⟨rfl, trivial⟩ I Z1q I I I I) ?_
   have ⟨hg17, h⟩ := Z13 h
   refine Zb 8 I (Z2p (m := 43) (enc := Z3) (l := (a0.Services.take v3.toNat)) (l' := [a1]) (src := (.vs 50)) (rd := [(50, (.vec 4 (List.map Z3 [a1])))]) I I el41 I u41 I I I I (oneRead I) Z1q hg17) <| Zb 9 I (Zo (v := (.sl 4 ((a0.Services.drop v3.toNat).map Z3) false)) I I) ?_
   have ⟨hg18, h⟩ := Z13 h
   refine Zb 10 I (Z2p (m := 43) (enc := Z3) (l := ((a0.Services.take v3.toNat) ++ [a1])) (l' := (a0.Services.drop v3.toNat)) (src := (.sl 4 ((a0.Services.drop v3.toNat).map Z3) false)) (rd := []) I I el41 I u41 I I I ⟨rfl, rfl, rfl⟩ noReads Z1q hg18) <| Zb 11 I (Zr (m := 2) (o := 0) I Z3v I I) <| Zb 12 I (Z1e (cs := (Z4 a0).cells) (vs := [(.vs 43)]) (ds := [(.vs 43), (.sl 5 (a0.Calls.map Z5) false)]) (v := (.vs 43)) sz41 I I I I I I I I) <| AOpsD.nil (by kernel_rfl) I <| Zh <| Zj <| Zf <| Z2 I (Z1l (cs := [(.vs 43), (.sl 5 (a0.Calls.map Z5) false)]) (vs := [(.vs 43), (.sl 5 (a0.Calls.map Z5) false)]) I a44 I I I I) I ?_
   refine Z2 I (Z1e (cs := [(.sl 4 [] false), (.sl 5 [] false)]) (vs := [(.vs 43), (.sl 5 (a0.Calls.map Z5) false)]) (ds := [(.vs 43), (.sl 5 (a0.Calls.map Z5) false)]) (v := (.ag [(.vs 43), (.sl 5 (a0.Calls.map Z5) false)])) Zau I I I I I I I I) I <| Zi <| Zh <| Z1g <| At.ghost (st' := ⟨[(4, (.ptr 4 0))], [(4, (.box [(.sl 4 ((((a0.Services.take v3.toNat) ++ [a1]) ++ (a0.Services.drop v3.toNat)).map Z3) false), (.sl 5 (a0.Calls.map Z5) false)]))]⟩) (fun a w h => (Z17 ⟨[(4, (.ptr 4 0))], [(4, (.box [(.sl 4 ((((a0.Services.take v3.toNat) ++ [a1]) ++ (a0.Services.drop v3.toNat)).map Z3) false), (.sl 5 (a0.Calls.map Z5) false)]))]⟩ (Z29 (m := 43) (sz := 4) (es := (List.map Z3 (((a0.Services.take v3.toNat) ++ [a1]) ++ (a0.Services.drop v3.toNat)))) a w (Z17 ⟨[(4, (.ptr 4 0))], [(43, (.vec 4 (List.map Z3 (((a0.Services.take v3.toNat) ++ [a1]) ++ (a0.Services.drop v3.toNat))))), (4, (.box [(.vs 43), (.sl 5 (a0.Calls.map Z5) false)]))]⟩ h ⟨rfl, trivial⟩ ⟨rfl, rfl, trivial⟩)) ⟨rfl, trivial⟩ ⟨rfl, trivial⟩)) ?_
   have h := Option.some.inj h
   subst h
   refine (hret _ ?_).1
   exact ⟨[(.ag [(.sl 4 ((((a0.Services.take v3.toNat) ++ [a1]) ++ (a0.Services.drop v3.toNat)).map Z3) false), (.sl 5 (a0.Calls.map Z5) false)])], ⟨⟨4, _, rfl, rfl, .inr ⟨_, a44, rfl, rfl⟩⟩, trivial⟩, rfl, trivial⟩
 ·intro N k2 v h IH2 J2
  revert h
  revert v
  intro v1 h
  try dsimp only at h IH2 J2 ⊢
  cases k2 with
  | zero => cases h
  | succ k2 =>
   rw [Z8d] at h
   refine Zj <| Zj <| Z1r mixed <| Zb 0 I (Zo (v := (.int .i64 v1)) I I) <| Zb 1 I (Zr (m := 2) (o := 0) I Z3v I I) <| Zb 2 I (Zt (cs := (Z4 a0).cells) (v := (.sl 4 (a0.Services.map Z3) false)) I o41 I I I) <| Zb 3 I (Z24 (l := a0.Services) (enc := Z3) I s41 I) <| Zb 4 I (Z25 (k := .i64) (a := v1) (b := (a0.Services.length : Int)) (c := (decide (v1 < (a0.Services.length : Int)))) I I I I) ?_
   refine Zb 5 I (Zo (v := (.bool (decide (v1 < (a0.Services.length : Int))))) I I) ?_
   have hif := Z28 h
   refine AOpsD.split (fun hc => ?_) (fun hc => ?_)
   ·have h := hif.1 hc
    refine Z14 6 I I I I (Zr (m := 2) (o := 0) I Z3v I I) <| Z14 7 I I I I (Zt (cs := (Z4 a0).cells) (v := (.sl 4 (a0.Services.map Z3) false)) I o41 I I I) <| Z14 8 I I I I (Zo (v := (.int .i64 v1)) I I) ?_
    have ⟨hg20, h⟩ := Z13 h
    refine Z14 9 I I I I (Z1w (k := .i64) (l := a0.Services) (enc := Z3) (z := Z9) (n := v1) (cs := (Z3 (a0.Services.getD v1.toNat Z9)).cells) (full := false) I s41 I I hg20 I) <| Z14 10 I I I I (Z2n (cs := (Z3 (a0.Services.getD v1.toNat Z9)).cells) (ds := (Z3 (a0.Services.getD v1.toNat Z9)).cells) I Z6s I I I) <| Z14 11 I I I I (Z2f (cs := (Z3 (a0.Services.getD v1.toNat Z9)).cells) (v := (.str (a0.Services.getD v1.toNat Z9).Name)) I o9 I I) <| Z14 12 I I I I (Zr (m := 3) (o := 0) I Z6s I I) <| Z14 13 I I I I (Zt (cs := (Z3 a1).cells) (v := (.str a1.Name)) I o9 I I I) <| Z14 14 I I I I (Z3c (a := (a0.Services.getD v1.toNat Z9).Name) (b := a1.Name) (c := (slt (a0.Services.getD v1.toNat Z9).Name a1.Name)) I I I I) <| Zb 15 I (Z2w (v := (.bool (slt (a0.Services.getD v1.toNat Z9).Name a1.Name))) I I I) <| AOpsD.nil (by kernel_rfl) I ?_
    refine Zh ?_
    have hif := Z28 h
    refine Z16 I (fun hc => ?_) (fun hc => ?_)
    ·have h := hif.1 hc
     refine Z1b <| Zh <| AWp.block <| Zf <| Z2 I (Zo (v := (.int .i64 v1)) I I) I <| Z2 I (Z1u (k := .i64) (a := v1) (b := 1) (c := (IntKind.i64.wrap (v1 + 1))) I I I I) I <| Z2 I (Zp (v := (.int .i64 (IntKind.i64.wrap (v1 + 1)))) I I) I <| Zi ?_
     refine At.end ?_
     exact Zy (st' := ⟨[(2, (.ptr 2 0)), (3, (.ptr 3 0)), (4, (.ptr 4 0)), (5, (.int .i64 (IntKind.i64.wrap (v1 + 1))))], [(2, (.box (Z4 a0).cells)), (3, (.box (Z3 a1).cells)), (4, (.box [(.sl 4 [] false), (.sl 5 [] false)]))]⟩) ⟨rfl, rfl, rfl, rfl, trivial⟩ ⟨rfl, rfl, rfl, trivial⟩ (IH2 _ (IntKind.i64.wrap (v1 + 1)) (Nat.lt_succ_self _) h)
    ·have h := hif.2 hc
     refine AWp.exit <| At.thru ?_
     exact Zy (st' := ⟨[(2, (.ptr 2 0)), (3, (.ptr 3 0)), (4, (.ptr 4 0)), (5, (.int .i64 v1))], [(2, (.box (Z4 a0).cells)), (3, (.box (Z3 a1).cells)), (4, (.box [(.sl 4 [] false), (.sl 5 [] false)]))]⟩) ⟨rfl, rfl, rfl, rfl, trivial⟩ ⟨rfl, rfl, rfl, trivial⟩ (J2 v1 h)
   ·have h := hif.2 hc
    refine Z12 6 I I I I I I I <| Z12 7 I I I I I I I <| Z12 8 I I I I I I I <| Z12 9 I I I I I I I <| Z12 10 I I I I I I I <| Z12 11 I I I I I I I <| Z12 12 I I I I I I I <| Z12 13 I I I I I I I ?_
    refine Z12 14 I I I I I I I <| Zb 15 I (Z2u (v := (.bool false)) I I I) <| AOpsD.nil (by kernel_rfl) I <| Zh ?_
    refine Z16 (b := false) I (fun hc => ?_) (fun hc => ?_)
    ·cases hc
    refine AWp.exit <| At.thru ?_
    exact Zy (st' := ⟨[(2, (.ptr 2 0)), (3, (.ptr 3 0)), (4, (.ptr 4 0)), (5, (.int .i64 v1))], [(2, (.box (Z4 a0).cells)), (3, (.box (Z3 a1).cells)), (4, (.box [(.sl 4 [] false), (.sl 5 [] false)]))]⟩) ⟨rfl, rfl, rfl, rfl, trivial⟩ ⟨rfl, rfl, rfl, trivial⟩ (J2 v1 h)
def Z9q (K : Nat) (a1 : Str) (a2 : Str) : Option (Zk) :=
 some (⟨a1, a2, 0, 0, 0⟩ : Zk)
def F54_j6 (K : Nat) (b5 : Int → Option (Zk)) (v1 : Int) : Option (Zk) :=
 b5 (IntKind.i64.wrap (v1 + 1))
def Z6u (K : Nat) (a0 : Zc) (a1 : Str) (a2 : Str) (c4 : Option (Zk)) : Nat → Int → Option (Zk)
 | 0, _ => none
 | k2 + 1, v1 =>
  if (decide (v1 < (a0.Calls.length : Int))) = true then
   if (0 : Int) ≤ v1 ∧ v1 < a0.Calls.length then
    if ((a0.Calls.getD v1.toNat Z6).Caller == a1) = true then
     if (0 : Int) ≤ v1 ∧ v1 < a0.Calls.length then
      if ((a0.Calls.getD v1.toNat Z6).Callee == a2) = true then
       if (0 : Int) ≤ v1 ∧ v1 < a0.Calls.length then
        some (a0.Calls.getD v1.toNat Z6)
       else none
      else
       F54_j6 K (Z6u K a0 a1 a2 c4 k2) v1
     else none
    else
     F54_j6 K (Z6u K a0 a1 a2 c4 k2) v1
   else none
  else
   c4
def F54 (K : Nat) (a0 : Zc) (a1 : Str) (a2 : Str) : Option (Zk) :=
 Z6u K a0 a1 a2 (Z9q K a1 a2) K 0
theorem F54_ok (K : Nat) (a0 : Zc) (a1 : Str) (a2 : Str) (r : Zk) (h : F54 K a0 a1 a2 = some r) : ACall P 54 ⟨[(Z4 a0), (.str a1), (.str a2)], [], (Z5 r), [], []⟩ := by
 refine Z1s Tryz.func54 Tryz.results54 rfl Tryz.ntmps54 rfl rfl rfl ?_
 intro E Q hP hN hro hret
 obtain ⟨P', nt', w0, F0, p0, S0, β0, ro0⟩ := E
 simp only at hP hN
 subst hP hN
 dsimp only [argT]
 unfold F54 at h
 refine Zj <| Zf <| Z2 I (Z2m (v := (Z4 a0)) (cs := (Z4 a0).cells) I I I I I) I <| Z2 I (Z1v (cs := [(.str []), (.str []), (.int .i64 0), (.int .i64 0), (.int .i64 0)]) I z88 I I I) I <| Zi <| Zh <| Zj <| Zj ?_
 refine Zf <| Z2 I (Zp (v := (.int .i64 0)) I I) I <| Zi <| Zh <| AWp.weaken (st' := ⟨[(1, (.str a1)), (2, (.str a2)), (3, (.ptr 3 0)), (6, (.ptr 6 0)), (7, (.int .i64 0))], [(3, (.box (Z4 a0).cells)), (6, (.box [(.str []), (.str []), (.int .i64 0), (.int .i64 0), (.int .i64 0)]))]⟩) ⟨rfl, rfl, rfl, rfl, rfl, trivial⟩ ⟨rfl, rfl, trivial⟩ ?_
 refine Z1n (V := Int) (X := Unit) (lp := fun k v => Z6u K a0 a1 a2 (Z9q K a1 a2) k v = some r) (sh := fun v => ⟨[(1, (.str a1)), (2, (.str a2)), (3, (.ptr 3 0)), (6, (.ptr 6 0)), (7, (.int .i64 v))], [(3, (.box (Z4 a0).cells)), (6, (.box [(.str []), (.str []), (.int .i64 0), (.int .i64 0), (.int .i64 0)]))]⟩) (x := fun v => Z9q K a1 a2 = some r) (shx := fun v => ⟨[(1, (.str a1)), (2, (.str a2)), (6, (.ptr 6 0))], [(6, (.box [(.str []), (.str []), (.int .i64 0), (.int .i64 0), (.int .i64 0)]))]⟩) (k := K) (v := 0) h ?_ ?_
 ·intro v h
  try dsimp only at h ⊢
  unfold Z9q at h
  refine Zh <| Zj <| Zf <| Z2 I (Zo (v := (.str a1)) I I) I <| Z2 I (Zo (v := (.str a2)) I I) I <| Z2 I (Z27 (vs := [(0, (.str a1)), (1, (.str a2))]) (cs := [(.str a1), (.str a2), (.int .i64 0), (.int .i64 0), (.int .i64 0)]) I st88 ⟨rfl, rfl, rfl, rfl, trivial⟩ I) I <| Z2 I (Z1e (cs := [(.str []), (.str []), (.int .i64 0), (.int .i64 0), (.int .i64 0)]) (vs := [(.str a1), (.str a2), (.int .i64 0), (.int .i64 0), (.int .i64 0)]) (ds := [(.str a1), (.str a2), (.int .i64 0), (.int .i64 0), (.int .i64 0)]) (v := (.ag [(.str a1), (.str a2), (.int .i64 0), (.int .i64 0), (.int .i64 0)])) sz88 I I I I I I I I) I <| Zi ?_
  refine Zh <| Z1g ?_
  have h := Option.some.inj h
  subst h
  refine (hret _ ?_).1
  exact ⟨[(.ag [(.str a1), (.str a2), (.int .i64 0), (.int .i64 0), (.int .i64 0)])], ⟨⟨6, _, rfl, rfl, .inr ⟨_, a88, rfl, rfl⟩⟩, trivial⟩, rfl, trivial⟩
 ·intro N k2 v h IH2 J2
  revert h
  revert v
  intro v1 h
  try dsimp only at h IH2 J2 ⊢
  cases k2 with
  | zero => cases h
  | succ k2 =>
   rw [Z6u] at h
   refine Zj <| Zj <| Zf <| Z2 I (Zo (v := (.int .i64 v1)) I I) I <| Z2 I (Zr (m := 3) (o := 0) I Z3i I I) I <| Z2 I (Zt (cs := (Z4 a0).cells) (v := (.sl 5 (a0.Calls.map Z5) false)) I o42 I I I) I <| Z2 I (Z24 (l := a0.Calls) (enc := Z5) I s42 I) I <| Z2 I (Z25 (k := .i64) (a := v1) (b := (a0.Calls.length : Int)) (c := (decide (v1 < (a0.Calls.length : Int)))) I I I I) I ?_
   refine Zi <| Zh ?_
   have hif := Z28 h
   refine Z16 I (fun hc => ?_) (fun hc => ?_)
   ·have h := hif.1 hc
    refine Z1b <| Zh <| Zj ?_
    refine AWp.blockJoin (V := Unit) (lp := fun v => F54_j6 K (Z6u K a0 a1 a2 (Z9q K a1 a2) k2) v1 = some r) (sh := fun v => ⟨[(1, (.str a1)), (2, (.str a2)), (3, (.ptr 3 0)), (6, (.ptr 6 0)), (7, (.int .i64 v1))], [(3, (.box (Z4 a0).cells)), (6, (.box [(.str []), (.str []), (.int .i64 0), (.int .i64 0), (.int .i64 0)]))]⟩) ?_ ?_
    ·intro v h
     try dsimp only at h ⊢
     unfold F54_j6 at h
     refine Zh <| Zf <| Z2 I (Zo (v := (.int .i64 v1)) I I) I <| Z2 I (Z1u (k := .i64) (a := v1) (b := 1) (c := (IntKind.i64.wrap (v1 + 1))) I I I I) I <| Z2 I (Zp (v := (.int .i64 (IntKind.i64.wrap (v1 + 1)))) I I) I <| Zi ?_
     exact Zy (st' := ⟨[(1, (.str a1)), (2, (.str a2)), (3, (.ptr 3 0)), (6, (.ptr 6 0)), (7, (.int .i64 (IntKind.i64.wrap (v1 + 1))))], [(3, (.box (Z4 a0).cells)), (6, (.box [(.str []), (.str []), (.int .i64 0), (.int .i64 0), (.int .i64 0)]))]⟩) ⟨rfl, rfl, rfl, rfl, rfl, trivial⟩ ⟨rfl, rfl, trivial⟩ (IH2 _ (IntKind.i64.wrap (v1 + 1)) (Nat.lt_succ_self _) h)
    ·intro J6
     refine Zj <| Zf <| Z2 I (Zr (m := 3) (o := 0) I Z3i I I) I <| Z2 I (Zt (cs := (Z4 a0).cells) (v := (.sl 5 (a0.Calls.map Z5) false)) I o42 I I I) I <| Z2 I (Zo (v := (.int .i64 v1)) I I) I ?_
     have ⟨hg7, h⟩ := Z13 h
     refine Z2 I (Z1w (k := .i64) (l := a0.Calls) (enc := Z5) (z := Z6) (n := v1) (cs := (Z5 (a0.Calls.getD v1.toNat Z6)).cells) (full := false) I s42 I I hg7 I) I <| Z2 I (Z2n (cs := (Z5 (a0.Calls.getD v1.toNat Z6)).cells) (ds := (Z5 (a0.Calls.getD v1.toNat Z6)).cells) I Z7d I I I) I <| Z2 I (Z2f (cs := (Z5 (a0.Calls.getD v1.toNat Z6)).cells) (v := (.str (a0.Calls.getD v1.toNat Z6).Caller)) I o9 I I) I <| Z2 I (Zo (v := (.str a1)) I I) I <| Z2 I (Z3c (a := (a0.Calls.getD v1.toNat Z6).Caller) (b := a1) (c := ((a0.Calls.getD v1.toNat Z6).Caller == a1)) I I I I) I <| Z2 I (Zo (v := (.bool ((a0.Calls.getD v1.toNat Z6).Caller == a1))) I I) I ?_
     have hif := Z28 h
     refine AOps.split (fun hc => ?_) (fun hc => ?_)
     ·have h := hif.1 hc
      refine Z1j I I I I (Zr (m := 3) (o := 0) I Z3i I I) I <| Z1j I I I I (Zt (cs := (Z4 a0).cells) (v := (.sl 5 (a0.Calls.map Z5) false)) I o42 I I I) I <| Z1j I I I I (Zo (v := (.int .i64 v1)) I I) I ?_
      have ⟨hg8, h⟩ := Z13 h
      refine Z1j I I I I (Z1w (k := .i64) (l := a0.Calls) (enc := Z5) (z := Z6) (n := v1) (cs := (Z5 (a0.Calls.getD v1.toNat Z6)).cells) (full := false) I s42 I I hg8 I) I <| Z1j I I I I (Z2n (cs := (Z5 (a0.Calls.getD v1.toNat Z6)).cells) (ds := [(.str (a0.Calls.getD v1.toNat Z6).Callee), (.int .i64 (a0.Calls.getD v1.toNat Z6).Count), (.int .i64 (a0.Calls.getD v1.toNat Z6).Errors), (.int .i64 (a0.Calls.getD v1.toNat Z6).Time)]) I Z7g I I I) I <| Z1j I I I I (Z2f (cs := [(.str (a0.Calls.getD v1.toNat Z6).Callee), (.int .i64 (a0.Calls.getD v1.toNat Z6).Count), (.int .i64 (a0.Calls.getD v1.toNat Z6).Errors), (.int .i64 (a0.Calls.getD v1.toNat Z6).Time)]) (v := (.str (a0.Calls.getD v1.toNat Z6).Callee)) I o9 I I) I <| Z1j I I I I (Zo (v := (.str a2)) I I) I <| Z1j I I I I (Z3c (a := (a0.Calls.getD v1.toNat Z6).Callee) (b := a2) (c := ((a0.Calls.getD v1.toNat Z6).Callee == a2)) I I I I) I <| Z2 I (Z2w (v := (.bool ((a0.Calls.getD v1.toNat Z6).Callee == a2))) I I I) I <| Zi <| Zh ?_
      have hif := Z28 h
      refine Z16 I (fun hc => ?_) (fun hc => ?_)
      ·have h := hif.1 hc
       refine Zj <| Zf <| Z2 I (Zr (m := 3) (o := 0) I Z3i I I) I <| Z2 I (Zt (cs := (Z4 a0).cells) (v := (.sl 5 (a0.Calls.map Z5) false)) I o42 I I I) I <| Z2 I (Zo (v := (.int .i64 v1)) I I) I ?_
       have ⟨hg9, h⟩ := Z13 h
       refine Z2 I (Z1w (k := .i64) (l := a0.Calls) (enc := Z5) (z := Z6) (n := v1) (cs := (Z5 (a0.Calls.getD v1.toNat Z6)).cells) (full := false) I s42 I I hg9 I) I <| Z2 I (Z2i (cs := (Z5 (a0.Calls.getD v1.toNat Z6)).cells) (vs := (Z5 (a0.Calls.getD v1.toNat Z6)).cells) I a88 I I I) I <| Z2 I (Z1e (cs := [(.str []), (.str []), (.int .i64 0), (.int .i64 0), (.int .i64 0)]) (vs := (Z5 (a0.Calls.getD v1.toNat Z6)).cells) (ds := (Z5 (a0.Calls.getD v1.toNat Z6)).cells) (v := (Z5 (a0.Calls.getD v1.toNat Z6))) sz88 I I I I I I I I) I <| Zi <| Zh <| Z1g <| At.overR <| Z1k ?_
       refine Z1k (At.overR ?_)
       refine Z1k ?_
       have h := Option.some.inj h
       subst h
       refine (hret _ ?_).1
       exact ⟨[(Z5 (a0.Calls.getD v1.toNat Z6))], ⟨⟨6, _, rfl, rfl, .inr ⟨_, a88, rfl, rfl⟩⟩, trivial⟩, rfl, trivial⟩
      ·have h := hif.2 hc
       refine Z1b <| At.end ?_
       exact Zy (st' := ⟨[(1, (.str a1)), (2, (.str a2)), (3, (.ptr 3 0)), (6, (.ptr 6 0)), (7, (.int .i64 v1))], [(3, (.box (Z4 a0).cells)), (6, (.box [(.str []), (.str []), (.int .i64 0), (.int .i64 0), (.int .i64 0)]))]⟩) ⟨rfl, rfl, rfl, rfl, rfl, trivial⟩ ⟨rfl, rfl, trivial⟩ (J6 () h)
     ·have h := hif.2 hc
      refine Z1d I I I I I I I <| Z1d I I I I I I I <| Z1d I I I I I I I <| Z1d I I I I I I I <| Z1d I I I I I I I <| Z1d I I I I I I I <| Z1d I I I I I I I <| Z1d I I I I I I I ?_
      refine Z2 I (Z2u (v := (.bool false)) I I I) I <| Zi <| Zh ?_
      refine Z16 (b := false) I (fun hc => ?_) (fun hc => ?_)
      ·cases hc
      refine Z1b <| At.end ?_
      exact Zy (st' := ⟨[(1, (.str a1)), (2, (.str a2)), (3, (.ptr 3 0)), (6, (.ptr 6 0)), (7, (.int .i64 v1))], [(3, (.box (Z4 a0).cells)), (6, (.box [(.str []), (.str []), (.int .i64 0), (.int .i64 0), (.int .i64 0)]))]⟩) ⟨rfl, rfl, rfl, rfl, rfl, trivial⟩ ⟨rfl, rfl, trivial⟩ (J6 () h)
   ·have h := hif.2 hc
    refine AWp.exit <| At.thru ?_
    exact Zy (st' := ⟨[(1, (.str a1)), (2, (.str a2)), (6, (.ptr 6 0))], [(6, (.box [(.str []), (.str []), (.int .i64 0), (.int .i64 0), (.int .i64 0)]))]⟩) ⟨rfl, rfl, rfl, trivial⟩ ⟨rfl, trivial⟩ (J2 () h)
def Z8h (K : Nat) (v1 : Bool) : Option (Bool) :=
 some v1
def F71 (K : Nat) (a0 : Str) (a1 : Str) (a2 : Str) (a3 : Str) : Option (Bool) :=
 if (slt a0 a2) = true then
  Z8h K true
 else
  if (a0 == a2) = true then
   Z8h K (slt a1 a3)
  else
   Z8h K false
theorem F71_ok (K : Nat) (a0 : Str) (a1 : Str) (a2 : Str) (a3 : Str) (r : Bool) (h : F71 K a0 a1 a2 a3 = some r) : ACall P 71 ⟨[(.str a0), (.str a1), (.str a2), (.str a3)], [], (.bool r), [], []⟩ := by
 refine Z1s Tryz.func71 Tryz.results71 rfl Tryz.ntmps71 rfl rfl rfl ?_
 intro E Q hP hN hro hret
 obtain ⟨P', nt', w0, F0, p0, S0, β0, ro0⟩ := E
 simp only at hP hN
 subst hP hN
 dsimp only [argT]
 unfold F71 at h
 refine Zj <| Zf <| Z2 I (Zp (v := (.bool false)) I I) I <| Zi <| Zh <| Zj ?_
 refine AWp.join (V := Bool) (lp := fun v => Z8h K v = some r) (sh := fun v => ⟨[(8, (.bool v))], []⟩) ?_ ?_
 ·intro v h
  revert h
  revert v
  intro v1 h
  try dsimp only at h ⊢
  unfold Z8h at h
  refine Zh <| Z1g ?_
  have h := Option.some.inj h
  subst h
  refine (hret _ ?_).1
  exact ⟨[(.bool v1)], ⟨rfl, trivial⟩, rfl, trivial⟩
 ·intro J2
  refine Zf <| Z2 I (Zo (v := (.str a0)) I I) I <| Z2 I (Zo (v := (.str a2)) I I) I <| Z2 I (Z3c (a := a0) (b := a2) (c := (slt a0 a2)) I I I I) I <| Z2 I (Zo (v := (.bool (slt a0 a2))) I I) I ?_
  have hif := Z28 h
  refine AOps.split (fun hc => ?_) (fun hc => ?_)
  ·have h := hif.1 hc
   refine Z1d I I I I I I I <| Z1d I I I I I I I <| Z1d I I I I I I I <| Z1d I I I I I I I <| Z1d (u := .tup []) I I I I I I I <| Z1d (u := .tup []) I I I I I I I <| Z1d (u := .tup []) I I I I I I I <| Z1d I I I I I I I ?_
   refine Z2 I (Z2w (v := (.bool true)) I I I) I <| Z2 I (Zp (v := (.bool true)) I I) I <| Zi ?_
   exact Zy (st' := ⟨[(8, (.bool true))], []⟩) ⟨rfl, trivial⟩ trivial (J2 true h)
  ·have h := hif.2 hc
   refine Z1j I I I I (Zo (v := (.str a0)) I I) I <| Z1j I I I I (Zo (v := (.str a2)) I I) I <| Z1j I I I I (Z3c (a := a0) (b := a2) (c := (a0 == a2)) I I I I) I <| Z1j I I I I (Zo (v := (.bool (a0 == a2))) I I) I ?_
   have hif := Z28 h
   refine AOps.split (fun hc => ?_) (fun hc => ?_)
   ·have h := hif.1 hc
    refine Z1j I I I I (Zo (v := (.str a1)) I I) I <| Z1j I I I I (Zo (v := (.str a3)) I I) I <| Z1j I I I I (Z3c (a := a1) (b := a3) (c := (slt a1 a3)) I I I I) I <| Z1j I I I I (Z2w (v := (.bool (slt a1 a3))) I I I) I <| Z2 I (Z2u (v := (.bool (slt a1 a3))) I I I) I <| Z2 I (Zp (v := (.bool (slt a1 a3))) I I) I <| Zi ?_
    exact Zy (st' := ⟨[(8, (.bool (slt a1 a3)))], []⟩) ⟨rfl, trivial⟩ trivial (J2 (slt a1 a3) h)
   ·have h := hif.2 hc
    refine Z1d I I I I I I I <| Z1d I I I I I I I <| Z1d I I I I I I I <| Z1j I I I I (Z2u (v := (.bool false)) I I I) I <| Z2 I (Z2u (v := (.bool false)) I I I) I <| Z2 I (Zp (v := (.bool false)) I I) I <| Zi ?_
    exact Zy (st' := ⟨[(8, (.bool false))], []⟩) ⟨rfl, trivial⟩ trivial (J2 false h)
def Z81 (K : Nat) (v3 : Int) (a0 : Zc) (a1 : Zk) (v9 : (List Zk)) : Option (Zc) :=
 if (0 : Int) ≤ 0 ∧ 0 ≤ v3 ∧ v3 ≤ a0.Calls.length then
  if ([] : List Zk).length + (a0.Calls.take v3.toNat).length ≤ 1073741824 then
   if (a0.Calls.take v3.toNat).length + [a1].length ≤ 1073741824 then
    if ((a0.Calls.take v3.toNat) ++ [a1]).length + v9.length ≤ 1073741824 then
     some (⟨a0.Services, (((a0.Calls.take v3.toNat) ++ [a1]) ++ v9)⟩ : Zc)
    else none
   else none
  else none
 else none
def Z6i (K : Nat) (a0 : Zc) (v3 : Int) (a1 : Zk) (v7 : Bool) : Option (Zc) :=
 if v7 = true then
  if (0 : Int) ≤ 1 ∧ 1 ≤ ((a0.Calls.drop v3.toNat).length : Int) ∧ ((a0.Calls.drop v3.toNat).length : Int) ≤ (a0.Calls.drop v3.toNat).length then
   Z81 K v3 a0 a1 ((a0.Calls.drop v3.toNat).drop (1 : Int).toNat)
  else none
 else
  Z81 K v3 a0 a1 (a0.Calls.drop v3.toNat)
def Z9u (K : Nat) (a0 : Zc) (a1 : Zk) (v3 : Int) : Option (Zc) :=
 if (0 : Int) ≤ v3 ∧ v3 ≤ (a0.Calls.length : Int) ∧ (a0.Calls.length : Int) ≤ a0.Calls.length then
  if (decide (((a0.Calls.drop v3.toNat).length : Int) > 0)) = true then
   if (0 : Int) ≤ 0 ∧ (0 : Int) < (a0.Calls.drop v3.toNat).length then
    if (((a0.Calls.drop v3.toNat).getD (0 : Int).toNat Z6).Caller == a1.Caller) = true then
     if (0 : Int) ≤ 0 ∧ (0 : Int) < (a0.Calls.drop v3.toNat).length then
      Z6i K a0 v3 a1 (((a0.Calls.drop v3.toNat).getD (0 : Int).toNat Z6).Callee == a1.Callee)
     else none
    else
     Z6i K a0 v3 a1 false
   else none
  else
   Z6i K a0 v3 a1 false
 else none
def Z8c (K : Nat) (a0 : Zc) (a1 : Zk) (c5 : Int → Option (Zc)) : Nat → Int → Option (Zc)
 | 0, _ => none
 | k2 + 1, v1 =>
  if (decide (v1 < (a0.Calls.length : Int))) = true then
   if (0 : Int) ≤ v1 ∧ v1 < a0.Calls.length then
    if (0 : Int) ≤ v1 ∧ v1 < a0.Calls.length then
     (F71 K (a0.Calls.getD v1.toNat Z6).Caller (a0.Calls.getD v1.toNat Z6).Callee a1.Caller a1.Callee).bind fun v22 =>
      if v22 = true then
       (Z8c K a0 a1 c5 k2) (IntKind.i64.wrap (v1 + 1))
      else
       c5 v1
    else none
   else none
  else
   c5 v1
def F55 (K : Nat) (a0 : Zc) (a1 : Zk) : Option (Zc) :=
 Z8c K a0 a1 (Z9u K a0 a1) K 0
theorem F55_ok (K : Nat) (a0 : Zc) (a1 : Zk) (r : Zc) (h : F55 K a0 a1 = some r) : ACall P 55 ⟨[(Z4 a0), (Z5 a1)], [], (Z4 r), [], []⟩ := by
 refine Z1s Tryz.func55 Tryz.results55 rfl Tryz.ntmps55 rfl rfl rfl ?_
 intro E Q hP hN hro hret
 obtain ⟨P', nt', w0, F0, p0, S0, β0, ro0⟩ := E
 simp only at hP hN
 subst hP hN
 dsimp only [argT]
 unfold F55 at h
 refine Zj <| Zf <| Z2 I (Z2m (v := (Z4 a0)) (cs := (Z4 a0).cells) I I I I I) I <| Z2 I (Z2m (v := (Z5 a1)) (cs := (Z5 a1).cells) I I I I I) I <| Z2 I (Z1v (cs := [(.sl 4 [] false), (.sl 5 [] false)]) I z44 I I I) I <| Zi <| Zh <| Zj ?_
 refine Zf <| Z2 I (Zp (v := (.int .i64 0)) I I) I <| Zi <| Zh <| Zj <| AWp.weaken (st' := ⟨[(2, (.ptr 2 0)), (3, (.ptr 3 0)), (4, (.ptr 4 0)), (5, (.int .i64 0))], [(2, (.box (Z4 a0).cells)), (3, (.box (Z5 a1).cells)), (4, (.box [(.sl 4 [] false), (.sl 5 [] false)]))]⟩) ⟨rfl, rfl, rfl, rfl, trivial⟩ ⟨rfl, rfl, rfl, trivial⟩ ?_
 refine Z1n (V := Int) (X := Int) (lp := fun k v => Z8c K a0 a1 (Z9u K a0 a1) k v = some r) (sh := fun v => ⟨[(2, (.ptr 2 0)), (3, (.ptr 3 0)), (4, (.ptr 4 0)), (5, (.int .i64 v))], [(2, (.box (Z4 a0).cells)), (3, (.box (Z5 a1).cells)), (4, (.box [(.sl 4 [] false), (.sl 5 [] false)]))]⟩) (x := fun v => Z9u K a0 a1 v = some r) (shx := fun v => ⟨[(2, (.ptr 2 0)), (3, (.ptr 3 0)), (4, (.ptr 4 0)), (5, (.int .i64 v))], [(2, (.box (Z4 a0).cells)), (3, (.box (Z5 a1).cells)), (4, (.box [(.sl 4 [] false), (.sl 5 [] false)]))]⟩) (k := K) (v := 0) h ?_ ?_
 ·intro v h
  revert h
  revert v
  intro v3 h
  try dsimp only at h ⊢
  unfold Z9u at h
  refine Zh <| Zj <| Zf <| Z2 I (Zr (m := 2) (o := 0) I Z3i I I) I <| Z2 I (Zt (cs := (Z4 a0).cells) (v := (.sl 5 (a0.Calls.map Z5) false)) I o42 I I I) I <| Z2 I (Zo (v := (.int .i64 v3)) I I) I ?_
  have ⟨hg6, h⟩ := Z13 h
  refine Z2 I (Z64 (l := a0.Calls) (enc := Z5) (kl := .i64) (lo := v3) I s42 I I hg6) I <| Z2 I (Zp (v := (.sl 5 ((a0.Calls.drop v3.toNat).map Z5) false)) I I) I <| Zi <| Zh <| Zj <| Zj ?_
  refine AWp.join (V := Bool) (lp := fun v => Z6i K a0 v3 a1 v = some r) (sh := fun v => ⟨[(2, (.ptr 2 0)), (3, (.ptr 3 0)), (4, (.ptr 4 0)), (5, (.int .i64 v3)), (6, (.sl 5 ((a0.Calls.drop v3.toNat).map Z5) false)), (57, (.bool v))], [(2, (.box (Z4 a0).cells)), (3, (.box (Z5 a1).cells)), (4, (.box [(.sl 4 [] false), (.sl 5 [] false)]))]⟩) ?_ ?_
  ·intro v h
   revert h
   revert v
   intro v7 h
   try dsimp only at h ⊢
   unfold Z6i at h
   refine Zh ?_
   refine AWp.join (V := (List Zk)) (lp := fun v => Z81 K v3 a0 a1 v = some r) (sh := fun v => ⟨[(2, (.ptr 2 0)), (3, (.ptr 3 0)), (4, (.ptr 4 0)), (5, (.int .i64 v3)), (6, (.sl 5 (v.map Z5) false))], [(2, (.box (Z4 a0).cells)), (3, (.box (Z5 a1).cells)), (4, (.box [(.sl 4 [] false), (.sl 5 [] false)]))]⟩) ?_ ?_
   ·intro v h
    revert h
    revert v
    intro v9 h
    try dsimp only at h ⊢
    unfold Z81 at h
    refine Zh <| Zj <| Z1r mixed <| Zb 0 I (Z1m (vs := []) (enc := Z5) (l := ([] : List Zk)) I el42 I I trivial I Z2b I I I I) <| Zb 1 I (Zr (m := 2) (o := 0) I Z3i I I) <| Zb 2 I (Zt (cs := (Z4 a0).cells) (v := (.sl 5 (a0.Calls.map Z5) false)) I o42 I I I) <| Zb 3 I (Zo (v := (.int .i64 v3)) I I) ?_
    have ⟨hg11, h⟩ := Z13 h
    refine Zb 4 I (Z80 (l := a0.Calls) (enc := Z5) (kh := .i64) (hi := v3) I s42 I I hg11) ?_
    have ⟨hg12, h⟩ := Z13 h
    refine Zb 5 I (Z2p (m := 60) (enc := Z5) (l := ([] : List Zk)) (l' := (a0.Calls.take v3.toNat)) (src := (.sl 5 ((a0.Calls.take v3.toNat).map Z5) false)) (rd := []) I I el42 I u42 I I I ⟨rfl, rfl, rfl⟩ noReads Z2b hg12) <| Zb 6 I (Z1l (cs := (Z5 a1).cells) (vs := (Z5 a1).cells) I a88 I I I I) <| Zb 7 I (Z1m (vs := [(Z5 a1)]) (enc := Z5) (l := [a1]) I el42 I I ⟨rfl, trivial⟩ I Z2b I I I I) ?_
    have ⟨hg13, h⟩ := Z13 h
    refine Zb 8 I (Z2p (m := 60) (enc := Z5) (l := (a0.Calls.take v3.toNat)) (l' := [a1]) (src := (.vs 67)) (rd := [(67, (.vec 5 (List.map Z5 [a1])))]) I I el42 I u42 I I I I (oneRead I) Z2b hg13) <| Zb 9 I (Zo (v := (.sl 5 (v9.map Z5) false)) I I) ?_
    have ⟨hg14, h⟩ := Z13 h
    refine Zb 10 I (Z2p (m := 60) (enc := Z5) (l := ((a0.Calls.take v3.toNat) ++ [a1])) (l' := v9) (src := (.sl 5 (v9.map Z5) false)) (rd := []) I I el42 I u42 I I I ⟨rfl, rfl, rfl⟩ noReads Z2b hg14) <| Zb 11 I (Zr (m := 2) (o := 0) I Z3i I I) <| Zb 12 I (Z1e (cs := (Z4 a0).cells) (vs := [(.vs 60)]) (ds := [(.sl 4 (a0.Services.map Z3) false), (.vs 60)]) (v := (.vs 60)) sz42 I I I I I I I I) <| AOpsD.nil (by kernel_rfl) I <| Zh <| Zj <| Zf <| Z2 I (Z1l (cs := [(.sl 4 (a0.Services.map Z3) false), (.vs 60)]) (vs := [(.sl 4 (a0.Services.map Z3) false), (.vs 60)]) I a44 I I I I) I ?_
    refine Z2 I (Z1e (cs := [(.sl 4 [] false), (.sl 5 [] false)]) (vs := [(.sl 4 (a0.Services.map Z3) false), (.vs 60)]) (ds := [(.sl 4 (a0.Services.map Z3) false), (.vs 60)]) (v := (.ag [(.sl 4 (a0.Services.map Z3) false), (.vs 60)])) Zau I I I I I I I I) I <| Zi <| Zh <| Z1g <| At.ghost (st' := ⟨[(4, (.ptr 4 0))], [(4, (.box [(.sl 4 (a0.Services.map Z3) false), (.sl 5 ((((a0.Calls.take v3.toNat) ++ [a1]) ++ v9).map Z5) false)]))]⟩) (fun a w h => (Z17 ⟨[(4, (.ptr 4 0))], [(4, (.box [(.sl 4 (a0.Services.map Z3) false), (.sl 5 ((((a0.Calls.take v3.toNat) ++ [a1]) ++ v9).map Z5) false)]))]⟩ (Z29 (m := 60) (sz := 5) (es := (List.map Z5 (((a0.Calls.take v3.toNat) ++ [a1]) ++ v9))) a w (Z17 ⟨[(4, (.ptr 4 0))], [(60, (.vec 5 (List.map Z5 (((a0.Calls.take v3.toNat) ++ [a1]) ++ v9)))), (4, (.box [(.sl 4 (a0.Services.map Z3) false), (.vs 60)]))]⟩ h ⟨rfl, trivial⟩ ⟨rfl, rfl, trivial⟩)) ⟨rfl, trivial⟩ ⟨rfl, trivial⟩)) ?_
    have h := Option.some.inj h
    subst h
    refine (hret _ ?_).1
    exact ⟨[(.ag [(.sl 4 (a0.Services.map Z3) false), (.sl 5 ((((a0.Calls.take v3.toNat) ++ [a1]) ++ v9).map Z5) false)])], ⟨⟨4, _, rfl, rfl, .inr ⟨_, a44, rfl, rfl⟩⟩, trivial⟩, rfl, trivial⟩
   ·intro J10
    have hif := Z28 h
    refine Z16 I (fun hc => ?_) (fun hc => ?_)
    ·have h := hif.1 hc
     refine Zf <| Z2 I (Zo (v := (.sl 5 ((a0.Calls.drop v3.toNat).map Z5) false)) I I) I ?_
     have ⟨hg15, h⟩ := Z13 h
     refine Z2 I (Z64 (l := (a0.Calls.drop v3.toNat)) (enc := Z5) (kl := .i64) (lo := 1) I s42 I I hg15) I <| Z2 I (Zp (v := (.sl 5 (((a0.Calls.drop v3.toNat).drop (1 : Int).toNat).map Z5) false)) I I) I <| Zi ?_
     exact Zy (st' := ⟨[(2, (.ptr 2 0)), (3, (.ptr 3 0)), (4, (.ptr 4 0)), (5, (.int .i64 v3)), (6, (.sl 5 (((a0.Calls.drop v3.toNat).drop (1 : Int).toNat).map Z5) false))], [(2, (.box (Z4 a0).cells)), (3, (.box (Z5 a1).cells)), (4, (.box [(.sl 4 [] false), (.sl 5 [] false)]))]⟩) ⟨rfl, rfl, rfl, rfl, rfl, trivial⟩ ⟨rfl, rfl, rfl, trivial⟩ (J10 ((a0.Calls.drop v3.toNat).drop (1 : Int).toNat) h)
    ·have h := hif.2 hc
     refine Z1b ?_
     exact Zy (st' := ⟨[(2, (.ptr 2 0)), (3, (.ptr 3 0)), (4, (.ptr 4 0)), (5, (.int .i64 v3)), (6, (.sl 5 ((a0.Calls.drop v3.toNat).map Z5) false))], [(2, (.box (Z4 a0).cells)), (3, (.box (Z5 a1).cells)), (4, (.box [(.sl 4 [] false), (.sl 5 [] false)]))]⟩) ⟨rfl, rfl, rfl, rfl, rfl, trivial⟩ ⟨rfl, rfl, rfl, trivial⟩ (J10 (a0.Calls.drop v3.toNat) h)
  ·intro J8
   refine Z1r mixed <| Zb 0 I (Zo (v := (.sl 5 ((a0.Calls.drop v3.toNat).map Z5) false)) I I) <| Zb 1 I (Z24 (l := (a0.Calls.drop v3.toNat)) (enc := Z5) I s42 I) <| Zb 2 I (Z25 (k := .i64) (a := ((a0.Calls.drop v3.toNat).length : Int)) (b := 0) (c := (decide (((a0.Calls.drop v3.toNat).length : Int) > 0))) I I I I) <| Zb 3 I (Zo (v := (.bool (decide (((a0.Calls.drop v3.toNat).length : Int) > 0)))) I I) ?_
   have hif := Z28 h
   refine AOpsD.split (fun hc => ?_) (fun hc => ?_)
   ·have h := hif.1 hc
    refine Z14 4 I I I I (Zo (v := (.sl 5 ((a0.Calls.drop v3.toNat).map Z5) false)) I I) ?_
    have ⟨hg16, h⟩ := Z13 h
    refine Z14 5 I I I I (Z1w (k := .i64) (l := (a0.Calls.drop v3.toNat)) (enc := Z5) (z := Z6) (n := 0) (cs := (Z5 ((a0.Calls.drop v3.toNat).getD (0 : Int).toNat Z6)).cells) (full := false) I s42 I I hg16 I) <| Z14 6 I I I I (Z2n (cs := (Z5 ((a0.Calls.drop v3.toNat).getD (0 : Int).toNat Z6)).cells) (ds := (Z5 ((a0.Calls.drop v3.toNat).getD (0 : Int).toNat Z6)).cells) I Z7d I I I) <| Z14 7 I I I I (Z2f (cs := (Z5 ((a0.Calls.drop v3.toNat).getD (0 : Int).toNat Z6)).cells) (v := (.str ((a0.Calls.drop v3.toNat).getD (0 : Int).toNat Z6).Caller)) I o9 I I) <| Z14 8 I I I I (Zr (m := 3) (o := 0) I Z7d I I) <| Z14 9 I I I I (Zt (cs := (Z5 a1).cells) (v := (.str a1.Caller)) I o9 I I I) <| Z14 10 I I I I (Z3c (a := ((a0.Calls.drop v3.toNat).getD (0 : Int).toNat Z6).Caller) (b := a1.Caller) (c := (((a0.Calls.drop v3.toNat).getD (0 : Int).toNat Z6).Caller == a1.Caller)) I I I I) <| Zb 11 I (Z2w (v := (.bool (((a0.Calls.drop v3.toNat).getD (0 : Int).toNat Z6).Caller == a1.Caller))) I I I) <| Zb 12 I (Zo (v := (.bool (((a0.Calls.drop v3.toNat).getD (0 : Int).toNat Z6).Caller == a1.Caller))) I I) ?_
    have hif := Z28 h
    refine AOpsD.split (fun hc => ?_) (fun hc => ?_)
    ·have h := hif.1 hc
     refine Z14 13 I I I I (Zo (v := (.sl 5 ((a0.Calls.drop v3.toNat).map Z5) false)) I I) ?_
     have ⟨hg17, h⟩ := Z13 h
     refine Z14 14 I I I I (Z1w (k := .i64) (l := (a0.Calls.drop v3.toNat)) (enc := Z5) (z := Z6) (n := 0) (cs := (Z5 ((a0.Calls.drop v3.toNat).getD (0 : Int).toNat Z6)).cells) (full := false) I s42 I I hg17 I) <| Z14 15 I I I I (Z2n (cs := (Z5 ((a0.Calls.drop v3.toNat).getD (0 : Int).toNat Z6)).cells) (ds := [(.str ((a0.Calls.drop v3.toNat).getD (0 : Int).toNat Z6).Callee), (.int .i64 ((a0.Calls.drop v3.toNat).getD (0 : Int).toNat Z6).Count), (.int .i64 ((a0.Calls.drop v3.toNat).getD (0 : Int).toNat Z6).Errors), (.int .i64 ((a0.Calls.drop v3.toNat).getD (0 : Int).toNat Z6).Time)]) I Z7g I I I) <| Z14 16 I I I I (Z2f (cs := [(.str ((a0.Calls.drop v3.toNat).getD (0 : Int).toNat Z6).Callee), (.int .i64 ((a0.Calls.drop v3.toNat).getD (0 : Int).toNat Z6).Count), (.int .i64 ((a0.Calls.drop v3.toNat).getD (0 : Int).toNat Z6).Errors), (.int .i64 ((a0.Calls.drop v3.toNat).getD (0 : Int).toNat Z6).Time)]) (v := (.str ((a0.Calls.drop v3.toNat).getD (0 : Int).toNat Z6).Callee)) I o9 I I) <| Z14 17 I I I I (Zr (m := 3) (o := 0) I Z7g I I) <| Z14 18 I I I I (Zt (cs := (Z5 a1).cells) (v := (.str a1.Callee)) I o9 I I I) <| Z14 19 I I I I (Z3c (a := ((a0.Calls.drop v3.toNat).getD (0 : Int).toNat Z6).Callee) (b := a1.Callee) (c := (((a0.Calls.drop v3.toNat).getD (0 : Int).toNat Z6).Callee == a1.Callee)) I I I I) <| Zb 20 I (Z2w (v := (.bool (((a0.Calls.drop v3.toNat).getD (0 : Int).toNat Z6).Callee == a1.Callee))) I I I) <| AOpsD.nil (by kernel_rfl) I ?_
     exact Zy (st' := ⟨[(2, (.ptr 2 0)), (3, (.ptr 3 0)), (4, (.ptr 4 0)), (5, (.int .i64 v3)), (6, (.sl 5 ((a0.Calls.drop v3.toNat).map Z5) false)), (57, (.bool (((a0.Calls.drop v3.toNat).getD (0 : Int).toNat Z6).Callee == a1.Callee)))], [(2, (.box (Z4 a0).cells)), (3, (.box (Z5 a1).cells)), (4, (.box [(.sl 4 [] false), (.sl 5 [] false)]))]⟩) ⟨rfl, rfl, rfl, rfl, rfl, rfl, trivial⟩ ⟨rfl, rfl, rfl, trivial⟩ (J8 (((a0.Calls.drop v3.toNat).getD (0 : Int).toNat Z6).Callee == a1.Callee) h)
    ·have h := hif.2 hc
     refine Z12 13 I I I I I I I <| Z12 14 I I I I I I I <| Z12 15 I I I I I I I <| Z12 16 I I I I I I I <| Z12 17 I I I I I I I <| Z12 18 I I I I I I I <| Z12 19 I I I I I I I <| Zb 20 I (Z2u (v := (.bool false)) I I I) ?_
     refine AOpsD.nil (by kernel_rfl) I ?_
     exact Zy (st' := ⟨[(2, (.ptr 2 0)), (3, (.ptr 3 0)), (4, (.ptr 4 0)), (5, (.int .i64 v3)), (6, (.sl 5 ((a0.Calls.drop v3.toNat).map Z5) false)), (57, (.bool false))], [(2, (.box (Z4 a0).cells)), (3, (.box (Z5 a1).cells)), (4, (.box [(.sl 4 [] false), (.sl 5 [] false)]))]⟩) ⟨rfl, rfl, rfl, rfl, rfl, rfl, trivial⟩ ⟨rfl, rfl, rfl, trivial⟩ (J8 false h)
   ·have h := hif.2 hc
    refine Z12 4 I I I I I I I <| Z12 5 I I I I I I I <| Z12 6 I I I I I I I <| Z12 7 I I I I I I I <| Z12 8 I I I I I I I <| Z12 9 I I I I I I I <| Z12 10 I I I I I I I <| Zb 11 I (Z2u (v := (.bool false)) I I I) ?_
    refine Zb 12 I (Zo (v := (.bool false)) I I) <| Z12 13 I I I I I I I <| Z12 14 I I I I I I I <| Z12 15 I I I I I I I <| Z12 16 I I I I I I I <| Z12 17 I I I I I I I <| Z12 18 I I I I I I I <| Z12 19 I I I I I I I ?_
    refine Zb 20 I (Z2u (v := (.bool false)) I I I) <| AOpsD.nil (by kernel_rfl) I ?_
    exact Zy (st' := ⟨[(2, (.ptr 2 0)), (3, (.ptr 3 0)), (4, (.ptr 4 0)), (5, (.int .i64 v3)), (6, (.sl 5 ((a0.Calls.drop v3.toNat).map Z5) false)), (57, (.bool false))], [(2, (.box (Z4 a0).cells)), (3, (.box (Z5 a1).cells)), (4, (.box [(.sl 4 [] false), (.sl 5 [] false)]))]⟩) ⟨rfl, rfl, rfl, rfl, rfl, rfl, trivial⟩ ⟨rfl, rfl, rfl, trivial⟩ (J8 false h)
 ·intro N k2 v h IH2 J2
  revert h
  revert v
  intro v1 h
  try dsimp only at h IH2 J2 ⊢
  cases k2 with
  | zero => cases h
  | succ k2 =>
   rw [Z8c] at h
   refine Zj <| Zj <| Z1r mixed <| Zb 0 I (Zo (v := (.int .i64 v1)) I I) <| Zb 1 I (Zr (m := 2) (o := 0) I Z3i I I) <| Zb 2 I (Zt (cs := (Z4 a0).cells) (v := (.sl 5 (a0.Calls.map Z5) false)) I o42 I I I) <| Zb 3 I (Z24 (l := a0.Calls) (enc := Z5) I s42 I) <| Zb 4 I (Z25 (k := .i64) (a := v1) (b := (a0.Calls.length : Int)) (c := (decide (v1 < (a0.Calls.length : Int)))) I I I I) ?_
   refine Zb 5 I (Zo (v := (.bool (decide (v1 < (a0.Calls.length : Int))))) I I) ?_
   have hif := Z28 h
   refine AOpsD.split (fun hc => ?_) (fun hc => ?_)
   ·have h := hif.1 hc
    refine Z14 6 I I I I (Zr (m := 2) (o := 0) I Z3i I I) <| Z14 7 I I I I (Zt (cs := (Z4 a0).cells) (v := (.sl 5 (a0.Calls.map Z5) false)) I o42 I I I) <| Z14 8 I I I I (Zo (v := (.int .i64 v1)) I I) ?_
    have ⟨hg19, h⟩ := Z13 h
    refine Z14 9 I I I I (Z1w (k := .i64) (l := a0.Calls) (enc := Z5) (z := Z6) (n := v1) (cs := (Z5 (a0.Calls.getD v1.toNat Z6)).cells) (full := false) I s42 I I hg19 I) <| Z14 10 I I I I (Z2n (cs := (Z5 (a0.Calls.getD v1.toNat Z6)).cells) (ds := (Z5 (a0.Calls.getD v1.toNat Z6)).cells) I Z7d I I I) <| Z14 11 I I I I (Z2f (cs := (Z5 (a0.Calls.getD v1.toNat Z6)).cells) (v := (.str (a0.Calls.getD v1.toNat Z6).Caller)) I o9 I I) <| Z14 12 I I I I (Zr (m := 2) (o := 0) I Z3i I I) <| Z14 13 I I I I (Zt (cs := (Z4 a0).cells) (v := (.sl 5 (a0.Calls.map Z5) false)) I o42 I I I) <| Z14 14 I I I I (Zo (v := (.int .i64 v1)) I I) ?_
    have ⟨hg20, h⟩ := Z13 h
    refine Z14 15 I I I I (Z1w (k := .i64) (l := a0.Calls) (enc := Z5) (z := Z6) (n := v1) (cs := (Z5 (a0.Calls.getD v1.toNat Z6)).cells) (full := false) I s42 I I hg20 I) <| Z14 16 I I I I (Z2n (cs := (Z5 (a0.Calls.getD v1.toNat Z6)).cells) (ds := [(.str (a0.Calls.getD v1.toNat Z6).Callee), (.int .i64 (a0.Calls.getD v1.toNat Z6).Count), (.int .i64 (a0.Calls.getD v1.toNat Z6).Errors), (.int .i64 (a0.Calls.getD v1.toNat Z6).Time)]) I Z7g I I I) <| Z14 17 I I I I (Z2f (cs := [(.str (a0.Calls.getD v1.toNat Z6).Callee), (.int .i64 (a0.Calls.getD v1.toNat Z6).Count), (.int .i64 (a0.Calls.getD v1.toNat Z6).Errors), (.int .i64 (a0.Calls.getD v1.toNat Z6).Time)]) (v := (.str (a0.Calls.getD v1.toNat Z6).Callee)) I o9 I I) <| Z14 18 I I I I (Zr (m := 3) (o := 0) I Z7d I I) <| Z14 19 I I I I (Zt (cs := (Z5 a1).cells) (v := (.str a1.Caller)) I o9 I I I) <| Z14 20 I I I I (Zr (m := 3) (o := 0) I Z7g I I) <| Z14 21 I I I I (Zt (cs := (Z5 a1).cells) (v := (.str a1.Callee)) I o9 I I I) ?_
    have ⟨v22, hv22, h⟩ := Z1f h
    refine Z14 22 I I I I (Z1o (ar := [(.str (a0.Calls.getD v1.toNat Z6).Caller), (.str (a0.Calls.getD v1.toNat Z6).Callee), (.str a1.Caller), (.str a1.Callee)]) (caps := []) Tryz.call71 (F71_ok K (a0.Calls.getD v1.toNat Z6).Caller (a0.Calls.getD v1.toNat Z6).Callee a1.Caller a1.Callee v22 hv22) I I ⟨rfl, rfl, rfl, rfl, trivial⟩ I) <| Zb 23 I (Z2w (v := (.bool v22)) I I I) <| AOpsD.nil (by kernel_rfl) I <| Zh ?_
    have hif := Z28 h
    refine Z16 I (fun hc => ?_) (fun hc => ?_)
    ·have h := hif.1 hc
     refine Z1b <| Zh <| AWp.block <| Zf <| Z2 I (Zo (v := (.int .i64 v1)) I I) I <| Z2 I (Z1u (k := .i64) (a := v1) (b := 1) (c := (IntKind.i64.wrap (v1 + 1))) I I I I) I <| Z2 I (Zp (v := (.int .i64 (IntKind.i64.wrap (v1 + 1)))) I I) I <| Zi ?_
     refine At.end ?_
     exact Zy (st' := ⟨[(2, (.ptr 2 0)), (3, (.ptr 3 0)), (4, (.ptr 4 0)), (5, (.int .i64 (IntKind.i64.wrap (v1 + 1))))], [(2, (.box (Z4 a0).cells)), (3, (.box (Z5 a1).cells)), (4, (.box [(.sl 4 [] false), (.sl 5 [] false)]))]⟩) ⟨rfl, rfl, rfl, rfl, trivial⟩ ⟨rfl, rfl, rfl, trivial⟩ (IH2 _ (IntKind.i64.wrap (v1 + 1)) (Nat.lt_succ_self _) h)
    ·have h := hif.2 hc
     refine AWp.exit <| At.thru ?_
     exact Zy (st' := ⟨[(2, (.ptr 2 0)), (3, (.ptr 3 0)), (4, (.ptr 4 0)), (5, (.int .i64 v1))], [(2, (.box (Z4 a0).cells)), (3, (.box (Z5 a1).cells)), (4, (.box [(.sl 4 [] false), (.sl 5 [] false)]))]⟩) ⟨rfl, rfl, rfl, rfl, trivial⟩ ⟨rfl, rfl, rfl, trivial⟩ (J2 v1 h)
   ·have h := hif.2 hc
    refine Z12 6 I I I I I I I <| Z12 7 I I I I I I I <| Z12 8 I I I I I I I <| Z12 9 I I I I I I I <| Z12 10 I I I I I I I <| Z12 11 I I I I I I I <| Z12 12 I I I I I I I <| Z12 13 I I I I I I I ?_
    refine Z12 14 I I I I I I I <| Z12 15 I I I I I I I <| Z12 16 I I I I I I I <| Z12 17 I I I I I I I <| Z12 18 I I I I I I I <| Z12 19 I I I I I I I <| Z12 20 I I I I I I I <| Z12 21 I I I I I I I ?_
    refine Z12 22 I I I I I I I <| Zb 23 I (Z2u (v := (.bool false)) I I I) <| AOpsD.nil (by kernel_rfl) I <| Zh ?_
    refine Z16 (b := false) I (fun hc => ?_) (fun hc => ?_)
    ·cases hc
    refine AWp.exit <| At.thru ?_
    exact Zy (st' := ⟨[(2, (.ptr 2 0)), (3, (.ptr 3 0)), (4, (.ptr 4 0)), (5, (.int .i64 v1))], [(2, (.box (Z4 a0).cells)), (3, (.box (Z5 a1).cells)), (4, (.box [(.sl 4 [] false), (.sl 5 [] false)]))]⟩) ⟨rfl, rfl, rfl, rfl, trivial⟩ ⟨rfl, rfl, rfl, trivial⟩ (J2 v1 h)
end Go.AM.TopZ
