/- What these functions compute, each with its walk: F17, F19, F11, F31, F53, F54, F71, F55. -/
import Derived.Test.YtkhbjnkckblkjaaGreatTopZT
import Derived.Test.YtkhbjnkckblkjaaGreatTopZG0
namespace Go.AM.TopZ
open Go Go.AM Go.Proofs
set_option maxRecDepth 100000
set_option maxHeartbeats 2000000
noncomputable def Z47 (K : Nat) (v10 : Bool) (v11 : (List (Str × Zf))) (v12 : (List (Zt × Zk))) : Option (Int × Ze) :=
 (F52 K v10 v11 v12).bind fun v16 =>
  some (v16.1, v16.2)
def Z6l (K : Nat) (b17 : Int → Bool → (List (Str × Zf)) → (List (Zt × Zk)) → Option (Int × Ze)) (v5 : Int) (v33 : Bool) (v34 : (List (Str × Zf))) (v35 : (List (Zt × Zk))) : Option (Int × Ze) :=
 b17 (IntKind.i64.wrap (v5 + 1)) v33 v34 v35
def Zc8 (K : Nat) (b38 : Int → Bool → (List (Str × Zf)) → (List (Zt × Zk)) → Option (Int × Ze)) (v28 : Int) (v39 : Bool) (v40 : (List (Str × Zf))) (v41 : (List (Zt × Zk))) : Option (Int × Ze) :=
 b38 (IntKind.i64.wrap (v28 + 1)) v39 v40 v41
def Zaq (K : Nat) (b38 : Int → Bool → (List (Str × Zf)) → (List (Zt × Zk)) → Option (Int × Ze)) (v28 : Int) (v49 : Bool × (List (Str × Zf))) (v50 : Bool) (v51 : (List (Zt × Zk))) : Option (Int × Ze) :=
 Zc8 K b38 v28 v50 v49.2 v51
def Z3c (K : Nat) (v21 : (List Zg)) (a0 : (List Zu)) (v5 : Int) (v25 : (List (Int × Zg))) (c37 : Bool → (List (Str × Zf)) → (List (Zt × Zk)) → Option (Int × Ze)) : Nat → Int → Bool → (List (Str × Zf)) → (List (Zt × Zk)) → Option (Int × Ze)
 | 0, _, _, _, _ => none
 | k32 + 1, v28, v29, v30, v31 =>
  if (decide (v28 < (v21.length : Int))) = true then
   if (0 : Int) ≤ v28 ∧ v28 < v21.length then
    (F49 K (v21.getD v28.toNat Z2).Error (a0.getD v5.toNat Z5).Weight).bind fun v45 =>
     (F49 K ((v21.getD v28.toNat Z2).Parent == 0) (a0.getD v5.toNat Z5).Weight).bind fun v47 =>
      (F48 K (⟨(v21.getD v28.toNat Z2).Service, (a0.getD v5.toNat Z5).Weight, v45, v47⟩ : Zf) v29 v30 v31).bind fun v49 =>
       if (mget Z33 (v21.getD v28.toNat Z2).Parent v25).isSome = true then
        if (!(((mget Z33 (v21.getD v28.toNat Z2).Parent v25).getD Z2).Service == (v21.getD v28.toNat Z2).Service)) = true then
         (F49 K (v21.getD v28.toNat Z2).Error (a0.getD v5.toNat Z5).Weight).bind fun v54 =>
          (F51 K (v21.getD v28.toNat Z2)).bind fun v56 =>
           (F50 K (⟨((mget Z33 (v21.getD v28.toNat Z2).Parent v25).getD Z2).Service, (v21.getD v28.toNat Z2).Service, (a0.getD v5.toNat Z5).Weight, v54, (IntKind.i64.wrap (v56 * (a0.getD v5.toNat Z5).Weight))⟩ : Zk) v49.1 v49.2 v31).bind fun v58 =>
            Zaq K (Z3c K v21 a0 v5 v25 c37 k32) v28 v49 v58.1 v58.2
        else
         Zaq K (Z3c K v21 a0 v5 v25 c37 k32) v28 v49 v49.1 v31
       else
        Zc8 K (Z3c K v21 a0 v5 v25 c37 k32) v28 v49.1 v49.2 v31
   else none
  else
   c37 v29 v30 v31
def Z98 (K : Nat) (v21 : (List Zg)) (a0 : (List Zu)) (v5 : Int) (b17 : Int → Bool → (List (Str × Zf)) → (List (Zt × Zk)) → Option (Int × Ze)) (v6 : Bool) (v7 : (List (Str × Zf))) (v8 : (List (Zt × Zk))) (v25 : (List (Int × Zg))) : Option (Int × Ze) :=
 Z3c K v21 a0 v5 v25 (Z6l K b17 v5) K 0 v6 v7 v8
def Z7w (K : Nat) (v21 : (List Zg)) (c27 : (List (Int × Zg)) → Option (Int × Ze)) : Nat → Int → (List (Int × Zg)) → Option (Int × Ze)
 | 0, _, _ => none
 | k24 + 1, v22, v23 =>
  if (decide (v22 < (v21.length : Int))) = true then
   if (0 : Int) ≤ v22 ∧ v22 < v21.length then
    (Z7w K v21 c27 k24) (IntKind.i64.wrap (v22 + 1)) (mput Z33 (v21.getD v22.toNat Z2).Id (v21.getD v22.toNat Z2) v23)
   else none
  else
   c27 v23
def Z4g (K : Nat) (a0 : (List Zu)) (c14 : Bool → (List (Str × Zf)) → (List (Zt × Zk)) → Option (Int × Ze)) : Nat → Int → Bool → (List (Str × Zf)) → (List (Zt × Zk)) → Option (Int × Ze)
 | 0, _, _, _, _ => none
 | k9 + 1, v5, v6, v7, v8 =>
  if (decide (v5 < (a0.length : Int))) = true then
   if (0 : Int) ≤ v5 ∧ v5 < (a0.length : Nat) then
    if v5.toNat < a0.length then
     (F47 K (a0.getD v5.toNat Z5).Spans).bind fun v21 =>
      Z7w K v21 (Z98 K v21 a0 v5 (Z4g K a0 c14 k9) v6 v7 v8) K 0 ([] : List (Int × Zg))
    else none
   else none
  else
   c14 v6 v7 v8
noncomputable def F17 (K : Nat) (a0 : (List Zu)) : Option (Int × Ze) :=
 (F46 K).bind fun v4 =>
  Z4g K a0 (Z47 K) K 0 false ([] : List (Str × Zf)) ([] : List (Zt × Zk))
theorem F17_ok (K : Nat) (a0 : (List Zu)) (r : Int × Ze) (h : F17 K a0 = some r) : ACall P 17 ⟨[(.vs 2000)], [(2000, (.vec 3 (List.map Zq a0)))], (.tup [(Zc r.2), (.int .i64 r.1)]), [(2000, (.vec 3 (List.map Zq a0)))], []⟩ := by
 refine Z1q Tryz.func17 Tryz.results17 rfl Tryz.ntmps17 rfl rfl rfl ?_
 intro E Q hP hN hro hret
 obtain ⟨P', nt', w0, F0, p0, S0, β0, ro0⟩ := E
 simp only at hP hN
 subst hP hN
 dsimp only [argT]
 unfold F17 at h
 refine Zj <| Zd <| Z1 I (Z21 (cs := [(.sl 4 [] false), (.sl 5 [] false)]) I z44 I I I) I <| Z1 I (Zm (v := (.int .i64 0)) I I) I <| Zh <| Zi <| Zj <| Zd ?_
 have ⟨v4, hv4, h⟩ := Z1d h
 refine Z1 I (Z37 (d := some 16) (c := ⟨[] ++ [], [], (.ptr 96 0), [(16, (.map (Z19 Z1z Z3 ([] : List (Str × Zf))))), (97, (.map (Z19 Zp Z6 ([] : List (Zt × Zk))))), (96, (.box [(.map 16), (.map 97), (.bool false)]))], [16, 97, 96]⟩) (ar := []) (caps := []) (news := [16, 97, 96]) (forg := []) Tryz.call46 ((((F46_ok K v4 hv4).sw 1 16).sw 2 97).sw 4 96) I I trivial I trivial I) I <| Z1 I (Zm (v := (.ptr 96 0)) I I) I <| Zh <| Zi <| Zj <| Zj <| Zd <| Z1 I (Zl (v := (.vs 2000)) I I) I ?_
 refine Z1 I (Z62 (l := a0) (enc := Zq) I u31 I I) I <| Z1 I (Zl (v := (.int .i64 0)) I I) I <| Zh <| Zi <| AWp.weaken (st' := ⟨[(2, (.ptr 2 0)), (4, (.ptr 96 0)), (17, (.vs 2000)), (18, (.int .i64 (a0.length : Int))), (19, (.int .i64 0))], [(2, (.box [(.sl 4 [] false), (.sl 5 [] false)])), (16, (.map (Z19 Z1z Z3 ([] : List (Str × Zf))))), (96, (.box [(.map 16), (.map 97), (.bool false)])), (97, (.map (Z19 Zp Z6 ([] : List (Zt × Zk))))), (2000, (.vec 3 (List.map Zq a0)))]⟩) ⟨rfl, rfl, rfl, rfl, rfl, trivial⟩ ⟨rfl, rfl, rfl, rfl, rfl, trivial⟩ ?_
 refine Z1o (V := Int × Bool × (List (Str × Zf)) × (List (Zt × Zk))) (X := Bool × (List (Str × Zf)) × (List (Zt × Zk))) (lp := fun k v => Z4g K a0 (Z47 K) k v.1 v.2.1 v.2.2.1 v.2.2.2 = some r) (sh := fun v => ⟨[(2, (.ptr 2 0)), (4, (.ptr 96 0)), (17, (.vs 2000)), (18, (.int .i64 (a0.length : Int))), (19, (.int .i64 v.1))], [(2, (.box [(.sl 4 [] false), (.sl 5 [] false)])), (16, (.map (Z19 Z1z Z3 v.2.2.1))), (96, (.box [(.map 16), (.map 97), (.bool v.2.1)])), (97, (.map (Z19 Zp Z6 v.2.2.2))), (2000, (.vec 3 (List.map Zq a0)))]⟩) (x := fun v => Z47 K v.1 v.2.1 v.2.2 = some r) (shx := fun v => ⟨[(2, (.ptr 2 0)), (4, (.ptr 96 0))], [(2, (.box [(.sl 4 [] false), (.sl 5 [] false)])), (16, (.map (Z19 Z1z Z3 v.2.1))), (96, (.box [(.map 16), (.map 97), (.bool v.1)])), (97, (.map (Z19 Zp Z6 v.2.2))), (2000, (.vec 3 (List.map Zq a0)))]⟩) (k := K) (v := (0, false, ([] : List (Str × Zf)), ([] : List (Zt × Zk)))) h ?_ ?_
 ·intro v h
  obtain ⟨v10, v11, v12⟩ := v
  try dsimp only at h ⊢
  unfold Z47 at h
  refine Zi <| Zj <| Zd <| Z1 I (Zl (v := (.ptr 96 0)) I I) I ?_
  have ⟨v16, hv16, h⟩ := Z1d h
  refine Z1 I (Z37 (d := some 95) (c := ⟨[(.ptr 96 0)] ++ [], [(96, (.box [(.map 16), (.map 97), (.bool v10)])), (16, (.map (Z19 Z1z Z3 v11))), (97, (.map (Z19 Zp Z6 v12)))], (.tup [(Zc v16.2), (.int .i64 v16.1)]), [(96, (.box [(.map 16), (.map 97), (.bool v10)])), (16, (.fmap (Z19 Z1z Z3 v11))), (97, (.fmap (Z19 Zp Z6 v12)))], [16, 97]⟩) (ar := [(.ptr 96 0)]) (caps := []) (news := []) (forg := [16, 97]) Tryz.call52 ((((F52_ok K v10 v11 v12 v16 hv16).sw 2000 96).sw 59 16).sw 57 97) I I ⟨rfl, trivial⟩ I ⟨rfl, rfl, rfl, trivial⟩ I) I <| Z1 I (Z2g (vs := [(Zc v16.2), (.int .i64 v16.1)]) (v := (Zc v16.2)) I I I) I <| Z1 I (Z2g (vs := [(Zc v16.2), (.int .i64 v16.1)]) (v := (.int .i64 v16.1)) I I I) I <| Z1 I (Z1b (cs := [(.sl 4 [] false), (.sl 5 [] false)]) (vs := (Zc v16.2).cells) (ds := (Zc v16.2).cells) (v := (Zc v16.2)) sz44 I I I I I I I I) I <| Z1 I (Zm (v := (.int .i64 v16.1)) I I) I <| Zh <| Zi <| Z1c ?_
  have h := Option.some.inj h
  subst h
  refine (hret _ ?_).1
  exact ⟨[(Zc v16.2), (.int .i64 v16.1)], ⟨⟨2, _, rfl, rfl, .inr ⟨_, a44, rfl, rfl⟩⟩, rfl, trivial⟩, rfl, ⟨rfl, trivial⟩⟩
 ·intro N k9 v h IH9 J9
  obtain ⟨v5, v6, v7, v8⟩ := v
  try dsimp only at h IH9 J9 ⊢
  cases k9 with
  | zero => cases h
  | succ k9 =>
   rw [Z4g] at h
   refine Zj <| Zd <| Z1 I (Z1x (k := .i64) (a := v5) (b := (a0.length : Int)) (c := (decide (v5 < (a0.length : Int)))) I I I I) I <| Zh <| Zi <| Zj ?_
   have hif := Z1w h
   refine Z16 I (fun hc => ?_) (fun hc => ?_)
   ·have h := hif.1 hc
    refine Z1a <| Zi <| Zj <| AWp.block <| Zj <| Zd ?_
    have ⟨hg18, h⟩ := Z14 h
    refine Z1 I (Z2r (k := .i64) (v := (.vs 2000)) (n := 2000) (off := 0) (len := a0.length) (es := (List.map Zq a0)) (j := v5) (m := v5.toNat) I s31 I I (Z2u _ _ _) I hg18 (Nat.zero_add _)) I ?_
    have ⟨hg19, h⟩ := Z14 h
    refine Z1 I (Z5f (l := a0) (enc := Zq) (z := Z5) (vs := (Zq (a0.getD v5.toNat Z5)).cells) I a39 I I hg19 I I) I <| Z1 I (Z21 (cs := [(.int .i64 0), (.int .i64 0), (.sl 14 [] false)]) I z39 I I I) I <| Z1 I (Z1b (cs := [(.int .i64 0), (.int .i64 0), (.sl 14 [] false)]) (vs := (Zq (a0.getD v5.toNat Z5)).cells) (ds := (Zq (a0.getD v5.toNat Z5)).cells) (v := (Zq (a0.getD v5.toNat Z5))) sz39 I I I I I I I I) I <| Zh <| Zi <| Zj <| Zd <| Z1 I (Zr (m := 6) (o := 0) I f39_2 I I) I ?_
    refine Z1 I (Zy (cs := (Zq (a0.getD v5.toNat Z5)).cells) (v := (.sl 14 ((a0.getD v5.toNat Z5).Spans.map Z8) false)) I o37 I I I) I ?_
    have ⟨v21, hv21, h⟩ := Z1d h
    refine Z1 I (Z1e (ar := [(.sl 14 ((a0.getD v5.toNat Z5).Spans.map Z8) false)]) (caps := []) Tryz.call47 (F47_ok K (a0.getD v5.toNat Z5).Spans v21 hv21) I I ⟨rfl, trivial⟩ I) I <| Z1 I (Zm (v := (.sl 14 (v21.map Z8) false)) I I) I <| Zh <| Zi <| Zj <| Zd <| Z1 I (Z9w I) I <| Z1 I (Zm (v := (.map 26)) I I) I ?_
    refine Zh <| Zi <| Zj <| Zj <| Zd <| Z1 I (Zl (v := (.sl 14 (v21.map Z8) false)) I I) I <| Z1 I (Z2d (l := v21) (enc := Z8) I s37 I) I <| Z1 I (Zl (v := (.int .i64 0)) I I) I ?_
    refine Zh <| Zi <| AWp.weaken (st' := ⟨[(2, (.ptr 2 0)), (4, (.ptr 96 0)), (6, (.ptr 6 0)), (7, (.sl 14 (v21.map Z8) false)), (8, (.map 26)), (17, (.vs 2000)), (18, (.int .i64 (a0.length : Int))), (19, (.int .i64 v5)), (27, (.sl 14 (v21.map Z8) false)), (28, (.int .i64 (v21.length : Int))), (29, (.int .i64 0))], [(2, (.box [(.sl 4 [] false), (.sl 5 [] false)])), (6, (.box (Zq (a0.getD v5.toNat Z5)).cells)), (16, (.map (Z19 Z1z Z3 v7))), (26, (.map (Z19 Z1i Z8 ([] : List (Int × Zg))))), (96, (.box [(.map 16), (.map 97), (.bool v6)])), (97, (.map (Z19 Zp Z6 v8))), (2000, (.vec 3 (List.map Zq a0)))]⟩) ⟨rfl, rfl, rfl, rfl, rfl, rfl, rfl, rfl, rfl, rfl, rfl, trivial⟩ ⟨rfl, rfl, rfl, rfl, rfl, rfl, rfl, trivial⟩ ?_
    refine Z1o (V := Int × (List (Int × Zg))) (X := (List (Int × Zg))) (lp := fun k v => Z7w K v21 (Z98 K v21 a0 v5 (Z4g K a0 (Z47 K) k9) v6 v7 v8) k v.1 v.2 = some r) (sh := fun v => ⟨[(2, (.ptr 2 0)), (4, (.ptr 96 0)), (6, (.ptr 6 0)), (7, (.sl 14 (v21.map Z8) false)), (8, (.map 26)), (17, (.vs 2000)), (18, (.int .i64 (a0.length : Int))), (19, (.int .i64 v5)), (27, (.sl 14 (v21.map Z8) false)), (28, (.int .i64 (v21.length : Int))), (29, (.int .i64 v.1))], [(2, (.box [(.sl 4 [] false), (.sl 5 [] false)])), (6, (.box (Zq (a0.getD v5.toNat Z5)).cells)), (16, (.map (Z19 Z1z Z3 v7))), (26, (.map (Z19 Z1i Z8 v.2))), (96, (.box [(.map 16), (.map 97), (.bool v6)])), (97, (.map (Z19 Zp Z6 v8))), (2000, (.vec 3 (List.map Zq a0)))]⟩) (x := fun v => Z98 K v21 a0 v5 (Z4g K a0 (Z47 K) k9) v6 v7 v8 v = some r) (shx := fun v => ⟨[(2, (.ptr 2 0)), (4, (.ptr 96 0)), (6, (.ptr 6 0)), (7, (.sl 14 (v21.map Z8) false)), (8, (.map 26)), (17, (.vs 2000)), (18, (.int .i64 (a0.length : Int))), (19, (.int .i64 v5))], [(2, (.box [(.sl 4 [] false), (.sl 5 [] false)])), (6, (.box (Zq (a0.getD v5.toNat Z5)).cells)), (16, (.map (Z19 Z1z Z3 v7))), (26, (.map (Z19 Z1i Z8 v))), (96, (.box [(.map 16), (.map 97), (.bool v6)])), (97, (.map (Z19 Zp Z6 v8))), (2000, (.vec 3 (List.map Zq a0)))]⟩) (k := K) (v := (0, ([] : List (Int × Zg)))) h ?_ ?_
    ·intro v h
     revert h
     revert v
     intro v25 h
     try dsimp only at h ⊢
     unfold Z98 at h
     refine Zi <| Zj <| Zd <| Z1 I (Zr (m := 6) (o := 0) I f39_1 I I) I <| Z1 I (Zy (cs := (Zq (a0.getD v5.toNat Z5)).cells) (v := (.int .i64 (a0.getD v5.toNat Z5).Weight)) I o3 I I I) I <| Z1 I (Zm (v := (.int .i64 (a0.getD v5.toNat Z5).Weight)) I I) I <| Zh <| Zi ?_
     refine Zj <| Zd <| Z1 I (Zl (v := (.sl 14 (v21.map Z8) false)) I I) I <| Z1 I (Z2d (l := v21) (enc := Z8) I s37 I) I <| Z1 I (Zl (v := (.int .i64 0)) I I) I <| Zh <| Zi <| AWp.weaken (st' := ⟨[(2, (.ptr 2 0)), (4, (.ptr 96 0)), (8, (.map 26)), (11, (.int .i64 (a0.getD v5.toNat Z5).Weight)), (17, (.vs 2000)), (18, (.int .i64 (a0.length : Int))), (19, (.int .i64 v5)), (40, (.sl 14 (v21.map Z8) false)), (41, (.int .i64 (v21.length : Int))), (42, (.int .i64 0))], [(2, (.box [(.sl 4 [] false), (.sl 5 [] false)])), (16, (.map (Z19 Z1z Z3 v7))), (26, (.map (Z19 Z1i Z8 v25))), (96, (.box [(.map 16), (.map 97), (.bool v6)])), (97, (.map (Z19 Zp Z6 v8))), (2000, (.vec 3 (List.map Zq a0)))]⟩) ⟨rfl, rfl, rfl, rfl, rfl, rfl, rfl, rfl, rfl, rfl, trivial⟩ ⟨rfl, rfl, rfl, rfl, rfl, rfl, trivial⟩ ?_
     refine Z1o (V := Int × Bool × (List (Str × Zf)) × (List (Zt × Zk))) (X := Bool × (List (Str × Zf)) × (List (Zt × Zk))) (lp := fun k v => Z3c K v21 a0 v5 v25 (Z6l K (Z4g K a0 (Z47 K) k9) v5) k v.1 v.2.1 v.2.2.1 v.2.2.2 = some r) (sh := fun v => ⟨[(2, (.ptr 2 0)), (4, (.ptr 96 0)), (8, (.map 26)), (11, (.int .i64 (a0.getD v5.toNat Z5).Weight)), (17, (.vs 2000)), (18, (.int .i64 (a0.length : Int))), (19, (.int .i64 v5)), (40, (.sl 14 (v21.map Z8) false)), (41, (.int .i64 (v21.length : Int))), (42, (.int .i64 v.1))], [(2, (.box [(.sl 4 [] false), (.sl 5 [] false)])), (16, (.map (Z19 Z1z Z3 v.2.2.1))), (26, (.map (Z19 Z1i Z8 v25))), (96, (.box [(.map 16), (.map 97), (.bool v.2.1)])), (97, (.map (Z19 Zp Z6 v.2.2.2))), (2000, (.vec 3 (List.map Zq a0)))]⟩) (x := fun v => Z6l K (Z4g K a0 (Z47 K) k9) v5 v.1 v.2.1 v.2.2 = some r) (shx := fun v => ⟨[(2, (.ptr 2 0)), (4, (.ptr 96 0)), (17, (.vs 2000)), (18, (.int .i64 (a0.length : Int))), (19, (.int .i64 v5))], [(2, (.box [(.sl 4 [] false), (.sl 5 [] false)])), (16, (.map (Z19 Z1z Z3 v.2.1))), (96, (.box [(.map 16), (.map 97), (.bool v.1)])), (97, (.map (Z19 Zp Z6 v.2.2))), (2000, (.vec 3 (List.map Zq a0)))]⟩) (k := K) (v := (0, v6, v7, v8)) h ?_ ?_
     ·intro v h
      obtain ⟨v33, v34, v35⟩ := v
      try dsimp only at h ⊢
      unfold Z6l at h
      refine At.end <| Zi <| Zd <| Z1 I (Z1k (k := .i64) (a := v5) (b := 1) (c := (IntKind.i64.wrap (v5 + 1))) I I I I) I <| Z1 I (Zl (v := (.int .i64 (IntKind.i64.wrap (v5 + 1)))) I I) I <| Zh ?_
      exact Z13 (st' := ⟨[(2, (.ptr 2 0)), (4, (.ptr 96 0)), (17, (.vs 2000)), (18, (.int .i64 (a0.length : Int))), (19, (.int .i64 (IntKind.i64.wrap (v5 + 1))))], [(2, (.box [(.sl 4 [] false), (.sl 5 [] false)])), (16, (.map (Z19 Z1z Z3 v34))), (96, (.box [(.map 16), (.map 97), (.bool v33)])), (97, (.map (Z19 Zp Z6 v35))), (2000, (.vec 3 (List.map Zq a0)))]⟩) ⟨rfl, rfl, rfl, rfl, rfl, trivial⟩ ⟨rfl, rfl, rfl, rfl, rfl, trivial⟩ (IH9 _ ((IntKind.i64.wrap (v5 + 1)), v33, v34, v35) (Nat.lt_succ_self _) h)
     ·intro N k32 v h IH32 J32
      obtain ⟨v28, v29, v30, v31⟩ := v
      try dsimp only at h IH32 J32 ⊢
      cases k32 with
      | zero => cases h
      | succ k32 =>
       rw [Z3c] at h
       refine Zj <| Zd <| Z1 I (Z1x (k := .i64) (a := v28) (b := (v21.length : Int)) (c := (decide (v28 < (v21.length : Int)))) I I I I) I <| Zh <| Zi <| Zj ?_
       have hif := Z1w h
       refine Z16 I (fun hc => ?_) (fun hc => ?_)
       ·have h := hif.1 hc
        refine Z1a <| Zi <| Zj ?_
        refine AWp.blockJoin (V := Bool × (List (Str × Zf)) × (List (Zt × Zk))) (lp := fun v => Zc8 K (Z3c K v21 a0 v5 v25 (Z6l K (Z4g K a0 (Z47 K) k9) v5) k32) v28 v.1 v.2.1 v.2.2 = some r) (sh := fun v => ⟨[(2, (.ptr 2 0)), (4, (.ptr 96 0)), (8, (.map 26)), (11, (.int .i64 (a0.getD v5.toNat Z5).Weight)), (17, (.vs 2000)), (18, (.int .i64 (a0.length : Int))), (19, (.int .i64 v5)), (40, (.sl 14 (v21.map Z8) false)), (41, (.int .i64 (v21.length : Int))), (42, (.int .i64 v28))], [(2, (.box [(.sl 4 [] false), (.sl 5 [] false)])), (16, (.map (Z19 Z1z Z3 v.2.1))), (26, (.map (Z19 Z1i Z8 v25))), (96, (.box [(.map 16), (.map 97), (.bool v.1)])), (97, (.map (Z19 Zp Z6 v.2.2))), (2000, (.vec 3 (List.map Zq a0)))]⟩) ?_ ?_
        ·intro v h
         obtain ⟨v39, v40, v41⟩ := v
         try dsimp only at h ⊢
         unfold Zc8 at h
         refine Zi <| Zd <| Z1 I (Z1k (k := .i64) (a := v28) (b := 1) (c := (IntKind.i64.wrap (v28 + 1))) I I I I) I <| Z1 I (Zl (v := (.int .i64 (IntKind.i64.wrap (v28 + 1)))) I I) I <| Zh ?_
         exact Z13 (st' := ⟨[(2, (.ptr 2 0)), (4, (.ptr 96 0)), (8, (.map 26)), (11, (.int .i64 (a0.getD v5.toNat Z5).Weight)), (17, (.vs 2000)), (18, (.int .i64 (a0.length : Int))), (19, (.int .i64 v5)), (40, (.sl 14 (v21.map Z8) false)), (41, (.int .i64 (v21.length : Int))), (42, (.int .i64 (IntKind.i64.wrap (v28 + 1))))], [(2, (.box [(.sl 4 [] false), (.sl 5 [] false)])), (16, (.map (Z19 Z1z Z3 v40))), (26, (.map (Z19 Z1i Z8 v25))), (96, (.box [(.map 16), (.map 97), (.bool v39)])), (97, (.map (Z19 Zp Z6 v41))), (2000, (.vec 3 (List.map Zq a0)))]⟩) ⟨rfl, rfl, rfl, rfl, rfl, rfl, rfl, rfl, rfl, rfl, trivial⟩ ⟨rfl, rfl, rfl, rfl, rfl, rfl, trivial⟩ (IH32 _ ((IntKind.i64.wrap (v28 + 1)), v39, v40, v41) (Nat.lt_succ_self _) h)
        ·intro J42
         refine Zj <| Zd ?_
         have ⟨hg43, h⟩ := Z14 h
         refine Z1 I (Z1s (k := .i64) (l := v21) (enc := Z8) (z := Z2) (n := v28) (cs := (Z8 (v21.getD v28.toNat Z2)).cells) (full := false) I s37 I I hg43 I) I <| Z1 I (Z2h (cs := (Z8 (v21.getD v28.toNat Z2)).cells) (vs := (Z8 (v21.getD v28.toNat Z2)).cells) I a56 I I I) I <| Z1 I (Z21 (cs := [(.int .i64 0), (.int .i64 0), (.int .i64 0), (.int .i64 0), (.int .i64 0), (.int .i64 0), (.str []), (.str []), (.str []), (.int .i64 0), (.int .i64 0), (.bool false), (.sl 4 [] false), (.sl 2 [] false)]) I z56 I I I) I <| Z1 I (Z1b (cs := [(.int .i64 0), (.int .i64 0), (.int .i64 0), (.int .i64 0), (.int .i64 0), (.int .i64 0), (.str []), (.str []), (.str []), (.int .i64 0), (.int .i64 0), (.bool false), (.sl 4 [] false), (.sl 2 [] false)]) (vs := (Z8 (v21.getD v28.toNat Z2)).cells) (ds := (Z8 (v21.getD v28.toNat Z2)).cells) (v := (Z8 (v21.getD v28.toNat Z2))) sz56 I I I I I I I I) I <| Zh <| Zi <| Zj <| Z1r mixed ?_
         refine Zb 0 I (Zl (v := (.ptr 96 0)) I I) <| Zb 1 I (Zr (m := 13) (o := 0) I Z87 I I) <| Zb 2 I (Zy (cs := (Z8 (v21.getD v28.toNat Z2)).cells) (v := (.str (v21.getD v28.toNat Z2).Service)) I o9 I I I) <| Zb 3 I (Zl (v := (.int .i64 (a0.getD v5.toNat Z5).Weight)) I I) <| Zb 4 I (Zr (m := 13) (o := 0) I Zao I I) <| Zb 5 I (Zy (cs := (Z8 (v21.getD v28.toNat Z2)).cells) (v := (.bool (v21.getD v28.toNat Z2).Error)) I o4 I I I) <| Zb 6 I (Zl (v := (.int .i64 (a0.getD v5.toNat Z5).Weight)) I I) ?_
         have ⟨v45, hv45, h⟩ := Z1d h
         refine Zb 7 I (Z1e (ar := [(.bool (v21.getD v28.toNat Z2).Error), (.int .i64 (a0.getD v5.toNat Z5).Weight)]) (caps := []) Tryz.call49 (F49_ok K (v21.getD v28.toNat Z2).Error (a0.getD v5.toNat Z5).Weight v45 hv45) I I ⟨rfl, rfl, trivial⟩ I) <| Zb 8 I (Zr (m := 13) (o := 0) I f56_2 I I) <| Zb 9 I (Zy (cs := (Z8 (v21.getD v28.toNat Z2)).cells) (v := (.int .i64 (v21.getD v28.toNat Z2).Parent)) I o3 I I I) <| Zb 10 I (Z1x (k := .i64) (a := (v21.getD v28.toNat Z2).Parent) (b := 0) (c := ((v21.getD v28.toNat Z2).Parent == 0)) I I I I) <| Zb 11 I (Zl (v := (.int .i64 (a0.getD v5.toNat Z5).Weight)) I I) ?_
         have ⟨v47, hv47, h⟩ := Z1d h
         refine Zb 12 I (Z1e (ar := [(.bool ((v21.getD v28.toNat Z2).Parent == 0)), (.int .i64 (a0.getD v5.toNat Z5).Weight)]) (caps := []) Tryz.call49 (F49_ok K ((v21.getD v28.toNat Z2).Parent == 0) (a0.getD v5.toNat Z5).Weight v47 hv47) I I ⟨rfl, rfl, trivial⟩ I) <| Zb 13 I (Z29 (vs := [(0, (.str (v21.getD v28.toNat Z2).Service)), (1, (.int .i64 (a0.getD v5.toNat Z5).Weight)), (2, (.int .i64 v45)), (3, (.int .i64 v47))]) (cs := [(.str (v21.getD v28.toNat Z2).Service), (.int .i64 (a0.getD v5.toNat Z5).Weight), (.int .i64 v45), (.int .i64 v47)]) I st68 ⟨rfl, rfl, rfl, rfl, rfl, rfl, rfl, rfl, trivial⟩ I) ?_
         have ⟨v49, hv49, h⟩ := Z1d h
         refine Zb 14 I (Z37 (d := some 60) (c := ⟨[(.ptr 96 0), (.ag [(.str (v21.getD v28.toNat Z2).Service), (.int .i64 (a0.getD v5.toNat Z5).Weight), (.int .i64 v45), (.int .i64 v47)])] ++ [], [(96, (.box [(.map 16), (.map 97), (.bool v29)])), (16, (.map (Z19 Z1z Z3 v30))), (97, (.map (Z19 Zp Z6 v31)))], (.tup []), [(96, (.box [(.map 16), (.map 97), (.bool v49.1)])), (16, (.map (Z19 Z1z Z3 v49.2))), (97, (.map (Z19 Zp Z6 v31)))], []⟩) (ar := [(.ptr 96 0), (.ag [(.str (v21.getD v28.toNat Z2).Service), (.int .i64 (a0.getD v5.toNat Z5).Weight), (.int .i64 v45), (.int .i64 v47)])]) (caps := []) (news := []) (forg := []) Tryz.call48 ((((F48_ok K (⟨(v21.getD v28.toNat Z2).Service, (a0.getD v5.toNat Z5).Weight, v45, v47⟩ : Zf) v29 v30 v31 v49 hv49).sw 2000 96).sw 2001 16).sw 2002 97) I I ⟨rfl, rfl, trivial⟩ I ⟨rfl, rfl, rfl, trivial⟩ I) <| Z1t (by kernel_rfl) I <| Zi <| Zj <| Zd <| Z1 I (Zl (v := (.map 26)) I I) I <| Z1 I (Zr (m := 13) (o := 0) I f56_2 I I) I <| Z1 I (Zy (cs := (Z8 (v21.getD v28.toNat Z2)).cells) (v := (.int .i64 (v21.getD v28.toNat Z2).Parent)) I o3 I I I) I ?_
         refine Z1 I (st_mlookupOk (l := v25) (a := (v21.getD v28.toNat Z2).Parent) (kv := (.int .i64 (v21.getD v28.toNat Z2).Parent)) I mt110 I I (.inl I) I I) I <| Z1 I (Zl (v := (.tup [(Z8 ((mget Z33 (v21.getD v28.toNat Z2).Parent v25).getD Z2)), (.bool (mget Z33 (v21.getD v28.toNat Z2).Parent v25).isSome)])) I I) I <| Z1 I (Z2g (vs := [(Z8 ((mget Z33 (v21.getD v28.toNat Z2).Parent v25).getD Z2)), (.bool (mget Z33 (v21.getD v28.toNat Z2).Parent v25).isSome)]) (v := (Z8 ((mget Z33 (v21.getD v28.toNat Z2).Parent v25).getD Z2))) I I I) I <| Z1 I (Z2g (vs := [(Z8 ((mget Z33 (v21.getD v28.toNat Z2).Parent v25).getD Z2)), (.bool (mget Z33 (v21.getD v28.toNat Z2).Parent v25).isSome)]) (v := (.bool (mget Z33 (v21.getD v28.toNat Z2).Parent v25).isSome)) I I I) I <| Z1 I (Z21 (cs := [(.int .i64 0), (.int .i64 0), (.int .i64 0), (.int .i64 0), (.int .i64 0), (.int .i64 0), (.str []), (.str []), (.str []), (.int .i64 0), (.int .i64 0), (.bool false), (.sl 4 [] false), (.sl 2 [] false)]) I z56 I I I) I <| Z1 I (Z1b (cs := [(.int .i64 0), (.int .i64 0), (.int .i64 0), (.int .i64 0), (.int .i64 0), (.int .i64 0), (.str []), (.str []), (.str []), (.int .i64 0), (.int .i64 0), (.bool false), (.sl 4 [] false), (.sl 2 [] false)]) (vs := (Z8 ((mget Z33 (v21.getD v28.toNat Z2).Parent v25).getD Z2)).cells) (ds := (Z8 ((mget Z33 (v21.getD v28.toNat Z2).Parent v25).getD Z2)).cells) (v := (Z8 ((mget Z33 (v21.getD v28.toNat Z2).Parent v25).getD Z2))) sz56 I I I I I I I I) I <| Z1 I (Zm (v := (.bool (mget Z33 (v21.getD v28.toNat Z2).Parent v25).isSome)) I I) I <| Zh ?_
         refine Zi <| Zj <| Zd <| Z1 I (Zl (v := (.bool (mget Z33 (v21.getD v28.toNat Z2).Parent v25).isSome)) I I) I <| Z1 I (Zl (v := (.bool (mget Z33 (v21.getD v28.toNat Z2).Parent v25).isSome)) I I) I ?_
         have hif := Z1w h
         refine AOps.split (fun hc => ?_) (fun hc => ?_)
         ·have h := hif.1 hc
          refine Zz I I I I (Zr (m := 14) (o := 0) I Z87 I I) I <| Zz I I I I (Zy (cs := (Z8 ((mget Z33 (v21.getD v28.toNat Z2).Parent v25).getD Z2)).cells) (v := (.str ((mget Z33 (v21.getD v28.toNat Z2).Parent v25).getD Z2).Service)) I o9 I I I) I <| Zz I I I I (Zr (m := 13) (o := 0) I Z87 I I) I <| Zz I I I I (Zy (cs := (Z8 (v21.getD v28.toNat Z2)).cells) (v := (.str (v21.getD v28.toNat Z2).Service)) I o9 I I I) I <| Zz I I I I (Z3d (a := ((mget Z33 (v21.getD v28.toNat Z2).Parent v25).getD Z2).Service) (b := (v21.getD v28.toNat Z2).Service) (c := (!(((mget Z33 (v21.getD v28.toNat Z2).Parent v25).getD Z2).Service == (v21.getD v28.toNat Z2).Service))) I I I I) I <| Z1 I (Z23 (v := (.bool (!(((mget Z33 (v21.getD v28.toNat Z2).Parent v25).getD Z2).Service == (v21.getD v28.toNat Z2).Service)))) I I I) I <| Zh <| Zi ?_
          refine AWp.join (V := Bool × (List (Zt × Zk))) (lp := fun v => Zaq K (Z3c K v21 a0 v5 v25 (Z6l K (Z4g K a0 (Z47 K) k9) v5) k32) v28 v49 v.1 v.2 = some r) (sh := fun v => ⟨[(2, (.ptr 2 0)), (4, (.ptr 96 0)), (8, (.map 26)), (11, (.int .i64 (a0.getD v5.toNat Z5).Weight)), (17, (.vs 2000)), (18, (.int .i64 (a0.length : Int))), (19, (.int .i64 v5)), (40, (.sl 14 (v21.map Z8) false)), (41, (.int .i64 (v21.length : Int))), (42, (.int .i64 v28))], [(2, (.box [(.sl 4 [] false), (.sl 5 [] false)])), (16, (.map (Z19 Z1z Z3 v49.2))), (26, (.map (Z19 Z1i Z8 v25))), (96, (.box [(.map 16), (.map 97), (.bool v.1)])), (97, (.map (Z19 Zp Z6 v.2))), (2000, (.vec 3 (List.map Zq a0)))]⟩) ?_ ?_
          ·intro v h
           obtain ⟨v50, v51⟩ := v
           try dsimp only at h ⊢
           unfold Zaq at h
           refine At.end ?_
           exact Z13 (st' := ⟨[(2, (.ptr 2 0)), (4, (.ptr 96 0)), (8, (.map 26)), (11, (.int .i64 (a0.getD v5.toNat Z5).Weight)), (17, (.vs 2000)), (18, (.int .i64 (a0.length : Int))), (19, (.int .i64 v5)), (40, (.sl 14 (v21.map Z8) false)), (41, (.int .i64 (v21.length : Int))), (42, (.int .i64 v28))], [(2, (.box [(.sl 4 [] false), (.sl 5 [] false)])), (16, (.map (Z19 Z1z Z3 v49.2))), (26, (.map (Z19 Z1i Z8 v25))), (96, (.box [(.map 16), (.map 97), (.bool v50)])), (97, (.map (Z19 Zp Z6 v51))), (2000, (.vec 3 (List.map Zq a0)))]⟩) ⟨rfl, rfl, rfl, rfl, rfl, rfl, rfl, rfl, rfl, rfl, trivial⟩ ⟨rfl, rfl, rfl, rfl, rfl, rfl, trivial⟩ (J42 (v50, v49.2, v51) h)
          ·intro J52
           have hif := Z1w h
           refine Z16 I (fun hc => ?_) (fun hc => ?_)
           ·have h := hif.1 hc
            refine Z1r mixed <| Zb 0 I (Zl (v := (.ptr 96 0)) I I) <| Zb 1 I (Zr (m := 14) (o := 0) I Z87 I I) <| Zb 2 I (Zy (cs := (Z8 ((mget Z33 (v21.getD v28.toNat Z2).Parent v25).getD Z2)).cells) (v := (.str ((mget Z33 (v21.getD v28.toNat Z2).Parent v25).getD Z2).Service)) I o9 I I I) <| Zb 3 I (Zr (m := 13) (o := 0) I Z87 I I) <| Zb 4 I (Zy (cs := (Z8 (v21.getD v28.toNat Z2)).cells) (v := (.str (v21.getD v28.toNat Z2).Service)) I o9 I I I) <| Zb 5 I (Zl (v := (.int .i64 (a0.getD v5.toNat Z5).Weight)) I I) <| Zb 6 I (Zr (m := 13) (o := 0) I Zao I I) ?_
            refine Zb 7 I (Zy (cs := (Z8 (v21.getD v28.toNat Z2)).cells) (v := (.bool (v21.getD v28.toNat Z2).Error)) I o4 I I I) <| Zb 8 I (Zl (v := (.int .i64 (a0.getD v5.toNat Z5).Weight)) I I) ?_
            have ⟨v54, hv54, h⟩ := Z1d h
            refine Zb 9 I (Z1e (ar := [(.bool (v21.getD v28.toNat Z2).Error), (.int .i64 (a0.getD v5.toNat Z5).Weight)]) (caps := []) Tryz.call49 (F49_ok K (v21.getD v28.toNat Z2).Error (a0.getD v5.toNat Z5).Weight v54 hv54) I I ⟨rfl, rfl, trivial⟩ I) <| Zb 10 I (Z1n (cs := (Z8 (v21.getD v28.toNat Z2)).cells) (vs := (Z8 (v21.getD v28.toNat Z2)).cells) I a56 I I I I) ?_
            have ⟨v56, hv56, h⟩ := Z1d h
            refine Zb 11 I (Z1e (ar := [(Z8 (v21.getD v28.toNat Z2))]) (caps := []) Tryz.call51 (F51_ok K (v21.getD v28.toNat Z2) v56 hv56) I I ⟨rfl, trivial⟩ I) <| Zb 12 I (Zl (v := (.int .i64 (a0.getD v5.toNat Z5).Weight)) I I) <| Zb 13 I (Z1k (k := .i64) (a := v56) (b := (a0.getD v5.toNat Z5).Weight) (c := (IntKind.i64.wrap (v56 * (a0.getD v5.toNat Z5).Weight))) I I I I) <| Zb 14 I (Z29 (vs := [(0, (.str ((mget Z33 (v21.getD v28.toNat Z2).Parent v25).getD Z2).Service)), (1, (.str (v21.getD v28.toNat Z2).Service)), (2, (.int .i64 (a0.getD v5.toNat Z5).Weight)), (3, (.int .i64 v54)), (4, (.int .i64 (IntKind.i64.wrap (v56 * (a0.getD v5.toNat Z5).Weight))))]) (cs := [(.str ((mget Z33 (v21.getD v28.toNat Z2).Parent v25).getD Z2).Service), (.str (v21.getD v28.toNat Z2).Service), (.int .i64 (a0.getD v5.toNat Z5).Weight), (.int .i64 v54), (.int .i64 (IntKind.i64.wrap (v56 * (a0.getD v5.toNat Z5).Weight)))]) I st88 ⟨rfl, rfl, rfl, rfl, rfl, rfl, rfl, rfl, rfl, rfl, trivial⟩ I) ?_
            have ⟨v58, hv58, h⟩ := Z1d h
            refine Zb 15 I (Z37 (d := some 91) (c := ⟨[(.ptr 96 0), (.ag [(.str ((mget Z33 (v21.getD v28.toNat Z2).Parent v25).getD Z2).Service), (.str (v21.getD v28.toNat Z2).Service), (.int .i64 (a0.getD v5.toNat Z5).Weight), (.int .i64 v54), (.int .i64 (IntKind.i64.wrap (v56 * (a0.getD v5.toNat Z5).Weight)))])] ++ [], [(96, (.box [(.map 16), (.map 97), (.bool v49.1)])), (16, (.map (Z19 Z1z Z3 v49.2))), (97, (.map (Z19 Zp Z6 v31)))], (.tup []), [(96, (.box [(.map 16), (.map 97), (.bool v58.1)])), (16, (.map (Z19 Z1z Z3 v49.2))), (97, (.map (Z19 Zp Z6 v58.2)))], []⟩) (ar := [(.ptr 96 0), (.ag [(.str ((mget Z33 (v21.getD v28.toNat Z2).Parent v25).getD Z2).Service), (.str (v21.getD v28.toNat Z2).Service), (.int .i64 (a0.getD v5.toNat Z5).Weight), (.int .i64 v54), (.int .i64 (IntKind.i64.wrap (v56 * (a0.getD v5.toNat Z5).Weight)))])]) (caps := []) (news := []) (forg := []) Tryz.call50 ((((F50_ok K (⟨((mget Z33 (v21.getD v28.toNat Z2).Parent v25).getD Z2).Service, (v21.getD v28.toNat Z2).Service, (a0.getD v5.toNat Z5).Weight, v54, (IntKind.i64.wrap (v56 * (a0.getD v5.toNat Z5).Weight))⟩ : Zk) v49.1 v49.2 v31 v58 hv58).sw 2000 96).sw 2001 16).sw 2002 97) I I ⟨rfl, rfl, trivial⟩ I ⟨rfl, rfl, rfl, trivial⟩ I) <| Z1t (by kernel_rfl) I ?_
            exact Z13 (st' := ⟨[(2, (.ptr 2 0)), (4, (.ptr 96 0)), (8, (.map 26)), (11, (.int .i64 (a0.getD v5.toNat Z5).Weight)), (17, (.vs 2000)), (18, (.int .i64 (a0.length : Int))), (19, (.int .i64 v5)), (40, (.sl 14 (v21.map Z8) false)), (41, (.int .i64 (v21.length : Int))), (42, (.int .i64 v28))], [(2, (.box [(.sl 4 [] false), (.sl 5 [] false)])), (16, (.map (Z19 Z1z Z3 v49.2))), (26, (.map (Z19 Z1i Z8 v25))), (96, (.box [(.map 16), (.map 97), (.bool v58.1)])), (97, (.map (Z19 Zp Z6 v58.2))), (2000, (.vec 3 (List.map Zq a0)))]⟩) ⟨rfl, rfl, rfl, rfl, rfl, rfl, rfl, rfl, rfl, rfl, trivial⟩ ⟨rfl, rfl, rfl, rfl, rfl, rfl, trivial⟩ (J52 (v58.1, v58.2) h)
           ·have h := hif.2 hc
            refine Z1a ?_
            exact Z13 (st' := ⟨[(2, (.ptr 2 0)), (4, (.ptr 96 0)), (8, (.map 26)), (11, (.int .i64 (a0.getD v5.toNat Z5).Weight)), (17, (.vs 2000)), (18, (.int .i64 (a0.length : Int))), (19, (.int .i64 v5)), (40, (.sl 14 (v21.map Z8) false)), (41, (.int .i64 (v21.length : Int))), (42, (.int .i64 v28))], [(2, (.box [(.sl 4 [] false), (.sl 5 [] false)])), (16, (.map (Z19 Z1z Z3 v49.2))), (26, (.map (Z19 Z1i Z8 v25))), (96, (.box [(.map 16), (.map 97), (.bool v49.1)])), (97, (.map (Z19 Zp Z6 v31))), (2000, (.vec 3 (List.map Zq a0)))]⟩) ⟨rfl, rfl, rfl, rfl, rfl, rfl, rfl, rfl, rfl, rfl, trivial⟩ ⟨rfl, rfl, rfl, rfl, rfl, rfl, trivial⟩ (J52 (v49.1, v31) h)
         ·have h := hif.2 hc
          refine Zs I I I I I I I <| Zs I I I I I I I <| Zs I I I I I I I <| Zs I I I I I I I <| Zs I I I I I I I <| Z1 I (Z20 (v := (.bool false)) I I I) I <| Zh <| Zi ?_
          refine Z16 (b := false) I (fun hc => ?_) (fun hc => ?_)
          ·cases hc
          refine Z1a <| At.end ?_
          exact Z13 (st' := ⟨[(2, (.ptr 2 0)), (4, (.ptr 96 0)), (8, (.map 26)), (11, (.int .i64 (a0.getD v5.toNat Z5).Weight)), (17, (.vs 2000)), (18, (.int .i64 (a0.length : Int))), (19, (.int .i64 v5)), (40, (.sl 14 (v21.map Z8) false)), (41, (.int .i64 (v21.length : Int))), (42, (.int .i64 v28))], [(2, (.box [(.sl 4 [] false), (.sl 5 [] false)])), (16, (.map (Z19 Z1z Z3 v49.2))), (26, (.map (Z19 Z1i Z8 v25))), (96, (.box [(.map 16), (.map 97), (.bool v49.1)])), (97, (.map (Z19 Zp Z6 v31))), (2000, (.vec 3 (List.map Zq a0)))]⟩) ⟨rfl, rfl, rfl, rfl, rfl, rfl, rfl, rfl, rfl, rfl, trivial⟩ ⟨rfl, rfl, rfl, rfl, rfl, rfl, trivial⟩ (J42 (v49.1, v49.2, v31) h)
       ·have h := hif.2 hc
        refine AWp.exit <| At.thru ?_
        exact Z13 (st' := ⟨[(2, (.ptr 2 0)), (4, (.ptr 96 0)), (17, (.vs 2000)), (18, (.int .i64 (a0.length : Int))), (19, (.int .i64 v5))], [(2, (.box [(.sl 4 [] false), (.sl 5 [] false)])), (16, (.map (Z19 Z1z Z3 v30))), (96, (.box [(.map 16), (.map 97), (.bool v29)])), (97, (.map (Z19 Zp Z6 v31))), (2000, (.vec 3 (List.map Zq a0)))]⟩) ⟨rfl, rfl, rfl, rfl, rfl, trivial⟩ ⟨rfl, rfl, rfl, rfl, rfl, trivial⟩ (J32 (v29, v30, v31) h)
    ·intro N k24 v h IH24 J24
     obtain ⟨v22, v23⟩ := v
     try dsimp only at h IH24 J24 ⊢
     cases k24 with
     | zero => cases h
     | succ k24 =>
      rw [Z7w] at h
      refine Zj <| Zd <| Z1 I (Z1x (k := .i64) (a := v22) (b := (v21.length : Int)) (c := (decide (v22 < (v21.length : Int)))) I I I I) I <| Zh <| Zi <| Zj ?_
      have hif := Z1w h
      refine Z16 I (fun hc => ?_) (fun hc => ?_)
      ·have h := hif.1 hc
       refine Z1a <| Zi <| Zj <| AWp.block <| Zj <| Zd ?_
       have ⟨hg60, h⟩ := Z14 h
       refine Z1 I (Z1s (k := .i64) (l := v21) (enc := Z8) (z := Z2) (n := v22) (cs := (Z8 (v21.getD v22.toNat Z2)).cells) (full := false) I s37 I I hg60 I) I <| Z1 I (Z2h (cs := (Z8 (v21.getD v22.toNat Z2)).cells) (vs := (Z8 (v21.getD v22.toNat Z2)).cells) I a56 I I I) I <| Z1 I (Z21 (cs := [(.int .i64 0), (.int .i64 0), (.int .i64 0), (.int .i64 0), (.int .i64 0), (.int .i64 0), (.str []), (.str []), (.str []), (.int .i64 0), (.int .i64 0), (.bool false), (.sl 4 [] false), (.sl 2 [] false)]) I z56 I I I) I <| Z1 I (Z1b (cs := [(.int .i64 0), (.int .i64 0), (.int .i64 0), (.int .i64 0), (.int .i64 0), (.int .i64 0), (.str []), (.str []), (.str []), (.int .i64 0), (.int .i64 0), (.bool false), (.sl 4 [] false), (.sl 2 [] false)]) (vs := (Z8 (v21.getD v22.toNat Z2)).cells) (ds := (Z8 (v21.getD v22.toNat Z2)).cells) (v := (Z8 (v21.getD v22.toNat Z2))) sz56 I I I I I I I I) I <| Zh <| Zi <| Zd <| Z1 I (Zl (v := (.map 26)) I I) I ?_
       refine Z1 I (Zr (m := 10) (o := 0) I f56_1 I I) I <| Z1 I (Zy (cs := (Z8 (v21.getD v22.toNat Z2)).cells) (v := (.int .i64 (v21.getD v22.toNat Z2).Id)) I o3 I I I) I <| Z1 I (Z1n (cs := (Z8 (v21.getD v22.toNat Z2)).cells) (vs := (Z8 (v21.getD v22.toNat Z2)).cells) I a56 I I I I) I <| Z1 I (Z6e (l := v23) (a := (v21.getD v22.toNat Z2).Id) (b := (v21.getD v22.toNat Z2)) (kv := (.int .i64 (v21.getD v22.toNat Z2).Id)) (vv := (Z8 (v21.getD v22.toNat Z2))) mt110 I I I I I I) I <| Zh <| At.end <| Zi <| Zd ?_
       refine Z1 I (Z1k (k := .i64) (a := v22) (b := 1) (c := (IntKind.i64.wrap (v22 + 1))) I I I I) I <| Z1 I (Zl (v := (.int .i64 (IntKind.i64.wrap (v22 + 1)))) I I) I <| Zh ?_
       exact Z13 (st' := ⟨[(2, (.ptr 2 0)), (4, (.ptr 96 0)), (6, (.ptr 6 0)), (7, (.sl 14 (v21.map Z8) false)), (8, (.map 26)), (17, (.vs 2000)), (18, (.int .i64 (a0.length : Int))), (19, (.int .i64 v5)), (27, (.sl 14 (v21.map Z8) false)), (28, (.int .i64 (v21.length : Int))), (29, (.int .i64 (IntKind.i64.wrap (v22 + 1))))], [(2, (.box [(.sl 4 [] false), (.sl 5 [] false)])), (6, (.box (Zq (a0.getD v5.toNat Z5)).cells)), (16, (.map (Z19 Z1z Z3 v7))), (26, (.map (Z19 Z1i Z8 (mput Z33 (v21.getD v22.toNat Z2).Id (v21.getD v22.toNat Z2) v23)))), (96, (.box [(.map 16), (.map 97), (.bool v6)])), (97, (.map (Z19 Zp Z6 v8))), (2000, (.vec 3 (List.map Zq a0)))]⟩) ⟨rfl, rfl, rfl, rfl, rfl, rfl, rfl, rfl, rfl, rfl, rfl, trivial⟩ ⟨rfl, rfl, rfl, rfl, rfl, rfl, rfl, trivial⟩ (IH24 _ ((IntKind.i64.wrap (v22 + 1)), (mput Z33 (v21.getD v22.toNat Z2).Id (v21.getD v22.toNat Z2) v23)) (Nat.lt_succ_self _) h)
      ·have h := hif.2 hc
       refine AWp.exit <| At.thru ?_
       exact Z13 (st' := ⟨[(2, (.ptr 2 0)), (4, (.ptr 96 0)), (6, (.ptr 6 0)), (7, (.sl 14 (v21.map Z8) false)), (8, (.map 26)), (17, (.vs 2000)), (18, (.int .i64 (a0.length : Int))), (19, (.int .i64 v5))], [(2, (.box [(.sl 4 [] false), (.sl 5 [] false)])), (6, (.box (Zq (a0.getD v5.toNat Z5)).cells)), (16, (.map (Z19 Z1z Z3 v7))), (26, (.map (Z19 Z1i Z8 v23))), (96, (.box [(.map 16), (.map 97), (.bool v6)])), (97, (.map (Z19 Zp Z6 v8))), (2000, (.vec 3 (List.map Zq a0)))]⟩) ⟨rfl, rfl, rfl, rfl, rfl, rfl, rfl, rfl, trivial⟩ ⟨rfl, rfl, rfl, rfl, rfl, rfl, rfl, trivial⟩ (J24 v23 h)
   ·have h := hif.2 hc
    refine AWp.exit <| At.thru ?_
    exact Z13 (st' := ⟨[(2, (.ptr 2 0)), (4, (.ptr 96 0))], [(2, (.box [(.sl 4 [] false), (.sl 5 [] false)])), (16, (.map (Z19 Z1z Z3 v7))), (96, (.box [(.map 16), (.map 97), (.bool v6)])), (97, (.map (Z19 Zp Z6 v8))), (2000, (.vec 3 (List.map Zq a0)))]⟩) ⟨rfl, rfl, trivial⟩ ⟨rfl, rfl, rfl, rfl, rfl, trivial⟩ (J9 (v6, v7, v8) h)
def Zdj (K : Nat) : Option (Bool) :=
 some true
def Zat (K : Nat) (a0 : Ze) (a1 : Ze) (c8 : Option (Bool)) : Nat → Int → Option (Bool)
 | 0, _ => none
 | k6 + 1, v5 =>
  if (decide (v5 < (a0.Calls.length : Int))) = true then
   if (0 : Int) ≤ v5 ∧ v5 < a0.Calls.length then
    if (0 : Int) ≤ v5 ∧ v5 < a1.Calls.length then
     if (!(((a0.Calls.getD v5.toNat Za).Caller == (a1.Calls.getD v5.toNat Za).Caller) && (((a0.Calls.getD v5.toNat Za).Callee == (a1.Calls.getD v5.toNat Za).Callee) && (((a0.Calls.getD v5.toNat Za).Count == (a1.Calls.getD v5.toNat Za).Count) && (((a0.Calls.getD v5.toNat Za).Errors == (a1.Calls.getD v5.toNat Za).Errors) && (((a0.Calls.getD v5.toNat Za).Time == (a1.Calls.getD v5.toNat Za).Time) && true)))))) = true then
      some false
     else
      (Zat K a0 a1 c8 k6) (IntKind.i64.wrap (v5 + 1))
    else none
   else none
  else
   c8
def Zcj (K : Nat) (a0 : Ze) (a1 : Ze) : Option (Bool) :=
 Zat K a0 a1 (Zdj K) K 0
def Zbl (K : Nat) (a0 : Ze) (a1 : Ze) (c4 : Option (Bool)) : Nat → Int → Option (Bool)
 | 0, _ => none
 | k2 + 1, v1 =>
  if (decide (v1 < (a0.Services.length : Int))) = true then
   if (0 : Int) ≤ v1 ∧ v1 < a0.Services.length then
    if (0 : Int) ≤ v1 ∧ v1 < a1.Services.length then
     if (!(((a0.Services.getD v1.toNat Z9).Name == (a1.Services.getD v1.toNat Z9).Name) && (((a0.Services.getD v1.toNat Z9).Spans == (a1.Services.getD v1.toNat Z9).Spans) && (((a0.Services.getD v1.toNat Z9).Errors == (a1.Services.getD v1.toNat Z9).Errors) && (((a0.Services.getD v1.toNat Z9).Roots == (a1.Services.getD v1.toNat Z9).Roots) && true))))) = true then
      some false
     else
      (Zbl K a0 a1 c4 k2) (IntKind.i64.wrap (v1 + 1))
    else none
   else none
  else
   c4
def F19 (K : Nat) (a0 : Ze) (a1 : Ze) : Option (Bool) :=
 if ((a0.Services.length : Int) != (a1.Services.length : Int)) = true then
  some false
 else
  if ((a0.Calls.length : Int) != (a1.Calls.length : Int)) = true then
   some false
  else
   Zbl K a0 a1 (Zcj K a0 a1) K 0
theorem F19_ok (K : Nat) (a0 : Ze) (a1 : Ze) (r : Bool) (h : F19 K a0 a1 = some r) : ACall P 19 ⟨[(Zc a0), (Zc a1)], [], (.bool r), [], []⟩ := by
 refine Z1q Tryz.func19 Tryz.results19 rfl Tryz.ntmps19 rfl rfl rfl ?_
 intro E Q hP hN hro hret
 obtain ⟨P', nt', w0, F0, p0, S0, β0, ro0⟩ := E
 simp only at hP hN
 subst hP hN
 dsimp only [argT]
 unfold F19 at h
 refine Zj <| Zd <| Z1 I (Z2o (v := (Zc a0)) (cs := (Zc a0).cells) I I I I I) I <| Z1 I (Z2o (v := (Zc a1)) (cs := (Zc a1).cells) I I I I I) I <| Z1 I (Zm (v := (.bool false)) I I) I <| Zh <| Zi <| Zj ?_
 refine Zj <| Zd <| Z1 I (Zr (m := 2) (o := 0) I Z4y I I) I <| Z1 I (Zy (cs := (Zc a0).cells) (v := (.sl 4 (a0.Services.map Z3) false)) I o41 I I I) I <| Z1 I (Z2d (l := a0.Services) (enc := Z3) I s41 I) I <| Z1 I (Zr (m := 3) (o := 0) I Z4y I I) I <| Z1 I (Zy (cs := (Zc a1).cells) (v := (.sl 4 (a1.Services.map Z3) false)) I o41 I I I) I <| Z1 I (Z2d (l := a1.Services) (enc := Z3) I s41 I) I ?_
 refine Z1 I (Z1x (k := .i64) (a := (a0.Services.length : Int)) (b := (a1.Services.length : Int)) (c := ((a0.Services.length : Int) != (a1.Services.length : Int))) I I I I) I <| Z1 I (Zl (v := (.bool ((a0.Services.length : Int) != (a1.Services.length : Int)))) I I) I ?_
 have hif := Z1w h
 refine AOps.split (fun hc => ?_) (fun hc => ?_)
 ·have h := hif.1 hc
  refine Zs I I I I I I I <| Zs I I I I I I I <| Zs I I I I I I I <| Zs I I I I I I I <| Zs I I I I I I I <| Zs I I I I I I I <| Zs I I I I I I I <| Z1 I (Z23 (v := (.bool true)) I I I) I ?_
  refine Zh <| Zi ?_
  refine Z16 (b := true) I (fun hc => ?_) (fun hc => ?_)
  rotate_left
  ·cases hc
  refine Zj <| Zd <| Z1 I (Zm (v := (.bool false)) I I) I <| Zh <| Zi <| Z1c <| Z18 ?_
  have h := Option.some.inj h
  subst h
  refine (hret _ ?_).1
  exact ⟨[(.bool false)], ⟨rfl, trivial⟩, rfl, trivial⟩
 ·have h := hif.2 hc
  refine Zz I I I I (Zr (m := 2) (o := 0) I Z59 I I) I <| Zz I I I I (Zy (cs := (Zc a0).cells) (v := (.sl 5 (a0.Calls.map Z6) false)) I o42 I I I) I <| Zz I I I I (Z2d (l := a0.Calls) (enc := Z6) I s42 I) I <| Zz I I I I (Zr (m := 3) (o := 0) I Z59 I I) I <| Zz I I I I (Zy (cs := (Zc a1).cells) (v := (.sl 5 (a1.Calls.map Z6) false)) I o42 I I I) I <| Zz I I I I (Z2d (l := a1.Calls) (enc := Z6) I s42 I) I <| Zz I I I I (Z1x (k := .i64) (a := (a0.Calls.length : Int)) (b := (a1.Calls.length : Int)) (c := ((a0.Calls.length : Int) != (a1.Calls.length : Int))) I I I I) I <| Z1 I (Z20 (v := (.bool ((a0.Calls.length : Int) != (a1.Calls.length : Int)))) I I I) I ?_
  refine Zh <| Zi ?_
  have hif := Z1w h
  refine Z16 I (fun hc => ?_) (fun hc => ?_)
  ·have h := hif.1 hc
   refine Zj <| Zd <| Z1 I (Zm (v := (.bool false)) I I) I <| Zh <| Zi <| Z1c <| Z18 ?_
   have h := Option.some.inj h
   subst h
   refine (hret _ ?_).1
   exact ⟨[(.bool false)], ⟨rfl, trivial⟩, rfl, trivial⟩
  ·have h := hif.2 hc
   refine Z1a <| Zi <| Zj <| Zj <| Zd <| Z1 I (Zm (v := (.int .i64 0)) I I) I <| Zh <| Zi ?_
   refine AWp.weaken (st' := ⟨[(2, (.ptr 2 0)), (3, (.ptr 3 0)), (5, (.int .i64 0))], [(2, (.box (Zc a0).cells)), (3, (.box (Zc a1).cells))]⟩) ⟨rfl, rfl, rfl, trivial⟩ ⟨rfl, rfl, trivial⟩ ?_
   refine Z1o (V := Int) (X := Unit) (lp := fun k v => Zbl K a0 a1 (Zcj K a0 a1) k v = some r) (sh := fun v => ⟨[(2, (.ptr 2 0)), (3, (.ptr 3 0)), (5, (.int .i64 v))], [(2, (.box (Zc a0).cells)), (3, (.box (Zc a1).cells))]⟩) (x := fun v => Zcj K a0 a1 = some r) (shx := fun v => ⟨[(2, (.ptr 2 0)), (3, (.ptr 3 0))], [(2, (.box (Zc a0).cells)), (3, (.box (Zc a1).cells))]⟩) (k := K) (v := 0) h ?_ ?_
   ·intro v h
    try dsimp only at h ⊢
    unfold Zcj at h
    refine Zi <| Zj <| Zj <| Zd <| Z1 I (Zm (v := (.int .i64 0)) I I) I <| Zh <| Zi <| AWp.weaken (st' := ⟨[(2, (.ptr 2 0)), (3, (.ptr 3 0)), (6, (.int .i64 0))], [(2, (.box (Zc a0).cells)), (3, (.box (Zc a1).cells))]⟩) ⟨rfl, rfl, rfl, trivial⟩ ⟨rfl, rfl, trivial⟩ ?_
    refine Z1o (V := Int) (X := Unit) (lp := fun k v => Zat K a0 a1 (Zdj K) k v = some r) (sh := fun v => ⟨[(2, (.ptr 2 0)), (3, (.ptr 3 0)), (6, (.int .i64 v))], [(2, (.box (Zc a0).cells)), (3, (.box (Zc a1).cells))]⟩) (x := fun v => Zdj K = some r) (shx := fun v => ⟨[], []⟩) (k := K) (v := 0) h ?_ ?_
    ·intro v h
     try dsimp only at h ⊢
     unfold Zdj at h
     refine Zi <| Zj <| Zd <| Z1 I (Zm (v := (.bool true)) I I) I <| Zh <| Zi <| Z1c ?_
     have h := Option.some.inj h
     subst h
     refine (hret _ ?_).1
     exact ⟨[(.bool true)], ⟨rfl, trivial⟩, rfl, trivial⟩
    ·intro N k6 v h IH6 J6
     revert h
     revert v
     intro v5 h
     try dsimp only at h IH6 J6 ⊢
     cases k6 with
     | zero => cases h
     | succ k6 =>
      rw [Zat] at h
      refine Zj <| Zj <| Zd <| Z1 I (Zl (v := (.int .i64 v5)) I I) I <| Z1 I (Zr (m := 2) (o := 0) I Z59 I I) I <| Z1 I (Zy (cs := (Zc a0).cells) (v := (.sl 5 (a0.Calls.map Z6) false)) I o42 I I I) I <| Z1 I (Z2d (l := a0.Calls) (enc := Z6) I s42 I) I <| Z1 I (Z1x (k := .i64) (a := v5) (b := (a0.Calls.length : Int)) (c := (decide (v5 < (a0.Calls.length : Int)))) I I I I) I ?_
      refine Zh <| Zi ?_
      have hif := Z1w h
      refine Z16 I (fun hc => ?_) (fun hc => ?_)
      ·have h := hif.1 hc
       refine Z1a <| Zi <| Zj <| AWp.block <| Zj <| Z1r mixed <| Zb 0 I (Zr (m := 2) (o := 0) I Z59 I I) <| Zb 1 I (Zy (cs := (Zc a0).cells) (v := (.sl 5 (a0.Calls.map Z6) false)) I o42 I I I) ?_
       refine Zb 2 I (Zl (v := (.int .i64 v5)) I I) ?_
       have ⟨hg10, h⟩ := Z14 h
       refine Zb 3 I (Z1s (k := .i64) (l := a0.Calls) (enc := Z6) (z := Za) (n := v5) (cs := (Z6 (a0.Calls.getD v5.toNat Za)).cells) (full := false) I s42 I I hg10 I) <| Zb 4 I (Z2h (cs := (Z6 (a0.Calls.getD v5.toNat Za)).cells) (vs := (Z6 (a0.Calls.getD v5.toNat Za)).cells) I a88 I I I) <| Zb 5 I (Zr (m := 3) (o := 0) I Z59 I I) <| Zb 6 I (Zy (cs := (Zc a1).cells) (v := (.sl 5 (a1.Calls.map Z6) false)) I o42 I I I) <| Zb 7 I (Zl (v := (.int .i64 v5)) I I) ?_
       have ⟨hg11, h⟩ := Z14 h
       refine Zb 8 I (Z1s (k := .i64) (l := a1.Calls) (enc := Z6) (z := Za) (n := v5) (cs := (Z6 (a1.Calls.getD v5.toNat Za)).cells) (full := false) I s42 I I hg11 I) <| Zb 9 I (Z2h (cs := (Z6 (a1.Calls.getD v5.toNat Za)).cells) (vs := (Z6 (a1.Calls.getD v5.toNat Za)).cells) I a88 I I I) <| Zb 10 I (st_cmpA (xs := (Z6 (a0.Calls.getD v5.toNat Za)).cells) (ys := (Z6 (a1.Calls.getD v5.toNat Za)).cells) (b := (((a0.Calls.getD v5.toNat Za).Caller == (a1.Calls.getD v5.toNat Za).Caller) && (((a0.Calls.getD v5.toNat Za).Callee == (a1.Calls.getD v5.toNat Za).Callee) && (((a0.Calls.getD v5.toNat Za).Count == (a1.Calls.getD v5.toNat Za).Count) && (((a0.Calls.getD v5.toNat Za).Errors == (a1.Calls.getD v5.toNat Za).Errors) && (((a0.Calls.getD v5.toNat Za).Time == (a1.Calls.getD v5.toNat Za).Time) && true)))))) (c := (!(((a0.Calls.getD v5.toNat Za).Caller == (a1.Calls.getD v5.toNat Za).Caller) && (((a0.Calls.getD v5.toNat Za).Callee == (a1.Calls.getD v5.toNat Za).Callee) && (((a0.Calls.getD v5.toNat Za).Count == (a1.Calls.getD v5.toNat Za).Count) && (((a0.Calls.getD v5.toNat Za).Errors == (a1.Calls.getD v5.toNat Za).Errors) && (((a0.Calls.getD v5.toNat Za).Time == (a1.Calls.getD v5.toNat Za).Time) && true))))))) I eq88 I I I I) <| Z1t (by kernel_rfl) I <| Zi ?_
       have hif := Z1w h
       refine Z16 I (fun hc => ?_) (fun hc => ?_)
       ·have h := hif.1 hc
        refine Zj <| Zd <| Z1 I (Zm (v := (.bool false)) I I) I <| Zh <| Zi <| Z1c <| Z1u <| Z18 ?_
        refine Z18 (Z1u ?_)
        refine Z18 ?_
        have h := Option.some.inj h
        subst h
        refine (hret _ ?_).1
        exact ⟨[(.bool false)], ⟨rfl, trivial⟩, rfl, trivial⟩
       ·have h := hif.2 hc
        refine Z1a <| At.end <| Zi <| Zd <| Z1 I (Zl (v := (.int .i64 v5)) I I) I <| Z1 I (Z1k (k := .i64) (a := v5) (b := 1) (c := (IntKind.i64.wrap (v5 + 1))) I I I I) I <| Z1 I (Zm (v := (.int .i64 (IntKind.i64.wrap (v5 + 1)))) I I) I <| Zh ?_
        exact Z13 (st' := ⟨[(2, (.ptr 2 0)), (3, (.ptr 3 0)), (6, (.int .i64 (IntKind.i64.wrap (v5 + 1))))], [(2, (.box (Zc a0).cells)), (3, (.box (Zc a1).cells))]⟩) ⟨rfl, rfl, rfl, trivial⟩ ⟨rfl, rfl, trivial⟩ (IH6 _ (IntKind.i64.wrap (v5 + 1)) (Nat.lt_succ_self _) h)
      ·have h := hif.2 hc
       refine AWp.exit <| At.thru ?_
       exact Z13 (st' := ⟨[], []⟩) trivial trivial (J6 () h)
   ·intro N k2 v h IH2 J2
    revert h
    revert v
    intro v1 h
    try dsimp only at h IH2 J2 ⊢
    cases k2 with
    | zero => cases h
    | succ k2 =>
     rw [Zbl] at h
     refine Zj <| Zj <| Zd <| Z1 I (Zl (v := (.int .i64 v1)) I I) I <| Z1 I (Zr (m := 2) (o := 0) I Z4y I I) I <| Z1 I (Zy (cs := (Zc a0).cells) (v := (.sl 4 (a0.Services.map Z3) false)) I o41 I I I) I <| Z1 I (Z2d (l := a0.Services) (enc := Z3) I s41 I) I <| Z1 I (Z1x (k := .i64) (a := v1) (b := (a0.Services.length : Int)) (c := (decide (v1 < (a0.Services.length : Int)))) I I I I) I ?_
     refine Zh <| Zi ?_
     have hif := Z1w h
     refine Z16 I (fun hc => ?_) (fun hc => ?_)
     ·have h := hif.1 hc
      refine Z1a <| Zi <| Zj <| AWp.block <| Zj <| Z1r mixed <| Zb 0 I (Zr (m := 2) (o := 0) I Z4y I I) <| Zb 1 I (Zy (cs := (Zc a0).cells) (v := (.sl 4 (a0.Services.map Z3) false)) I o41 I I I) ?_
      refine Zb 2 I (Zl (v := (.int .i64 v1)) I I) ?_
      have ⟨hg13, h⟩ := Z14 h
      refine Zb 3 I (Z1s (k := .i64) (l := a0.Services) (enc := Z3) (z := Z9) (n := v1) (cs := (Z3 (a0.Services.getD v1.toNat Z9)).cells) (full := false) I s41 I I hg13 I) <| Zb 4 I (Z2h (cs := (Z3 (a0.Services.getD v1.toNat Z9)).cells) (vs := (Z3 (a0.Services.getD v1.toNat Z9)).cells) I a68 I I I) <| Zb 5 I (Zr (m := 3) (o := 0) I Z4y I I) <| Zb 6 I (Zy (cs := (Zc a1).cells) (v := (.sl 4 (a1.Services.map Z3) false)) I o41 I I I) <| Zb 7 I (Zl (v := (.int .i64 v1)) I I) ?_
      have ⟨hg14, h⟩ := Z14 h
      refine Zb 8 I (Z1s (k := .i64) (l := a1.Services) (enc := Z3) (z := Z9) (n := v1) (cs := (Z3 (a1.Services.getD v1.toNat Z9)).cells) (full := false) I s41 I I hg14 I) <| Zb 9 I (Z2h (cs := (Z3 (a1.Services.getD v1.toNat Z9)).cells) (vs := (Z3 (a1.Services.getD v1.toNat Z9)).cells) I a68 I I I) <| Zb 10 I (st_cmpA (xs := (Z3 (a0.Services.getD v1.toNat Z9)).cells) (ys := (Z3 (a1.Services.getD v1.toNat Z9)).cells) (b := (((a0.Services.getD v1.toNat Z9).Name == (a1.Services.getD v1.toNat Z9).Name) && (((a0.Services.getD v1.toNat Z9).Spans == (a1.Services.getD v1.toNat Z9).Spans) && (((a0.Services.getD v1.toNat Z9).Errors == (a1.Services.getD v1.toNat Z9).Errors) && (((a0.Services.getD v1.toNat Z9).Roots == (a1.Services.getD v1.toNat Z9).Roots) && true))))) (c := (!(((a0.Services.getD v1.toNat Z9).Name == (a1.Services.getD v1.toNat Z9).Name) && (((a0.Services.getD v1.toNat Z9).Spans == (a1.Services.getD v1.toNat Z9).Spans) && (((a0.Services.getD v1.toNat Z9).Errors == (a1.Services.getD v1.toNat Z9).Errors) && (((a0.Services.getD v1.toNat Z9).Roots == (a1.Services.getD v1.toNat Z9).Roots) && true)))))) I eq68 I I I I) <| Z1t (by kernel_rfl) I <| Zi ?_
      have hif := Z1w h
      refine Z16 I (fun hc => ?_) (fun hc => ?_)
      ·have h := hif.1 hc
       refine Zj <| Zd <| Z1 I (Zm (v := (.bool false)) I I) I <| Zh <| Zi <| Z1c <| Z1u <| Z18 ?_
       refine Z18 (Z1u ?_)
       refine Z18 ?_
       have h := Option.some.inj h
       subst h
       refine (hret _ ?_).1
       exact ⟨[(.bool false)], ⟨rfl, trivial⟩, rfl, trivial⟩
      ·have h := hif.2 hc
       refine Z1a <| At.end <| Zi <| Zd <| Z1 I (Zl (v := (.int .i64 v1)) I I) I <| Z1 I (Z1k (k := .i64) (a := v1) (b := 1) (c := (IntKind.i64.wrap (v1 + 1))) I I I I) I <| Z1 I (Zm (v := (.int .i64 (IntKind.i64.wrap (v1 + 1)))) I I) I <| Zh ?_
       exact Z13 (st' := ⟨[(2, (.ptr 2 0)), (3, (.ptr 3 0)), (5, (.int .i64 (IntKind.i64.wrap (v1 + 1))))], [(2, (.box (Zc a0).cells)), (3, (.box (Zc a1).cells))]⟩) ⟨rfl, rfl, rfl, trivial⟩ ⟨rfl, rfl, trivial⟩ (IH2 _ (IntKind.i64.wrap (v1 + 1)) (Nat.lt_succ_self _) h)
     ·have h := hif.2 hc
      refine AWp.exit <| At.thru ?_
      exact Z13 (st' := ⟨[(2, (.ptr 2 0)), (3, (.ptr 3 0))], [(2, (.box (Zc a0).cells)), (3, (.box (Zc a1).cells))]⟩) ⟨rfl, rfl, trivial⟩ ⟨rfl, rfl, trivial⟩ (J2 () h)
noncomputable def F11 (K : Nat) : Option (Bool) :=
 (F17 K ([(⟨9, 2, [(⟨9, 1, 0, 0, 1, 1, [119, 101, 98], [], [111], 0, 30, false, [], []⟩ : Zg), (⟨9, 2, 1, 0, 1, 1, [97, 112, 105], [], [111], 0, 10, true, [], []⟩ : Zg), (⟨9, 3, 2, 0, 1, 1, [97, 112, 105], [], [111], 0, 5, false, [], []⟩ : Zg)]⟩ : Zu)])).bind fun v2 =>
  if (v2.1 == 0) = true then
   (F19 K v2.2 (⟨[(⟨[97, 112, 105], 4, 2, 0⟩ : Zf), (⟨[119, 101, 98], 2, 0, 2⟩ : Zf)], [(⟨[119, 101, 98], [97, 112, 105], 2, 2, 20⟩ : Zk)]⟩ : Ze)).bind fun v4 =>
    some v4
  else
   some false
theorem F11_ok (K : Nat) (r : Bool) (h : F11 K = some r) : ACall P 11 ⟨[], [], (.bool r), [], []⟩ := by
 refine Z1q Tryz.func11 Tryz.results11 rfl Tryz.ntmps11 rfl rfl rfl ?_
 intro E Q hP hN hro hret
 obtain ⟨P', nt', w0, F0, p0, S0, β0, ro0⟩ := E
 simp only at hP hN
 subst hP hN
 dsimp only [argT]
 unfold F11 at h
 refine Zj <| Zd <| Z1 I (Zm (v := (.bool false)) I I) I <| Zh <| Zi <| Zj <| Zd <| Z1 I (Z29 (vs := [(0, (.int .i64 9)), (1, (.int .i64 1)), (4, (.int .i64 1)), (5, (.int .i64 1)), (6, (.str [119, 101, 98])), (8, (.str [111])), (10, (.int .i64 30))]) (cs := [(.int .i64 9), (.int .i64 1), (.int .i64 0), (.int .i64 0), (.int .i64 1), (.int .i64 1), (.str [119, 101, 98]), (.str []), (.str [111]), (.int .i64 0), (.int .i64 30), (.bool false), (.sl 4 [] false), (.sl 2 [] false)]) I st56 ⟨rfl, rfl, rfl, rfl, rfl, rfl, rfl, rfl, rfl, rfl, rfl, rfl, rfl, rfl, trivial⟩ I) I ?_
 refine Z1 I (Z21 (cs := [(.int .i64 0), (.int .i64 0), (.int .i64 0), (.int .i64 0), (.int .i64 0), (.int .i64 0), (.str []), (.str []), (.str []), (.int .i64 0), (.int .i64 0), (.bool false), (.sl 4 [] false), (.sl 2 [] false)]) I z56 I I I) I <| Z1 I (Z1b (cs := [(.int .i64 0), (.int .i64 0), (.int .i64 0), (.int .i64 0), (.int .i64 0), (.int .i64 0), (.str []), (.str []), (.str []), (.int .i64 0), (.int .i64 0), (.bool false), (.sl 4 [] false), (.sl 2 [] false)]) (vs := [(.int .i64 9), (.int .i64 1), (.int .i64 0), (.int .i64 0), (.int .i64 1), (.int .i64 1), (.str [119, 101, 98]), (.str []), (.str [111]), (.int .i64 0), (.int .i64 30), (.bool false), (.sl 4 [] false), (.sl 2 [] false)]) (ds := [(.int .i64 9), (.int .i64 1), (.int .i64 0), (.int .i64 0), (.int .i64 1), (.int .i64 1), (.str [119, 101, 98]), (.str []), (.str [111]), (.int .i64 0), (.int .i64 30), (.bool false), (.sl 4 [] false), (.sl 2 [] false)]) (v := (.ag [(.int .i64 9), (.int .i64 1), (.int .i64 0), (.int .i64 0), (.int .i64 1), (.int .i64 1), (.str [119, 101, 98]), (.str []), (.str [111]), (.int .i64 0), (.int .i64 30), (.bool false), (.sl 4 [] false), (.sl 2 [] false)])) sz56 I I I I I I I I) I <| Zh <| Zi <| Zj <| Zd <| Z1 I (Z29 (vs := [(0, (.int .i64 9)), (1, (.int .i64 2)), (2, (.int .i64 1)), (4, (.int .i64 1)), (5, (.int .i64 1)), (6, (.str [97, 112, 105])), (8, (.str [111])), (10, (.int .i64 10)), (11, (.bool true))]) (cs := [(.int .i64 9), (.int .i64 2), (.int .i64 1), (.int .i64 0), (.int .i64 1), (.int .i64 1), (.str [97, 112, 105]), (.str []), (.str [111]), (.int .i64 0), (.int .i64 10), (.bool true), (.sl 4 [] false), (.sl 2 [] false)]) I st56 ⟨rfl, rfl, rfl, rfl, rfl, rfl, rfl, rfl, rfl, rfl, rfl, rfl, rfl, rfl, rfl, rfl, rfl, rfl, trivial⟩ I) I <| Z1 I (Z21 (cs := [(.int .i64 0), (.int .i64 0), (.int .i64 0), (.int .i64 0), (.int .i64 0), (.int .i64 0), (.str []), (.str []), (.str []), (.int .i64 0), (.int .i64 0), (.bool false), (.sl 4 [] false), (.sl 2 [] false)]) I z56 I I I) I ?_
 refine Z1 I (Z1b (cs := [(.int .i64 0), (.int .i64 0), (.int .i64 0), (.int .i64 0), (.int .i64 0), (.int .i64 0), (.str []), (.str []), (.str []), (.int .i64 0), (.int .i64 0), (.bool false), (.sl 4 [] false), (.sl 2 [] false)]) (vs := [(.int .i64 9), (.int .i64 2), (.int .i64 1), (.int .i64 0), (.int .i64 1), (.int .i64 1), (.str [97, 112, 105]), (.str []), (.str [111]), (.int .i64 0), (.int .i64 10), (.bool true), (.sl 4 [] false), (.sl 2 [] false)]) (ds := [(.int .i64 9), (.int .i64 2), (.int .i64 1), (.int .i64 0), (.int .i64 1), (.int .i64 1), (.str [97, 112, 105]), (.str []), (.str [111]), (.int .i64 0), (.int .i64 10), (.bool true), (.sl 4 [] false), (.sl 2 [] false)]) (v := (.ag [(.int .i64 9), (.int .i64 2), (.int .i64 1), (.int .i64 0), (.int .i64 1), (.int .i64 1), (.str [97, 112, 105]), (.str []), (.str [111]), (.int .i64 0), (.int .i64 10), (.bool true), (.sl 4 [] false), (.sl 2 [] false)])) sz56 I I I I I I I I) I <| Zh <| Zi <| Zj <| Zd <| Z1 I (Z29 (vs := [(0, (.int .i64 9)), (1, (.int .i64 3)), (2, (.int .i64 2)), (4, (.int .i64 1)), (5, (.int .i64 1)), (6, (.str [97, 112, 105])), (8, (.str [111])), (10, (.int .i64 5))]) (cs := [(.int .i64 9), (.int .i64 3), (.int .i64 2), (.int .i64 0), (.int .i64 1), (.int .i64 1), (.str [97, 112, 105]), (.str []), (.str [111]), (.int .i64 0), (.int .i64 5), (.bool false), (.sl 4 [] false), (.sl 2 [] false)]) I st56 ⟨rfl, rfl, rfl, rfl, rfl, rfl, rfl, rfl, rfl, rfl, rfl, rfl, rfl, rfl, rfl, rfl, trivial⟩ I) I <| Z1 I (Z21 (cs := [(.int .i64 0), (.int .i64 0), (.int .i64 0), (.int .i64 0), (.int .i64 0), (.int .i64 0), (.str []), (.str []), (.str []), (.int .i64 0), (.int .i64 0), (.bool false), (.sl 4 [] false), (.sl 2 [] false)]) I z56 I I I) I <| Z1 I (Z1b (cs := [(.int .i64 0), (.int .i64 0), (.int .i64 0), (.int .i64 0), (.int .i64 0), (.int .i64 0), (.str []), (.str []), (.str []), (.int .i64 0), (.int .i64 0), (.bool false), (.sl 4 [] false), (.sl 2 [] false)]) (vs := [(.int .i64 9), (.int .i64 3), (.int .i64 2), (.int .i64 0), (.int .i64 1), (.int .i64 1), (.str [97, 112, 105]), (.str []), (.str [111]), (.int .i64 0), (.int .i64 5), (.bool false), (.sl 4 [] false), (.sl 2 [] false)]) (ds := [(.int .i64 9), (.int .i64 3), (.int .i64 2), (.int .i64 0), (.int .i64 1), (.int .i64 1), (.str [97, 112, 105]), (.str []), (.str [111]), (.int .i64 0), (.int .i64 5), (.bool false), (.sl 4 [] false), (.sl 2 [] false)]) (v := (.ag [(.int .i64 9), (.int .i64 3), (.int .i64 2), (.int .i64 0), (.int .i64 1), (.int .i64 1), (.str [97, 112, 105]), (.str []), (.str [111]), (.int .i64 0), (.int .i64 5), (.bool false), (.sl 4 [] false), (.sl 2 [] false)])) sz56 I I I I I I I I) I ?_
 refine Zh <| Zi <| Zj <| Zd <| Z1 I (Z1n (cs := [(.int .i64 9), (.int .i64 1), (.int .i64 0), (.int .i64 0), (.int .i64 1), (.int .i64 1), (.str [119, 101, 98]), (.str []), (.str [111]), (.int .i64 0), (.int .i64 30), (.bool false), (.sl 4 [] false), (.sl 2 [] false)]) (vs := [(.int .i64 9), (.int .i64 1), (.int .i64 0), (.int .i64 0), (.int .i64 1), (.int .i64 1), (.str [119, 101, 98]), (.str []), (.str [111]), (.int .i64 0), (.int .i64 30), (.bool false), (.sl 4 [] false), (.sl 2 [] false)]) I a56 I I I I) I <| Z1 I (Z1n (cs := [(.int .i64 9), (.int .i64 2), (.int .i64 1), (.int .i64 0), (.int .i64 1), (.int .i64 1), (.str [97, 112, 105]), (.str []), (.str [111]), (.int .i64 0), (.int .i64 10), (.bool true), (.sl 4 [] false), (.sl 2 [] false)]) (vs := [(.int .i64 9), (.int .i64 2), (.int .i64 1), (.int .i64 0), (.int .i64 1), (.int .i64 1), (.str [97, 112, 105]), (.str []), (.str [111]), (.int .i64 0), (.int .i64 10), (.bool true), (.sl 4 [] false), (.sl 2 [] false)]) I a56 I I I I) I <| Z1 I (Z1n (cs := [(.int .i64 9), (.int .i64 3), (.int .i64 2), (.int .i64 0), (.int .i64 1), (.int .i64 1), (.str [97, 112, 105]), (.str []), (.str [111]), (.int .i64 0), (.int .i64 5), (.bool false), (.sl 4 [] false), (.sl 2 [] false)]) (vs := [(.int .i64 9), (.int .i64 3), (.int .i64 2), (.int .i64 0), (.int .i64 1), (.int .i64 1), (.str [97, 112, 105]), (.str []), (.str [111]), (.int .i64 0), (.int .i64 5), (.bool false), (.sl 4 [] false), (.sl 2 [] false)]) I a56 I I I I) I <| Z1 I (Z1l (vs := [(.ag [(.int .i64 9), (.int .i64 1), (.int .i64 0), (.int .i64 0), (.int .i64 1), (.int .i64 1), (.str [119, 101, 98]), (.str []), (.str [111]), (.int .i64 0), (.int .i64 30), (.bool false), (.sl 4 [] false), (.sl 2 [] false)]), (.ag [(.int .i64 9), (.int .i64 2), (.int .i64 1), (.int .i64 0), (.int .i64 1), (.int .i64 1), (.str [97, 112, 105]), (.str []), (.str [111]), (.int .i64 0), (.int .i64 10), (.bool true), (.sl 4 [] false), (.sl 2 [] false)]), (.ag [(.int .i64 9), (.int .i64 3), (.int .i64 2), (.int .i64 0), (.int .i64 1), (.int .i64 1), (.str [97, 112, 105]), (.str []), (.str [111]), (.int .i64 0), (.int .i64 5), (.bool false), (.sl 4 [] false), (.sl 2 [] false)])]) (enc := Z8) (l := [(⟨9, 1, 0, 0, 1, 1, [119, 101, 98], [], [111], 0, 30, false, [], []⟩ : Zg), (⟨9, 2, 1, 0, 1, 1, [97, 112, 105], [], [111], 0, 10, true, [], []⟩ : Zg), (⟨9, 3, 2, 0, 1, 1, [97, 112, 105], [], [111], 0, 5, false, [], []⟩ : Zg)]) I el37 I I ⟨rfl, rfl, rfl, trivial⟩ I Z2v I I I I) I ?_
 refine Z1 I (Z29 (vs := [(0, (.int .i64 9)), (1, (.int .i64 2)), (2, (.vs 13))]) (cs := [(.int .i64 9), (.int .i64 2), (.vs 13)]) I st39 ⟨rfl, rfl, rfl, rfl, rfl, rfl, trivial⟩ I) I <| AOps.ghost (st' := ⟨[(14, (.ag [(.int .i64 9), (.int .i64 2), (.sl 14 (([(⟨9, 1, 0, 0, 1, 1, [119, 101, 98], [], [111], 0, 30, false, [], []⟩ : Zg), (⟨9, 2, 1, 0, 1, 1, [97, 112, 105], [], [111], 0, 10, true, [], []⟩ : Zg), (⟨9, 3, 2, 0, 1, 1, [97, 112, 105], [], [111], 0, 5, false, [], []⟩ : Zg)]).map Z8) false)]))], []⟩) (fun a w h => (Z1g ⟨[(14, (.ag [(.int .i64 9), (.int .i64 2), (.sl 14 (([(⟨9, 1, 0, 0, 1, 1, [119, 101, 98], [], [111], 0, 30, false, [], []⟩ : Zg), (⟨9, 2, 1, 0, 1, 1, [97, 112, 105], [], [111], 0, 10, true, [], []⟩ : Zg), (⟨9, 3, 2, 0, 1, 1, [97, 112, 105], [], [111], 0, 5, false, [], []⟩ : Zg)]).map Z8) false)]))], []⟩ (Z2i (m := 13) (sz := 14) (es := (List.map Z8 ([(⟨9, 1, 0, 0, 1, 1, [119, 101, 98], [], [111], 0, 30, false, [], []⟩ : Zg), (⟨9, 2, 1, 0, 1, 1, [97, 112, 105], [], [111], 0, 10, true, [], []⟩ : Zg), (⟨9, 3, 2, 0, 1, 1, [97, 112, 105], [], [111], 0, 5, false, [], []⟩ : Zg)]))) a w (Z1g ⟨[(14, (.ag [(.int .i64 9), (.int .i64 2), (.vs 13)]))], [(13, (.vec 14 (List.map Z8 ([(⟨9, 1, 0, 0, 1, 1, [119, 101, 98], [], [111], 0, 30, false, [], []⟩ : Zg), (⟨9, 2, 1, 0, 1, 1, [97, 112, 105], [], [111], 0, 10, true, [], []⟩ : Zg), (⟨9, 3, 2, 0, 1, 1, [97, 112, 105], [], [111], 0, 5, false, [], []⟩ : Zg)]))))]⟩ h ⟨rfl, trivial⟩ ⟨rfl, trivial⟩)) ⟨rfl, trivial⟩ trivial)) <| Z1 I (Z1l (vs := [(.ag [(.int .i64 9), (.int .i64 2), (.sl 14 (([(⟨9, 1, 0, 0, 1, 1, [119, 101, 98], [], [111], 0, 30, false, [], []⟩ : Zg), (⟨9, 2, 1, 0, 1, 1, [97, 112, 105], [], [111], 0, 10, true, [], []⟩ : Zg), (⟨9, 3, 2, 0, 1, 1, [97, 112, 105], [], [111], 0, 5, false, [], []⟩ : Zg)]).map Z8) false)])]) (enc := Zq) (l := [(⟨9, 2, [(⟨9, 1, 0, 0, 1, 1, [119, 101, 98], [], [111], 0, 30, false, [], []⟩ : Zg), (⟨9, 2, 1, 0, 1, 1, [97, 112, 105], [], [111], 0, 10, true, [], []⟩ : Zg), (⟨9, 3, 2, 0, 1, 1, [97, 112, 105], [], [111], 0, 5, false, [], []⟩ : Zg)]⟩ : Zu)]) I el31 I I ⟨rfl, trivial⟩ I Z31 I I I I) I ?_
 have ⟨v2, hv2, h⟩ := Z1d h
 refine Z1 I (Z37 (d := some 16) (c := ⟨[(.vs 15)] ++ [], [(15, (.vec 3 (List.map Zq ([(⟨9, 2, [(⟨9, 1, 0, 0, 1, 1, [119, 101, 98], [], [111], 0, 30, false, [], []⟩ : Zg), (⟨9, 2, 1, 0, 1, 1, [97, 112, 105], [], [111], 0, 10, true, [], []⟩ : Zg), (⟨9, 3, 2, 0, 1, 1, [97, 112, 105], [], [111], 0, 5, false, [], []⟩ : Zg)]⟩ : Zu)]))))], (.tup [(Zc v2.2), (.int .i64 v2.1)]), [(15, (.vec 3 (List.map Zq ([(⟨9, 2, [(⟨9, 1, 0, 0, 1, 1, [119, 101, 98], [], [111], 0, 30, false, [], []⟩ : Zg), (⟨9, 2, 1, 0, 1, 1, [97, 112, 105], [], [111], 0, 10, true, [], []⟩ : Zg), (⟨9, 3, 2, 0, 1, 1, [97, 112, 105], [], [111], 0, 5, false, [], []⟩ : Zg)]⟩ : Zu)]))))], []⟩) (ar := [(.vs 15)]) (caps := []) (news := []) (forg := []) Tryz.call17 ((F17_ok K ([(⟨9, 2, [(⟨9, 1, 0, 0, 1, 1, [119, 101, 98], [], [111], 0, 30, false, [], []⟩ : Zg), (⟨9, 2, 1, 0, 1, 1, [97, 112, 105], [], [111], 0, 10, true, [], []⟩ : Zg), (⟨9, 3, 2, 0, 1, 1, [97, 112, 105], [], [111], 0, 5, false, [], []⟩ : Zg)]⟩ : Zu)]) v2 hv2).sw 2000 15) I I ⟨rfl, trivial⟩ I ⟨rfl, trivial⟩ I) I <| Z1 I (Zl (v := (.tup [(Zc v2.2), (.int .i64 v2.1)])) I I) I <| Z1 I (Z2g (vs := [(Zc v2.2), (.int .i64 v2.1)]) (v := (Zc v2.2)) I I I) I <| Z1 I (Z2g (vs := [(Zc v2.2), (.int .i64 v2.1)]) (v := (.int .i64 v2.1)) I I I) I <| Z1 I (Z21 (cs := [(.sl 4 [] false), (.sl 5 [] false)]) I z44 I I I) I <| Z1 I (Z1b (cs := [(.sl 4 [] false), (.sl 5 [] false)]) (vs := (Zc v2.2).cells) (ds := (Zc v2.2).cells) (v := (Zc v2.2)) sz44 I I I I I I I I) I <| Z1 I (Zm (v := (.int .i64 v2.1)) I I) I <| Zh ?_
 refine Zi <| Zj <| Zd <| Z1 I (Zl (v := (.int .i64 v2.1)) I I) I <| Z1 I (Z1x (k := .i64) (a := v2.1) (b := 0) (c := (v2.1 == 0)) I I I I) I <| Z1 I (Zl (v := (.bool (v2.1 == 0))) I I) I ?_
 have hif := Z1w h
 refine AOps.split (fun hc => ?_) (fun hc => ?_)
 ·have h := hif.1 hc
  refine Zz I I I I (Z1n (cs := (Zc v2.2).cells) (vs := (Zc v2.2).cells) I a44 I I I I) I <| Zz I I I I (Z29 (vs := [(0, (.str [97, 112, 105])), (1, (.int .i64 4)), (2, (.int .i64 2))]) (cs := [(.str [97, 112, 105]), (.int .i64 4), (.int .i64 2), (.int .i64 0)]) I st68 ⟨rfl, rfl, rfl, rfl, rfl, rfl, trivial⟩ I) I <| Zz I I I I (Z29 (vs := [(0, (.str [119, 101, 98])), (1, (.int .i64 2)), (3, (.int .i64 2))]) (cs := [(.str [119, 101, 98]), (.int .i64 2), (.int .i64 0), (.int .i64 2)]) I st68 ⟨rfl, rfl, rfl, rfl, rfl, rfl, trivial⟩ I) I <| Zz I I I I (Z1l (vs := [(.ag [(.str [97, 112, 105]), (.int .i64 4), (.int .i64 2), (.int .i64 0)]), (.ag [(.str [119, 101, 98]), (.int .i64 2), (.int .i64 0), (.int .i64 2)])]) (enc := Z3) (l := [(⟨[97, 112, 105], 4, 2, 0⟩ : Zf), (⟨[119, 101, 98], 2, 0, 2⟩ : Zf)]) I el41 I I ⟨rfl, rfl, trivial⟩ I Z1y I I I I) I <| Zz I I I I (Z29 (vs := [(0, (.str [119, 101, 98])), (1, (.str [97, 112, 105])), (2, (.int .i64 2)), (3, (.int .i64 2)), (4, (.int .i64 20))]) (cs := [(.str [119, 101, 98]), (.str [97, 112, 105]), (.int .i64 2), (.int .i64 2), (.int .i64 20)]) I st88 ⟨rfl, rfl, rfl, rfl, rfl, rfl, rfl, rfl, rfl, rfl, trivial⟩ I) I <| Zz I I I I (Z1l (vs := [(.ag [(.str [119, 101, 98]), (.str [97, 112, 105]), (.int .i64 2), (.int .i64 2), (.int .i64 20)])]) (enc := Z6) (l := [(⟨[119, 101, 98], [97, 112, 105], 2, 2, 20⟩ : Zk)]) I el42 I I ⟨rfl, trivial⟩ I Z2n I I I I) I <| Zz I I I I (Z29 (vs := [(0, (.vs 25)), (1, (.vs 27))]) (cs := [(.vs 25), (.vs 27)]) I st44 ⟨rfl, rfl, rfl, rfl, trivial⟩ I) I <| AOps.ghost (st' := ⟨[(21, (.bool true)), (22, (Zc v2.2)), (28, (.ag [(.sl 4 (([(⟨[97, 112, 105], 4, 2, 0⟩ : Zf), (⟨[119, 101, 98], 2, 0, 2⟩ : Zf)]).map Z3) false), (.vs 27)]))], [(27, (.vec 5 (List.map Z6 ([(⟨[119, 101, 98], [97, 112, 105], 2, 2, 20⟩ : Zk)]))))]⟩) (fun a w h => (Z1g ⟨[(21, (.bool true)), (22, (Zc v2.2)), (28, (.ag [(.sl 4 (([(⟨[97, 112, 105], 4, 2, 0⟩ : Zf), (⟨[119, 101, 98], 2, 0, 2⟩ : Zf)]).map Z3) false), (.vs 27)]))], [(27, (.vec 5 (List.map Z6 ([(⟨[119, 101, 98], [97, 112, 105], 2, 2, 20⟩ : Zk)]))))]⟩ (Z2i (m := 25) (sz := 4) (es := (List.map Z3 ([(⟨[97, 112, 105], 4, 2, 0⟩ : Zf), (⟨[119, 101, 98], 2, 0, 2⟩ : Zf)]))) a w (Z1g ⟨[(21, (.bool true)), (22, (Zc v2.2)), (28, (.ag [(.vs 25), (.vs 27)]))], [(25, (.vec 4 (List.map Z3 ([(⟨[97, 112, 105], 4, 2, 0⟩ : Zf), (⟨[119, 101, 98], 2, 0, 2⟩ : Zf)])))), (27, (.vec 5 (List.map Z6 ([(⟨[119, 101, 98], [97, 112, 105], 2, 2, 20⟩ : Zk)]))))]⟩ h ⟨rfl, rfl, rfl, trivial⟩ ⟨rfl, rfl, trivial⟩)) ⟨rfl, rfl, rfl, trivial⟩ ⟨rfl, trivial⟩)) ?_
  refine AOps.ghost (st' := ⟨[(21, (.bool true)), (22, (Zc v2.2)), (28, (.ag [(.sl 4 (([(⟨[97, 112, 105], 4, 2, 0⟩ : Zf), (⟨[119, 101, 98], 2, 0, 2⟩ : Zf)]).map Z3) false), (.sl 5 (([(⟨[119, 101, 98], [97, 112, 105], 2, 2, 20⟩ : Zk)]).map Z6) false)]))], []⟩) (fun a w h => (Z1g ⟨[(21, (.bool true)), (22, (Zc v2.2)), (28, (.ag [(.sl 4 (([(⟨[97, 112, 105], 4, 2, 0⟩ : Zf), (⟨[119, 101, 98], 2, 0, 2⟩ : Zf)]).map Z3) false), (.sl 5 (([(⟨[119, 101, 98], [97, 112, 105], 2, 2, 20⟩ : Zk)]).map Z6) false)]))], []⟩ (Z2i (m := 27) (sz := 5) (es := (List.map Z6 ([(⟨[119, 101, 98], [97, 112, 105], 2, 2, 20⟩ : Zk)]))) a w (Z1g ⟨[(21, (.bool true)), (22, (Zc v2.2)), (28, (.ag [(.sl 4 (([(⟨[97, 112, 105], 4, 2, 0⟩ : Zf), (⟨[119, 101, 98], 2, 0, 2⟩ : Zf)]).map Z3) false), (.vs 27)]))], [(27, (.vec 5 (List.map Z6 ([(⟨[119, 101, 98], [97, 112, 105], 2, 2, 20⟩ : Zk)]))))]⟩ h ⟨rfl, rfl, rfl, trivial⟩ ⟨rfl, trivial⟩)) ⟨rfl, rfl, rfl, trivial⟩ trivial)) ?_
  have ⟨v4, hv4, h⟩ := Z1d h
  refine Zz I I I I (Z1e (ar := [(Zc v2.2), (.ag [(.sl 4 (([(⟨[97, 112, 105], 4, 2, 0⟩ : Zf), (⟨[119, 101, 98], 2, 0, 2⟩ : Zf)]).map Z3) false), (.sl 5 (([(⟨[119, 101, 98], [97, 112, 105], 2, 2, 20⟩ : Zk)]).map Z6) false)])]) (caps := []) Tryz.call19 (F19_ok K v2.2 (⟨[(⟨[97, 112, 105], 4, 2, 0⟩ : Zf), (⟨[119, 101, 98], 2, 0, 2⟩ : Zf)], [(⟨[119, 101, 98], [97, 112, 105], 2, 2, 20⟩ : Zk)]⟩ : Ze) v4 hv4) I I ⟨rfl, rfl, trivial⟩ I) I <| Z1 I (Z23 (v := (.bool v4)) I I I) I <| Z1 I (Zm (v := (.bool v4)) I I) I <| Zh <| Zi <| Z1c ?_
  have h := Option.some.inj h
  subst h
  refine (hret _ ?_).1
  exact ⟨[(.bool v4)], ⟨rfl, trivial⟩, rfl, trivial⟩
 ·have h := hif.2 hc
  refine Zs I I I I I I I <| Zs I I I I I I I <| Zs I I I I I I I <| Zs I I I I I I I <| Zs I I I I I I I <| Zs I I I I I I I <| Zs I I I I I I I <| Zs I I I I I I I ?_
  refine Z1 I (Z20 (v := (.bool false)) I I I) I <| Z1 I (Zm (v := (.bool false)) I I) I <| Zh <| Zi <| Z1c ?_
  have h := Option.some.inj h
  subst h
  refine (hret _ ?_).1
  exact ⟨[(.bool false)], ⟨rfl, trivial⟩, rfl, trivial⟩
def Zcu (K : Nat) (a1 : Str) : Option (Zf) :=
 some (⟨a1, 0, 0, 0⟩ : Zf)
def Zbp (K : Nat) (a0 : Ze) (a1 : Str) (c4 : Option (Zf)) : Nat → Int → Option (Zf)
 | 0, _ => none
 | k2 + 1, v1 =>
  if (decide (v1 < (a0.Services.length : Int))) = true then
   if (0 : Int) ≤ v1 ∧ v1 < a0.Services.length then
    if ((a0.Services.getD v1.toNat Z9).Name == a1) = true then
     if (0 : Int) ≤ v1 ∧ v1 < a0.Services.length then
      some (a0.Services.getD v1.toNat Z9)
     else none
    else
     (Zbp K a0 a1 c4 k2) (IntKind.i64.wrap (v1 + 1))
   else none
  else
   c4
def F31 (K : Nat) (a0 : Ze) (a1 : Str) : Option (Zf) :=
 Zbp K a0 a1 (Zcu K a1) K 0
theorem F31_ok (K : Nat) (a0 : Ze) (a1 : Str) (r : Zf) (h : F31 K a0 a1 = some r) : ACall P 31 ⟨[(Zc a0), (.str a1)], [], (Z3 r), [], []⟩ := by
 refine Z1q Tryz.func31 Tryz.results31 rfl Tryz.ntmps31 rfl rfl rfl ?_
 intro E Q hP hN hro hret
 obtain ⟨P', nt', w0, F0, p0, S0, β0, ro0⟩ := E
 simp only at hP hN
 subst hP hN
 dsimp only [argT]
 unfold F31 at h
 refine Zj <| Zd <| Z1 I (Z2o (v := (Zc a0)) (cs := (Zc a0).cells) I I I I I) I <| Z1 I (Z21 (cs := [(.str []), (.int .i64 0), (.int .i64 0), (.int .i64 0)]) I z68 I I I) I <| Zh <| Zi <| Zj <| Zj ?_
 refine Zd <| Z1 I (Zm (v := (.int .i64 0)) I I) I <| Zh <| Zi <| AWp.weaken (st' := ⟨[(1, (.str a1)), (2, (.ptr 2 0)), (4, (.ptr 4 0)), (5, (.int .i64 0))], [(2, (.box (Zc a0).cells)), (4, (.box [(.str []), (.int .i64 0), (.int .i64 0), (.int .i64 0)]))]⟩) ⟨rfl, rfl, rfl, rfl, trivial⟩ ⟨rfl, rfl, trivial⟩ ?_
 refine Z1o (V := Int) (X := Unit) (lp := fun k v => Zbp K a0 a1 (Zcu K a1) k v = some r) (sh := fun v => ⟨[(1, (.str a1)), (2, (.ptr 2 0)), (4, (.ptr 4 0)), (5, (.int .i64 v))], [(2, (.box (Zc a0).cells)), (4, (.box [(.str []), (.int .i64 0), (.int .i64 0), (.int .i64 0)]))]⟩) (x := fun v => Zcu K a1 = some r) (shx := fun v => ⟨[(1, (.str a1)), (4, (.ptr 4 0))], [(4, (.box [(.str []), (.int .i64 0), (.int .i64 0), (.int .i64 0)]))]⟩) (k := K) (v := 0) h ?_ ?_
 ·intro v h
  try dsimp only at h ⊢
  unfold Zcu at h
  refine Zi <| Zj <| Zd <| Z1 I (Zl (v := (.str a1)) I I) I <| Z1 I (Z29 (vs := [(0, (.str a1))]) (cs := [(.str a1), (.int .i64 0), (.int .i64 0), (.int .i64 0)]) I st68 ⟨rfl, rfl, trivial⟩ I) I <| Z1 I (Z1b (cs := [(.str []), (.int .i64 0), (.int .i64 0), (.int .i64 0)]) (vs := [(.str a1), (.int .i64 0), (.int .i64 0), (.int .i64 0)]) (ds := [(.str a1), (.int .i64 0), (.int .i64 0), (.int .i64 0)]) (v := (.ag [(.str a1), (.int .i64 0), (.int .i64 0), (.int .i64 0)])) sz68 I I I I I I I I) I <| Zh <| Zi ?_
  refine Z1c ?_
  have h := Option.some.inj h
  subst h
  refine (hret _ ?_).1
  exact ⟨[(.ag [(.str a1), (.int .i64 0), (.int .i64 0), (.int .i64 0)])], ⟨⟨4, _, rfl, rfl, .inr ⟨_, a68, rfl, rfl⟩⟩, trivial⟩, rfl, trivial⟩
 ·intro N k2 v h IH2 J2
  revert h
  revert v
  intro v1 h
  try dsimp only at h IH2 J2 ⊢
  cases k2 with
  | zero => cases h
  | succ k2 =>
   rw [Zbp] at h
   refine Zj <| Zj <| Zd <| Z1 I (Zl (v := (.int .i64 v1)) I I) I <| Z1 I (Zr (m := 2) (o := 0) I Z4y I I) I <| Z1 I (Zy (cs := (Zc a0).cells) (v := (.sl 4 (a0.Services.map Z3) false)) I o41 I I I) I <| Z1 I (Z2d (l := a0.Services) (enc := Z3) I s41 I) I <| Z1 I (Z1x (k := .i64) (a := v1) (b := (a0.Services.length : Int)) (c := (decide (v1 < (a0.Services.length : Int)))) I I I I) I ?_
   refine Zh <| Zi ?_
   have hif := Z1w h
   refine Z16 I (fun hc => ?_) (fun hc => ?_)
   ·have h := hif.1 hc
    refine Z1a <| Zi <| Zj <| AWp.block <| Zj <| Zd <| Z1 I (Zr (m := 2) (o := 0) I Z4y I I) I <| Z1 I (Zy (cs := (Zc a0).cells) (v := (.sl 4 (a0.Services.map Z3) false)) I o41 I I I) I ?_
    refine Z1 I (Zl (v := (.int .i64 v1)) I I) I ?_
    have ⟨hg6, h⟩ := Z14 h
    refine Z1 I (Z1s (k := .i64) (l := a0.Services) (enc := Z3) (z := Z9) (n := v1) (cs := (Z3 (a0.Services.getD v1.toNat Z9)).cells) (full := false) I s41 I I hg6 I) I <| Z1 I (Z2f (cs := (Z3 (a0.Services.getD v1.toNat Z9)).cells) (ds := (Z3 (a0.Services.getD v1.toNat Z9)).cells) I Z8u I I I) I <| Z1 I (Z28 (cs := (Z3 (a0.Services.getD v1.toNat Z9)).cells) (v := (.str (a0.Services.getD v1.toNat Z9).Name)) I o9 I I) I <| Z1 I (Zl (v := (.str a1)) I I) I <| Z1 I (Z3d (a := (a0.Services.getD v1.toNat Z9).Name) (b := a1) (c := ((a0.Services.getD v1.toNat Z9).Name == a1)) I I I I) I <| Zh <| Zi ?_
    have hif := Z1w h
    refine Z16 I (fun hc => ?_) (fun hc => ?_)
    ·have h := hif.1 hc
     refine Zj <| Zd <| Z1 I (Zr (m := 2) (o := 0) I Z4y I I) I <| Z1 I (Zy (cs := (Zc a0).cells) (v := (.sl 4 (a0.Services.map Z3) false)) I o41 I I I) I <| Z1 I (Zl (v := (.int .i64 v1)) I I) I ?_
     have ⟨hg7, h⟩ := Z14 h
     refine Z1 I (Z1s (k := .i64) (l := a0.Services) (enc := Z3) (z := Z9) (n := v1) (cs := (Z3 (a0.Services.getD v1.toNat Z9)).cells) (full := false) I s41 I I hg7 I) I <| Z1 I (Z2h (cs := (Z3 (a0.Services.getD v1.toNat Z9)).cells) (vs := (Z3 (a0.Services.getD v1.toNat Z9)).cells) I a68 I I I) I <| Z1 I (Z1b (cs := [(.str []), (.int .i64 0), (.int .i64 0), (.int .i64 0)]) (vs := (Z3 (a0.Services.getD v1.toNat Z9)).cells) (ds := (Z3 (a0.Services.getD v1.toNat Z9)).cells) (v := (Z3 (a0.Services.getD v1.toNat Z9))) sz68 I I I I I I I I) I <| Zh <| Zi <| Z1c <| Z1u <| Z18 ?_
     refine Z18 (Z1u ?_)
     refine Z18 ?_
     have h := Option.some.inj h
     subst h
     refine (hret _ ?_).1
     exact ⟨[(Z3 (a0.Services.getD v1.toNat Z9))], ⟨⟨4, _, rfl, rfl, .inr ⟨_, a68, rfl, rfl⟩⟩, trivial⟩, rfl, trivial⟩
    ·have h := hif.2 hc
     refine Z1a <| At.end <| Zi <| Zd <| Z1 I (Zl (v := (.int .i64 v1)) I I) I <| Z1 I (Z1k (k := .i64) (a := v1) (b := 1) (c := (IntKind.i64.wrap (v1 + 1))) I I I I) I <| Z1 I (Zm (v := (.int .i64 (IntKind.i64.wrap (v1 + 1)))) I I) I <| Zh ?_
     exact Z13 (st' := ⟨[(1, (.str a1)), (2, (.ptr 2 0)), (4, (.ptr 4 0)), (5, (.int .i64 (IntKind.i64.wrap (v1 + 1))))], [(2, (.box (Zc a0).cells)), (4, (.box [(.str []), (.int .i64 0), (.int .i64 0), (.int .i64 0)]))]⟩) ⟨rfl, rfl, rfl, rfl, trivial⟩ ⟨rfl, rfl, trivial⟩ (IH2 _ (IntKind.i64.wrap (v1 + 1)) (Nat.lt_succ_self _) h)
   ·have h := hif.2 hc
    refine AWp.exit <| At.thru ?_
    exact Z13 (st' := ⟨[(1, (.str a1)), (4, (.ptr 4 0))], [(4, (.box [(.str []), (.int .i64 0), (.int .i64 0), (.int .i64 0)]))]⟩) ⟨rfl, rfl, trivial⟩ ⟨rfl, trivial⟩ (J2 () h)
def Zc5 (K : Nat) (v3 : Int) (a0 : Ze) (a1 : Zf) (v8 : (List Zf)) : Option (Ze) :=
 if (0 : Int) ≤ 0 ∧ 0 ≤ v3 ∧ v3 ≤ a0.Services.length then
  if ([] : List Zf).length + (a0.Services.take v3.toNat).length ≤ 1073741824 then
   if (a0.Services.take v3.toNat).length + [a1].length ≤ 1073741824 then
    if ((a0.Services.take v3.toNat) ++ [a1]).length + v8.length ≤ 1073741824 then
     some (⟨(((a0.Services.take v3.toNat) ++ [a1]) ++ v8), a0.Calls⟩ : Ze)
    else none
   else none
  else none
 else none
def Zbj (K : Nat) (a0 : Ze) (a1 : Zf) (v3 : Int) : Option (Ze) :=
 if (0 : Int) ≤ v3 ∧ v3 ≤ (a0.Services.length : Int) ∧ (a0.Services.length : Int) ≤ a0.Services.length then
  if (decide (((a0.Services.drop v3.toNat).length : Int) > 0)) = true then
   if (0 : Int) ≤ 0 ∧ (0 : Int) < (a0.Services.drop v3.toNat).length then
    if (((a0.Services.drop v3.toNat).getD (0 : Int).toNat Z9).Name == a1.Name) = true then
     if (0 : Int) ≤ 1 ∧ 1 ≤ ((a0.Services.drop v3.toNat).length : Int) ∧ ((a0.Services.drop v3.toNat).length : Int) ≤ (a0.Services.drop v3.toNat).length then
      Zc5 K v3 a0 a1 ((a0.Services.drop v3.toNat).drop (1 : Int).toNat)
     else none
    else
     Zc5 K v3 a0 a1 (a0.Services.drop v3.toNat)
   else none
  else
   if (0 : Int) ≤ 0 ∧ 0 ≤ v3 ∧ v3 ≤ a0.Services.length then
    if ([] : List Zf).length + (a0.Services.take v3.toNat).length ≤ 1073741824 then
     if (a0.Services.take v3.toNat).length + [a1].length ≤ 1073741824 then
      if ((a0.Services.take v3.toNat) ++ [a1]).length + (a0.Services.drop v3.toNat).length ≤ 1073741824 then
       some (⟨(((a0.Services.take v3.toNat) ++ [a1]) ++ (a0.Services.drop v3.toNat)), a0.Calls⟩ : Ze)
      else none
     else none
    else none
   else none
 else none
def Z9z (K : Nat) (a0 : Ze) (a1 : Zf) (c5 : Int → Option (Ze)) : Nat → Int → Option (Ze)
 | 0, _ => none
 | k2 + 1, v1 =>
  if (decide (v1 < (a0.Services.length : Int))) = true then
   if (0 : Int) ≤ v1 ∧ v1 < a0.Services.length then
    if (slt (a0.Services.getD v1.toNat Z9).Name a1.Name) = true then
     (Z9z K a0 a1 c5 k2) (IntKind.i64.wrap (v1 + 1))
    else
     c5 v1
   else none
  else
   c5 v1
def F53 (K : Nat) (a0 : Ze) (a1 : Zf) : Option (Ze) :=
 Z9z K a0 a1 (Zbj K a0 a1) K 0
theorem F53_ok (K : Nat) (a0 : Ze) (a1 : Zf) (r : Ze) (h : F53 K a0 a1 = some r) : ACall P 53 ⟨[(Zc a0), (Z3 a1)], [], (Zc r), [], []⟩ := by
 refine Z1q Tryz.func53 Tryz.results53 rfl Tryz.ntmps53 rfl rfl rfl ?_
 intro E Q hP hN hro hret
 obtain ⟨P', nt', w0, F0, p0, S0, β0, ro0⟩ := E
 simp only at hP hN
 subst hP hN
 dsimp only [argT]
 unfold F53 at h
 refine Zj <| Zd <| Z1 I (Z2o (v := (Zc a0)) (cs := (Zc a0).cells) I I I I I) I <| Z1 I (Z2o (v := (Z3 a1)) (cs := (Z3 a1).cells) I I I I I) I <| Z1 I (Z21 (cs := [(.sl 4 [] false), (.sl 5 [] false)]) I z44 I I I) I <| Zh <| Zi <| Zj ?_
 refine Zd <| Z1 I (Zm (v := (.int .i64 0)) I I) I <| Zh <| Zi <| Zj <| AWp.weaken (st' := ⟨[(2, (.ptr 2 0)), (3, (.ptr 3 0)), (4, (.ptr 4 0)), (5, (.int .i64 0))], [(2, (.box (Zc a0).cells)), (3, (.box (Z3 a1).cells)), (4, (.box [(.sl 4 [] false), (.sl 5 [] false)]))]⟩) ⟨rfl, rfl, rfl, rfl, trivial⟩ ⟨rfl, rfl, rfl, trivial⟩ ?_
 refine Z1o (V := Int) (X := Int) (lp := fun k v => Z9z K a0 a1 (Zbj K a0 a1) k v = some r) (sh := fun v => ⟨[(2, (.ptr 2 0)), (3, (.ptr 3 0)), (4, (.ptr 4 0)), (5, (.int .i64 v))], [(2, (.box (Zc a0).cells)), (3, (.box (Z3 a1).cells)), (4, (.box [(.sl 4 [] false), (.sl 5 [] false)]))]⟩) (x := fun v => Zbj K a0 a1 v = some r) (shx := fun v => ⟨[(2, (.ptr 2 0)), (3, (.ptr 3 0)), (4, (.ptr 4 0)), (5, (.int .i64 v))], [(2, (.box (Zc a0).cells)), (3, (.box (Z3 a1).cells)), (4, (.box [(.sl 4 [] false), (.sl 5 [] false)]))]⟩) (k := K) (v := 0) h ?_ ?_
 ·intro v h
  revert h
  revert v
  intro v3 h
  try dsimp only at h ⊢
  unfold Zbj at h
  refine Zi <| Zj <| Zd <| Z1 I (Zr (m := 2) (o := 0) I Z4y I I) I <| Z1 I (Zy (cs := (Zc a0).cells) (v := (.sl 4 (a0.Services.map Z3) false)) I o41 I I I) I <| Z1 I (Zl (v := (.int .i64 v3)) I I) I ?_
  have ⟨hg6, h⟩ := Z14 h
  refine Z1 I (Z72 (l := a0.Services) (enc := Z3) (kl := .i64) (lo := v3) I s41 I I hg6) I <| Z1 I (Zm (v := (.sl 4 ((a0.Services.drop v3.toNat).map Z3) false)) I I) I <| Zh <| Zi <| Zj <| Zj <| Z1r mixed <| Zb 0 I (Zl (v := (.sl 4 ((a0.Services.drop v3.toNat).map Z3) false)) I I) ?_
  refine Zb 1 I (Z2d (l := (a0.Services.drop v3.toNat)) (enc := Z3) I s41 I) <| Zb 2 I (Z1x (k := .i64) (a := ((a0.Services.drop v3.toNat).length : Int)) (b := 0) (c := (decide (((a0.Services.drop v3.toNat).length : Int) > 0))) I I I I) <| Zb 3 I (Zl (v := (.bool (decide (((a0.Services.drop v3.toNat).length : Int) > 0)))) I I) ?_
  have hif := Z1w h
  refine AOpsD.split (fun hc => ?_) (fun hc => ?_)
  ·have h := hif.1 hc
   refine Z12 4 I I I I (Zl (v := (.sl 4 ((a0.Services.drop v3.toNat).map Z3) false)) I I) ?_
   have ⟨hg7, h⟩ := Z14 h
   refine Z12 5 I I I I (Z1s (k := .i64) (l := (a0.Services.drop v3.toNat)) (enc := Z3) (z := Z9) (n := 0) (cs := (Z3 ((a0.Services.drop v3.toNat).getD (0 : Int).toNat Z9)).cells) (full := false) I s41 I I hg7 I) <| Z12 6 I I I I (Z2f (cs := (Z3 ((a0.Services.drop v3.toNat).getD (0 : Int).toNat Z9)).cells) (ds := (Z3 ((a0.Services.drop v3.toNat).getD (0 : Int).toNat Z9)).cells) I Z8u I I I) <| Z12 7 I I I I (Z28 (cs := (Z3 ((a0.Services.drop v3.toNat).getD (0 : Int).toNat Z9)).cells) (v := (.str ((a0.Services.drop v3.toNat).getD (0 : Int).toNat Z9).Name)) I o9 I I) <| Z12 8 I I I I (Zr (m := 3) (o := 0) I Z8u I I) <| Z12 9 I I I I (Zy (cs := (Z3 a1).cells) (v := (.str a1.Name)) I o9 I I I) <| Z12 10 I I I I (Z3d (a := ((a0.Services.drop v3.toNat).getD (0 : Int).toNat Z9).Name) (b := a1.Name) (c := (((a0.Services.drop v3.toNat).getD (0 : Int).toNat Z9).Name == a1.Name)) I I I I) <| Zb 11 I (Z23 (v := (.bool (((a0.Services.drop v3.toNat).getD (0 : Int).toNat Z9).Name == a1.Name))) I I I) <| Z1t (by kernel_rfl) I ?_
   refine Zi ?_
   refine AWp.join (V := (List Zf)) (lp := fun v => Zc5 K v3 a0 a1 v = some r) (sh := fun v => ⟨[(2, (.ptr 2 0)), (3, (.ptr 3 0)), (4, (.ptr 4 0)), (5, (.int .i64 v3)), (6, (.sl 4 (v.map Z3) false))], [(2, (.box (Zc a0).cells)), (3, (.box (Z3 a1).cells)), (4, (.box [(.sl 4 [] false), (.sl 5 [] false)]))]⟩) ?_ ?_
   ·intro v h
    revert h
    revert v
    intro v8 h
    try dsimp only at h ⊢
    unfold Zc5 at h
    refine Zi <| Zj <| Z1r mixed <| Zb 0 I (Z1l (vs := []) (enc := Z3) (l := ([] : List Zf)) I el41 I I trivial I Z1y I I I I) <| Zb 1 I (Zr (m := 2) (o := 0) I Z4y I I) <| Zb 2 I (Zy (cs := (Zc a0).cells) (v := (.sl 4 (a0.Services.map Z3) false)) I o41 I I I) <| Zb 3 I (Zl (v := (.int .i64 v3)) I I) ?_
    have ⟨hg10, h⟩ := Z14 h
    refine Zb 4 I (Z9k (l := a0.Services) (enc := Z3) (kh := .i64) (hi := v3) I s41 I I hg10) ?_
    have ⟨hg11, h⟩ := Z14 h
    refine Zb 5 I (Z2t (m := 43) (enc := Z3) (l := ([] : List Zf)) (l' := (a0.Services.take v3.toNat)) (src := (.sl 4 ((a0.Services.take v3.toNat).map Z3) false)) (rd := []) I I el41 I u41 I I I ⟨rfl, rfl, rfl⟩ noReads Z1y hg11) <| Zb 6 I (Z1n (cs := (Z3 a1).cells) (vs := (Z3 a1).cells) I a68 I I I I) <| Zb 7 I (Z1l (vs := [(Z3 a1)]) (enc := Z3) (l := [a1]) I el41 I I ⟨rfl, trivial⟩ I Z1y I I I I) ?_
    have ⟨hg12, h⟩ := Z14 h
    refine Zb 8 I (Z2t (m := 43) (enc := Z3) (l := (a0.Services.take v3.toNat)) (l' := [a1]) (src := (.vs 50)) (rd := [(50, (.vec 4 (List.map Z3 [a1])))]) I I el41 I u41 I I I I (oneRead I) Z1y hg12) <| Zb 9 I (Zl (v := (.sl 4 (v8.map Z3) false)) I I) ?_
    have ⟨hg13, h⟩ := Z14 h
    refine Zb 10 I (Z2t (m := 43) (enc := Z3) (l := ((a0.Services.take v3.toNat) ++ [a1])) (l' := v8) (src := (.sl 4 (v8.map Z3) false)) (rd := []) I I el41 I u41 I I I ⟨rfl, rfl, rfl⟩ noReads Z1y hg13) <| Zb 11 I (Zr (m := 2) (o := 0) I Z4y I I) <| Zb 12 I (Z1b (cs := (Zc a0).cells) (vs := [(.vs 43)]) (ds := [(.vs 43), (.sl 5 (a0.Calls.map Z6) false)]) (v := (.vs 43)) sz41 I I I I I I I I) <| Z1t (by kernel_rfl) I <| Zi <| Zj <| Zd <| Z1 I (Z1n (cs := [(.vs 43), (.sl 5 (a0.Calls.map Z6) false)]) (vs := [(.vs 43), (.sl 5 (a0.Calls.map Z6) false)]) I a44 I I I I) I ?_
    refine Z1 I (Z1b (cs := [(.sl 4 [] false), (.sl 5 [] false)]) (vs := [(.vs 43), (.sl 5 (a0.Calls.map Z6) false)]) (ds := [(.vs 43), (.sl 5 (a0.Calls.map Z6) false)]) (v := (.ag [(.vs 43), (.sl 5 (a0.Calls.map Z6) false)])) sz44 I I I I I I I I) I <| Zh <| Zi <| Z1c <| At.ghost (st' := ⟨[(4, (.ptr 4 0))], [(4, (.box [(.sl 4 ((((a0.Services.take v3.toNat) ++ [a1]) ++ v8).map Z3) false), (.sl 5 (a0.Calls.map Z6) false)]))]⟩) (fun a w h => (Z1g ⟨[(4, (.ptr 4 0))], [(4, (.box [(.sl 4 ((((a0.Services.take v3.toNat) ++ [a1]) ++ v8).map Z3) false), (.sl 5 (a0.Calls.map Z6) false)]))]⟩ (Z2i (m := 43) (sz := 4) (es := (List.map Z3 (((a0.Services.take v3.toNat) ++ [a1]) ++ v8))) a w (Z1g ⟨[(4, (.ptr 4 0))], [(43, (.vec 4 (List.map Z3 (((a0.Services.take v3.toNat) ++ [a1]) ++ v8)))), (4, (.box [(.vs 43), (.sl 5 (a0.Calls.map Z6) false)]))]⟩ h ⟨rfl, trivial⟩ ⟨rfl, rfl, trivial⟩)) ⟨rfl, trivial⟩ ⟨rfl, trivial⟩)) ?_
    have h := Option.some.inj h
    subst h
    refine (hret _ ?_).1
    exact ⟨[(.ag [(.sl 4 ((((a0.Services.take v3.toNat) ++ [a1]) ++ v8).map Z3) false), (.sl 5 (a0.Calls.map Z6) false)])], ⟨⟨4, _, rfl, rfl, .inr ⟨_, a44, rfl, rfl⟩⟩, trivial⟩, rfl, trivial⟩
   ·intro J9
    have hif := Z1w h
    refine Z16 I (fun hc => ?_) (fun hc => ?_)
    ·have h := hif.1 hc
     refine Zd <| Z1 I (Zl (v := (.sl 4 ((a0.Services.drop v3.toNat).map Z3) false)) I I) I ?_
     have ⟨hg14, h⟩ := Z14 h
     refine Z1 I (Z72 (l := (a0.Services.drop v3.toNat)) (enc := Z3) (kl := .i64) (lo := 1) I s41 I I hg14) I <| Z1 I (Zm (v := (.sl 4 (((a0.Services.drop v3.toNat).drop (1 : Int).toNat).map Z3) false)) I I) I <| Zh ?_
     exact Z13 (st' := ⟨[(2, (.ptr 2 0)), (3, (.ptr 3 0)), (4, (.ptr 4 0)), (5, (.int .i64 v3)), (6, (.sl 4 (((a0.Services.drop v3.toNat).drop (1 : Int).toNat).map Z3) false))], [(2, (.box (Zc a0).cells)), (3, (.box (Z3 a1).cells)), (4, (.box [(.sl 4 [] false), (.sl 5 [] false)]))]⟩) ⟨rfl, rfl, rfl, rfl, rfl, trivial⟩ ⟨rfl, rfl, rfl, trivial⟩ (J9 ((a0.Services.drop v3.toNat).drop (1 : Int).toNat) h)
    ·have h := hif.2 hc
     refine Z1a ?_
     exact Z13 (st' := ⟨[(2, (.ptr 2 0)), (3, (.ptr 3 0)), (4, (.ptr 4 0)), (5, (.int .i64 v3)), (6, (.sl 4 ((a0.Services.drop v3.toNat).map Z3) false))], [(2, (.box (Zc a0).cells)), (3, (.box (Z3 a1).cells)), (4, (.box [(.sl 4 [] false), (.sl 5 [] false)]))]⟩) ⟨rfl, rfl, rfl, rfl, rfl, trivial⟩ ⟨rfl, rfl, rfl, trivial⟩ (J9 (a0.Services.drop v3.toNat) h)
  ·have h := hif.2 hc
   refine Zx 4 I I I I I I I <| Zx 5 I I I I I I I <| Zx 6 I I I I I I I <| Zx 7 I I I I I I I <| Zx 8 I I I I I I I <| Zx 9 I I I I I I I <| Zx 10 I I I I I I I <| Zb 11 I (Z20 (v := (.bool false)) I I I) ?_
   refine Z1t (by kernel_rfl) I <| Zi ?_
   refine Z16 (b := false) I (fun hc => ?_) (fun hc => ?_)
   ·cases hc
   refine Z1a <| Zi <| Zj <| Z1r mixed <| Zb 0 I (Z1l (vs := []) (enc := Z3) (l := ([] : List Zf)) I el41 I I trivial I Z1y I I I I) <| Zb 1 I (Zr (m := 2) (o := 0) I Z4y I I) <| Zb 2 I (Zy (cs := (Zc a0).cells) (v := (.sl 4 (a0.Services.map Z3) false)) I o41 I I I) <| Zb 3 I (Zl (v := (.int .i64 v3)) I I) ?_
   have ⟨hg15, h⟩ := Z14 h
   refine Zb 4 I (Z9k (l := a0.Services) (enc := Z3) (kh := .i64) (hi := v3) I s41 I I hg15) ?_
   have ⟨hg16, h⟩ := Z14 h
   refine Zb 5 I (Z2t (m := 43) (enc := Z3) (l := ([] : List Zf)) (l' := (a0.Services.take v3.toNat)) (src := (.sl 4 ((a0.Services.take v3.toNat).map Z3) false)) (rd := []) I I el41 I u41 I I I ⟨rfl, rfl, rfl⟩ noReads Z1y hg16) <| Zb 6 I (Z1n (cs := (Z3 a1).cells) (vs := (Z3 a1).cells) I a68 I I I I) <| Zb 7 I (Z1l (vs := [(Z3 a1)]) (enc := Z3) (l := [a1]) I el41 I I ⟨rfl, trivial⟩ I Z1y I I I I) ?_
   have ⟨hg17, h⟩ := Z14 h
   refine Zb 8 I (Z2t (m := 43) (enc := Z3) (l := (a0.Services.take v3.toNat)) (l' := [a1]) (src := (.vs 50)) (rd := [(50, (.vec 4 (List.map Z3 [a1])))]) I I el41 I u41 I I I I (oneRead I) Z1y hg17) <| Zb 9 I (Zl (v := (.sl 4 ((a0.Services.drop v3.toNat).map Z3) false)) I I) ?_
   have ⟨hg18, h⟩ := Z14 h
   refine Zb 10 I (Z2t (m := 43) (enc := Z3) (l := ((a0.Services.take v3.toNat) ++ [a1])) (l' := (a0.Services.drop v3.toNat)) (src := (.sl 4 ((a0.Services.drop v3.toNat).map Z3) false)) (rd := []) I I el41 I u41 I I I ⟨rfl, rfl, rfl⟩ noReads Z1y hg18) <| Zb 11 I (Zr (m := 2) (o := 0) I Z4y I I) <| Zb 12 I (Z1b (cs := (Zc a0).cells) (vs := [(.vs 43)]) (ds := [(.vs 43), (.sl 5 (a0.Calls.map Z6) false)]) (v := (.vs 43)) sz41 I I I I I I I I) <| Z1t (by kernel_rfl) I <| Zi <| Zj <| Zd <| Z1 I (Z1n (cs := [(.vs 43), (.sl 5 (a0.Calls.map Z6) false)]) (vs := [(.vs 43), (.sl 5 (a0.Calls.map Z6) false)]) I a44 I I I I) I ?_
   refine Z1 I (Z1b (cs := [(.sl 4 [] false), (.sl 5 [] false)]) (vs := [(.vs 43), (.sl 5 (a0.Calls.map Z6) false)]) (ds := [(.vs 43), (.sl 5 (a0.Calls.map Z6) false)]) (v := (.ag [(.vs 43), (.sl 5 (a0.Calls.map Z6) false)])) sz44 I I I I I I I I) I <| Zh <| Zi <| Z1c <| At.ghost (st' := ⟨[(4, (.ptr 4 0))], [(4, (.box [(.sl 4 ((((a0.Services.take v3.toNat) ++ [a1]) ++ (a0.Services.drop v3.toNat)).map Z3) false), (.sl 5 (a0.Calls.map Z6) false)]))]⟩) (fun a w h => (Z1g ⟨[(4, (.ptr 4 0))], [(4, (.box [(.sl 4 ((((a0.Services.take v3.toNat) ++ [a1]) ++ (a0.Services.drop v3.toNat)).map Z3) false), (.sl 5 (a0.Calls.map Z6) false)]))]⟩ (Z2i (m := 43) (sz := 4) (es := (List.map Z3 (((a0.Services.take v3.toNat) ++ [a1]) ++ (a0.Services.drop v3.toNat)))) a w (Z1g ⟨[(4, (.ptr 4 0))], [(43, (.vec 4 (List.map Z3 (((a0.Services.take v3.toNat) ++ [a1]) ++ (a0.Services.drop v3.toNat))))), (4, (.box [(.vs 43), (.sl 5 (a0.Calls.map Z6) false)]))]⟩ h ⟨rfl, trivial⟩ ⟨rfl, rfl, trivial⟩)) ⟨rfl, trivial⟩ ⟨rfl, trivial⟩)) ?_
   have h := Option.some.inj h
   subst h
   refine (hret _ ?_).1
   exact ⟨[(.ag [(.sl 4 ((((a0.Services.take v3.toNat) ++ [a1]) ++ (a0.Services.drop v3.toNat)).map Z3) false), (.sl 5 (a0.Calls.map Z6) false)])], ⟨⟨4, _, rfl, rfl, .inr ⟨_, a44, rfl, rfl⟩⟩, trivial⟩, rfl, trivial⟩
 ·intro N k2 v h IH2 J2
  revert h
  revert v
  intro v1 h
  try dsimp only at h IH2 J2 ⊢
  cases k2 with
  | zero => cases h
  | succ k2 =>
   rw [Z9z] at h
   refine Zj <| Zj <| Z1r mixed <| Zb 0 I (Zl (v := (.int .i64 v1)) I I) <| Zb 1 I (Zr (m := 2) (o := 0) I Z4y I I) <| Zb 2 I (Zy (cs := (Zc a0).cells) (v := (.sl 4 (a0.Services.map Z3) false)) I o41 I I I) <| Zb 3 I (Z2d (l := a0.Services) (enc := Z3) I s41 I) <| Zb 4 I (Z1x (k := .i64) (a := v1) (b := (a0.Services.length : Int)) (c := (decide (v1 < (a0.Services.length : Int)))) I I I I) ?_
   refine Zb 5 I (Zl (v := (.bool (decide (v1 < (a0.Services.length : Int))))) I I) ?_
   have hif := Z1w h
   refine AOpsD.split (fun hc => ?_) (fun hc => ?_)
   ·have h := hif.1 hc
    refine Z12 6 I I I I (Zr (m := 2) (o := 0) I Z4y I I) <| Z12 7 I I I I (Zy (cs := (Zc a0).cells) (v := (.sl 4 (a0.Services.map Z3) false)) I o41 I I I) <| Z12 8 I I I I (Zl (v := (.int .i64 v1)) I I) ?_
    have ⟨hg20, h⟩ := Z14 h
    refine Z12 9 I I I I (Z1s (k := .i64) (l := a0.Services) (enc := Z3) (z := Z9) (n := v1) (cs := (Z3 (a0.Services.getD v1.toNat Z9)).cells) (full := false) I s41 I I hg20 I) <| Z12 10 I I I I (Z2f (cs := (Z3 (a0.Services.getD v1.toNat Z9)).cells) (ds := (Z3 (a0.Services.getD v1.toNat Z9)).cells) I Z8u I I I) <| Z12 11 I I I I (Z28 (cs := (Z3 (a0.Services.getD v1.toNat Z9)).cells) (v := (.str (a0.Services.getD v1.toNat Z9).Name)) I o9 I I) <| Z12 12 I I I I (Zr (m := 3) (o := 0) I Z8u I I) <| Z12 13 I I I I (Zy (cs := (Z3 a1).cells) (v := (.str a1.Name)) I o9 I I I) <| Z12 14 I I I I (Z3d (a := (a0.Services.getD v1.toNat Z9).Name) (b := a1.Name) (c := (slt (a0.Services.getD v1.toNat Z9).Name a1.Name)) I I I I) <| Zb 15 I (Z23 (v := (.bool (slt (a0.Services.getD v1.toNat Z9).Name a1.Name))) I I I) <| Z1t (by kernel_rfl) I ?_
    refine Zi ?_
    have hif := Z1w h
    refine Z16 I (fun hc => ?_) (fun hc => ?_)
    ·have h := hif.1 hc
     refine Z1a <| Zi <| AWp.block <| Zd <| Z1 I (Zl (v := (.int .i64 v1)) I I) I <| Z1 I (Z1k (k := .i64) (a := v1) (b := 1) (c := (IntKind.i64.wrap (v1 + 1))) I I I I) I <| Z1 I (Zm (v := (.int .i64 (IntKind.i64.wrap (v1 + 1)))) I I) I <| Zh ?_
     refine At.end ?_
     exact Z13 (st' := ⟨[(2, (.ptr 2 0)), (3, (.ptr 3 0)), (4, (.ptr 4 0)), (5, (.int .i64 (IntKind.i64.wrap (v1 + 1))))], [(2, (.box (Zc a0).cells)), (3, (.box (Z3 a1).cells)), (4, (.box [(.sl 4 [] false), (.sl 5 [] false)]))]⟩) ⟨rfl, rfl, rfl, rfl, trivial⟩ ⟨rfl, rfl, rfl, trivial⟩ (IH2 _ (IntKind.i64.wrap (v1 + 1)) (Nat.lt_succ_self _) h)
    ·have h := hif.2 hc
     refine AWp.exit <| At.thru ?_
     exact Z13 (st' := ⟨[(2, (.ptr 2 0)), (3, (.ptr 3 0)), (4, (.ptr 4 0)), (5, (.int .i64 v1))], [(2, (.box (Zc a0).cells)), (3, (.box (Z3 a1).cells)), (4, (.box [(.sl 4 [] false), (.sl 5 [] false)]))]⟩) ⟨rfl, rfl, rfl, rfl, trivial⟩ ⟨rfl, rfl, rfl, trivial⟩ (J2 v1 h)
   ·have h := hif.2 hc
    refine Zx 6 I I I I I I I <| Zx 7 I I I I I I I <| Zx 8 I I I I I I I <| Zx 9 I I I I I I I <| Zx 10 I I I I I I I <| Zx 11 I I I I I I I <| Zx 12 I I I I I I I <| Zx 13 I I I I I I I ?_
    refine Zx 14 I I I I I I I <| Zb 15 I (Z20 (v := (.bool false)) I I I) <| Z1t (by kernel_rfl) I <| Zi ?_
    refine Z16 (b := false) I (fun hc => ?_) (fun hc => ?_)
    ·cases hc
    refine AWp.exit <| At.thru ?_
    exact Z13 (st' := ⟨[(2, (.ptr 2 0)), (3, (.ptr 3 0)), (4, (.ptr 4 0)), (5, (.int .i64 v1))], [(2, (.box (Zc a0).cells)), (3, (.box (Z3 a1).cells)), (4, (.box [(.sl 4 [] false), (.sl 5 [] false)]))]⟩) ⟨rfl, rfl, rfl, rfl, trivial⟩ ⟨rfl, rfl, rfl, trivial⟩ (J2 v1 h)
def Zb2 (K : Nat) (a1 : Str) (a2 : Str) : Option (Zk) :=
 some (⟨a1, a2, 0, 0, 0⟩ : Zk)
def F54_j6 (K : Nat) (b5 : Int → Option (Zk)) (v1 : Int) : Option (Zk) :=
 b5 (IntKind.i64.wrap (v1 + 1))
def Z8b (K : Nat) (a0 : Ze) (a1 : Str) (a2 : Str) (c4 : Option (Zk)) : Nat → Int → Option (Zk)
 | 0, _ => none
 | k2 + 1, v1 =>
  if (decide (v1 < (a0.Calls.length : Int))) = true then
   if (0 : Int) ≤ v1 ∧ v1 < a0.Calls.length then
    if ((a0.Calls.getD v1.toNat Za).Caller == a1) = true then
     if (0 : Int) ≤ v1 ∧ v1 < a0.Calls.length then
      if ((a0.Calls.getD v1.toNat Za).Callee == a2) = true then
       if (0 : Int) ≤ v1 ∧ v1 < a0.Calls.length then
        some (a0.Calls.getD v1.toNat Za)
       else none
      else
       F54_j6 K (Z8b K a0 a1 a2 c4 k2) v1
     else none
    else
     F54_j6 K (Z8b K a0 a1 a2 c4 k2) v1
   else none
  else
   c4
def F54 (K : Nat) (a0 : Ze) (a1 : Str) (a2 : Str) : Option (Zk) :=
 Z8b K a0 a1 a2 (Zb2 K a1 a2) K 0
theorem F54_ok (K : Nat) (a0 : Ze) (a1 : Str) (a2 : Str) (r : Zk) (h : F54 K a0 a1 a2 = some r) : ACall P 54 ⟨[(Zc a0), (.str a1), (.str a2)], [], (Z6 r), [], []⟩ := by
 refine Z1q Tryz.func54 Tryz.results54 rfl Tryz.ntmps54 rfl rfl rfl ?_
 intro E Q hP hN hro hret
 obtain ⟨P', nt', w0, F0, p0, S0, β0, ro0⟩ := E
 simp only at hP hN
 subst hP hN
 dsimp only [argT]
 unfold F54 at h
 refine Zj <| Zd <| Z1 I (Z2o (v := (Zc a0)) (cs := (Zc a0).cells) I I I I I) I <| Z1 I (Z21 (cs := [(.str []), (.str []), (.int .i64 0), (.int .i64 0), (.int .i64 0)]) I z88 I I I) I <| Zh <| Zi <| Zj <| Zj ?_
 refine Zd <| Z1 I (Zm (v := (.int .i64 0)) I I) I <| Zh <| Zi <| AWp.weaken (st' := ⟨[(1, (.str a1)), (2, (.str a2)), (3, (.ptr 3 0)), (6, (.ptr 6 0)), (7, (.int .i64 0))], [(3, (.box (Zc a0).cells)), (6, (.box [(.str []), (.str []), (.int .i64 0), (.int .i64 0), (.int .i64 0)]))]⟩) ⟨rfl, rfl, rfl, rfl, rfl, trivial⟩ ⟨rfl, rfl, trivial⟩ ?_
 refine Z1o (V := Int) (X := Unit) (lp := fun k v => Z8b K a0 a1 a2 (Zb2 K a1 a2) k v = some r) (sh := fun v => ⟨[(1, (.str a1)), (2, (.str a2)), (3, (.ptr 3 0)), (6, (.ptr 6 0)), (7, (.int .i64 v))], [(3, (.box (Zc a0).cells)), (6, (.box [(.str []), (.str []), (.int .i64 0), (.int .i64 0), (.int .i64 0)]))]⟩) (x := fun v => Zb2 K a1 a2 = some r) (shx := fun v => ⟨[(1, (.str a1)), (2, (.str a2)), (6, (.ptr 6 0))], [(6, (.box [(.str []), (.str []), (.int .i64 0), (.int .i64 0), (.int .i64 0)]))]⟩) (k := K) (v := 0) h ?_ ?_
 ·intro v h
  try dsimp only at h ⊢
  unfold Zb2 at h
  refine Zi <| Zj <| Zd <| Z1 I (Zl (v := (.str a1)) I I) I <| Z1 I (Zl (v := (.str a2)) I I) I <| Z1 I (Z29 (vs := [(0, (.str a1)), (1, (.str a2))]) (cs := [(.str a1), (.str a2), (.int .i64 0), (.int .i64 0), (.int .i64 0)]) I st88 ⟨rfl, rfl, rfl, rfl, trivial⟩ I) I <| Z1 I (Z1b (cs := [(.str []), (.str []), (.int .i64 0), (.int .i64 0), (.int .i64 0)]) (vs := [(.str a1), (.str a2), (.int .i64 0), (.int .i64 0), (.int .i64 0)]) (ds := [(.str a1), (.str a2), (.int .i64 0), (.int .i64 0), (.int .i64 0)]) (v := (.ag [(.str a1), (.str a2), (.int .i64 0), (.int .i64 0), (.int .i64 0)])) sz88 I I I I I I I I) I <| Zh ?_
  refine Zi <| Z1c ?_
  have h := Option.some.inj h
  subst h
  refine (hret _ ?_).1
  exact ⟨[(.ag [(.str a1), (.str a2), (.int .i64 0), (.int .i64 0), (.int .i64 0)])], ⟨⟨6, _, rfl, rfl, .inr ⟨_, a88, rfl, rfl⟩⟩, trivial⟩, rfl, trivial⟩
 ·intro N k2 v h IH2 J2
  revert h
  revert v
  intro v1 h
  try dsimp only at h IH2 J2 ⊢
  cases k2 with
  | zero => cases h
  | succ k2 =>
   rw [Z8b] at h
   refine Zj <| Zj <| Zd <| Z1 I (Zl (v := (.int .i64 v1)) I I) I <| Z1 I (Zr (m := 3) (o := 0) I Z59 I I) I <| Z1 I (Zy (cs := (Zc a0).cells) (v := (.sl 5 (a0.Calls.map Z6) false)) I o42 I I I) I <| Z1 I (Z2d (l := a0.Calls) (enc := Z6) I s42 I) I <| Z1 I (Z1x (k := .i64) (a := v1) (b := (a0.Calls.length : Int)) (c := (decide (v1 < (a0.Calls.length : Int)))) I I I I) I ?_
   refine Zh <| Zi ?_
   have hif := Z1w h
   refine Z16 I (fun hc => ?_) (fun hc => ?_)
   ·have h := hif.1 hc
    refine Z1a <| Zi <| Zj ?_
    refine AWp.blockJoin (V := Unit) (lp := fun v => F54_j6 K (Z8b K a0 a1 a2 (Zb2 K a1 a2) k2) v1 = some r) (sh := fun v => ⟨[(1, (.str a1)), (2, (.str a2)), (3, (.ptr 3 0)), (6, (.ptr 6 0)), (7, (.int .i64 v1))], [(3, (.box (Zc a0).cells)), (6, (.box [(.str []), (.str []), (.int .i64 0), (.int .i64 0), (.int .i64 0)]))]⟩) ?_ ?_
    ·intro v h
     try dsimp only at h ⊢
     unfold F54_j6 at h
     refine Zi <| Zd <| Z1 I (Zl (v := (.int .i64 v1)) I I) I <| Z1 I (Z1k (k := .i64) (a := v1) (b := 1) (c := (IntKind.i64.wrap (v1 + 1))) I I I I) I <| Z1 I (Zm (v := (.int .i64 (IntKind.i64.wrap (v1 + 1)))) I I) I <| Zh ?_
     exact Z13 (st' := ⟨[(1, (.str a1)), (2, (.str a2)), (3, (.ptr 3 0)), (6, (.ptr 6 0)), (7, (.int .i64 (IntKind.i64.wrap (v1 + 1))))], [(3, (.box (Zc a0).cells)), (6, (.box [(.str []), (.str []), (.int .i64 0), (.int .i64 0), (.int .i64 0)]))]⟩) ⟨rfl, rfl, rfl, rfl, rfl, trivial⟩ ⟨rfl, rfl, trivial⟩ (IH2 _ (IntKind.i64.wrap (v1 + 1)) (Nat.lt_succ_self _) h)
    ·intro J6
     refine Zj <| Zd <| Z1 I (Zr (m := 3) (o := 0) I Z59 I I) I <| Z1 I (Zy (cs := (Zc a0).cells) (v := (.sl 5 (a0.Calls.map Z6) false)) I o42 I I I) I <| Z1 I (Zl (v := (.int .i64 v1)) I I) I ?_
     have ⟨hg7, h⟩ := Z14 h
     refine Z1 I (Z1s (k := .i64) (l := a0.Calls) (enc := Z6) (z := Za) (n := v1) (cs := (Z6 (a0.Calls.getD v1.toNat Za)).cells) (full := false) I s42 I I hg7 I) I <| Z1 I (Z2f (cs := (Z6 (a0.Calls.getD v1.toNat Za)).cells) (ds := (Z6 (a0.Calls.getD v1.toNat Za)).cells) I Z95 I I I) I <| Z1 I (Z28 (cs := (Z6 (a0.Calls.getD v1.toNat Za)).cells) (v := (.str (a0.Calls.getD v1.toNat Za).Caller)) I o9 I I) I <| Z1 I (Zl (v := (.str a1)) I I) I <| Z1 I (Z3d (a := (a0.Calls.getD v1.toNat Za).Caller) (b := a1) (c := ((a0.Calls.getD v1.toNat Za).Caller == a1)) I I I I) I <| Z1 I (Zl (v := (.bool ((a0.Calls.getD v1.toNat Za).Caller == a1))) I I) I ?_
     have hif := Z1w h
     refine AOps.split (fun hc => ?_) (fun hc => ?_)
     ·have h := hif.1 hc
      refine Zz I I I I (Zr (m := 3) (o := 0) I Z59 I I) I <| Zz I I I I (Zy (cs := (Zc a0).cells) (v := (.sl 5 (a0.Calls.map Z6) false)) I o42 I I I) I <| Zz I I I I (Zl (v := (.int .i64 v1)) I I) I ?_
      have ⟨hg8, h⟩ := Z14 h
      refine Zz I I I I (Z1s (k := .i64) (l := a0.Calls) (enc := Z6) (z := Za) (n := v1) (cs := (Z6 (a0.Calls.getD v1.toNat Za)).cells) (full := false) I s42 I I hg8 I) I <| Zz I I I I (Z2f (cs := (Z6 (a0.Calls.getD v1.toNat Za)).cells) (ds := [(.str (a0.Calls.getD v1.toNat Za).Callee), (.int .i64 (a0.Calls.getD v1.toNat Za).Count), (.int .i64 (a0.Calls.getD v1.toNat Za).Errors), (.int .i64 (a0.Calls.getD v1.toNat Za).Time)]) I Z93 I I I) I <| Zz I I I I (Z28 (cs := [(.str (a0.Calls.getD v1.toNat Za).Callee), (.int .i64 (a0.Calls.getD v1.toNat Za).Count), (.int .i64 (a0.Calls.getD v1.toNat Za).Errors), (.int .i64 (a0.Calls.getD v1.toNat Za).Time)]) (v := (.str (a0.Calls.getD v1.toNat Za).Callee)) I o9 I I) I <| Zz I I I I (Zl (v := (.str a2)) I I) I <| Zz I I I I (Z3d (a := (a0.Calls.getD v1.toNat Za).Callee) (b := a2) (c := ((a0.Calls.getD v1.toNat Za).Callee == a2)) I I I I) I <| Z1 I (Z23 (v := (.bool ((a0.Calls.getD v1.toNat Za).Callee == a2))) I I I) I <| Zh <| Zi ?_
      have hif := Z1w h
      refine Z16 I (fun hc => ?_) (fun hc => ?_)
      ·have h := hif.1 hc
       refine Zj <| Zd <| Z1 I (Zr (m := 3) (o := 0) I Z59 I I) I <| Z1 I (Zy (cs := (Zc a0).cells) (v := (.sl 5 (a0.Calls.map Z6) false)) I o42 I I I) I <| Z1 I (Zl (v := (.int .i64 v1)) I I) I ?_
       have ⟨hg9, h⟩ := Z14 h
       refine Z1 I (Z1s (k := .i64) (l := a0.Calls) (enc := Z6) (z := Za) (n := v1) (cs := (Z6 (a0.Calls.getD v1.toNat Za)).cells) (full := false) I s42 I I hg9 I) I <| Z1 I (Z2h (cs := (Z6 (a0.Calls.getD v1.toNat Za)).cells) (vs := (Z6 (a0.Calls.getD v1.toNat Za)).cells) I a88 I I I) I <| Z1 I (Z1b (cs := [(.str []), (.str []), (.int .i64 0), (.int .i64 0), (.int .i64 0)]) (vs := (Z6 (a0.Calls.getD v1.toNat Za)).cells) (ds := (Z6 (a0.Calls.getD v1.toNat Za)).cells) (v := (Z6 (a0.Calls.getD v1.toNat Za))) sz88 I I I I I I I I) I <| Zh <| Zi <| Z1c <| Z1u <| Z18 ?_
       refine Z18 (Z1u ?_)
       refine Z18 ?_
       have h := Option.some.inj h
       subst h
       refine (hret _ ?_).1
       exact ⟨[(Z6 (a0.Calls.getD v1.toNat Za))], ⟨⟨6, _, rfl, rfl, .inr ⟨_, a88, rfl, rfl⟩⟩, trivial⟩, rfl, trivial⟩
      ·have h := hif.2 hc
       refine Z1a <| At.end ?_
       exact Z13 (st' := ⟨[(1, (.str a1)), (2, (.str a2)), (3, (.ptr 3 0)), (6, (.ptr 6 0)), (7, (.int .i64 v1))], [(3, (.box (Zc a0).cells)), (6, (.box [(.str []), (.str []), (.int .i64 0), (.int .i64 0), (.int .i64 0)]))]⟩) ⟨rfl, rfl, rfl, rfl, rfl, trivial⟩ ⟨rfl, rfl, trivial⟩ (J6 () h)
     ·have h := hif.2 hc
      refine Zs I I I I I I I <| Zs I I I I I I I <| Zs I I I I I I I <| Zs I I I I I I I <| Zs I I I I I I I <| Zs I I I I I I I <| Zs I I I I I I I <| Zs I I I I I I I ?_
      refine Z1 I (Z20 (v := (.bool false)) I I I) I <| Zh <| Zi ?_
      refine Z16 (b := false) I (fun hc => ?_) (fun hc => ?_)
      ·cases hc
      refine Z1a <| At.end ?_
      exact Z13 (st' := ⟨[(1, (.str a1)), (2, (.str a2)), (3, (.ptr 3 0)), (6, (.ptr 6 0)), (7, (.int .i64 v1))], [(3, (.box (Zc a0).cells)), (6, (.box [(.str []), (.str []), (.int .i64 0), (.int .i64 0), (.int .i64 0)]))]⟩) ⟨rfl, rfl, rfl, rfl, rfl, trivial⟩ ⟨rfl, rfl, trivial⟩ (J6 () h)
   ·have h := hif.2 hc
    refine AWp.exit <| At.thru ?_
    exact Z13 (st' := ⟨[(1, (.str a1)), (2, (.str a2)), (6, (.ptr 6 0))], [(6, (.box [(.str []), (.str []), (.int .i64 0), (.int .i64 0), (.int .i64 0)]))]⟩) ⟨rfl, rfl, rfl, trivial⟩ ⟨rfl, trivial⟩ (J2 () h)
def Z9x (K : Nat) (v1 : Bool) : Option (Bool) :=
 some v1
def F71 (K : Nat) (a0 : Str) (a1 : Str) (a2 : Str) (a3 : Str) : Option (Bool) :=
 if (slt a0 a2) = true then
  Z9x K true
 else
  if (a0 == a2) = true then
   Z9x K (slt a1 a3)
  else
   Z9x K false
theorem F71_ok (K : Nat) (a0 : Str) (a1 : Str) (a2 : Str) (a3 : Str) (r : Bool) (h : F71 K a0 a1 a2 a3 = some r) : ACall P 71 ⟨[(.str a0), (.str a1), (.str a2), (.str a3)], [], (.bool r), [], []⟩ := by
 refine Z1q Tryz.func71 Tryz.results71 rfl Tryz.ntmps71 rfl rfl rfl ?_
 intro E Q hP hN hro hret
 obtain ⟨P', nt', w0, F0, p0, S0, β0, ro0⟩ := E
 simp only at hP hN
 subst hP hN
 dsimp only [argT]
 unfold F71 at h
 refine Zj <| Zd <| Z1 I (Zm (v := (.bool false)) I I) I <| Zh <| Zi <| Zj ?_
 refine AWp.join (V := Bool) (lp := fun v => Z9x K v = some r) (sh := fun v => ⟨[(8, (.bool v))], []⟩) ?_ ?_
 ·intro v h
  revert h
  revert v
  intro v1 h
  try dsimp only at h ⊢
  unfold Z9x at h
  refine Zi <| Z1c ?_
  have h := Option.some.inj h
  subst h
  refine (hret _ ?_).1
  exact ⟨[(.bool v1)], ⟨rfl, trivial⟩, rfl, trivial⟩
 ·intro J2
  refine Zd <| Z1 I (Zl (v := (.str a0)) I I) I <| Z1 I (Zl (v := (.str a2)) I I) I <| Z1 I (Z3d (a := a0) (b := a2) (c := (slt a0 a2)) I I I I) I <| Z1 I (Zl (v := (.bool (slt a0 a2))) I I) I ?_
  have hif := Z1w h
  refine AOps.split (fun hc => ?_) (fun hc => ?_)
  ·have h := hif.1 hc
   refine Zs I I I I I I I <| Zs I I I I I I I <| Zs I I I I I I I <| Zs I I I I I I I <| Zs (u := .tup []) I I I I I I I <| Zs (u := .tup []) I I I I I I I <| Zs (u := .tup []) I I I I I I I <| Zs I I I I I I I ?_
   refine Z1 I (Z23 (v := (.bool true)) I I I) I <| Z1 I (Zm (v := (.bool true)) I I) I <| Zh ?_
   exact Z13 (st' := ⟨[(8, (.bool true))], []⟩) ⟨rfl, trivial⟩ trivial (J2 true h)
  ·have h := hif.2 hc
   refine Zz I I I I (Zl (v := (.str a0)) I I) I <| Zz I I I I (Zl (v := (.str a2)) I I) I <| Zz I I I I (Z3d (a := a0) (b := a2) (c := (a0 == a2)) I I I I) I <| Zz I I I I (Zl (v := (.bool (a0 == a2))) I I) I ?_
   have hif := Z1w h
   refine AOps.split (fun hc => ?_) (fun hc => ?_)
   ·have h := hif.1 hc
    refine Zz I I I I (Zl (v := (.str a1)) I I) I <| Zz I I I I (Zl (v := (.str a3)) I I) I <| Zz I I I I (Z3d (a := a1) (b := a3) (c := (slt a1 a3)) I I I I) I <| Zz I I I I (Z23 (v := (.bool (slt a1 a3))) I I I) I <| Z1 I (Z20 (v := (.bool (slt a1 a3))) I I I) I <| Z1 I (Zm (v := (.bool (slt a1 a3))) I I) I <| Zh ?_
    exact Z13 (st' := ⟨[(8, (.bool (slt a1 a3)))], []⟩) ⟨rfl, trivial⟩ trivial (J2 (slt a1 a3) h)
   ·have h := hif.2 hc
    refine Zs I I I I I I I <| Zs I I I I I I I <| Zs I I I I I I I <| Zz I I I I (Z20 (v := (.bool false)) I I I) I <| Z1 I (Z20 (v := (.bool false)) I I I) I <| Z1 I (Zm (v := (.bool false)) I I) I <| Zh ?_
    exact Z13 (st' := ⟨[(8, (.bool false))], []⟩) ⟨rfl, trivial⟩ trivial (J2 false h)
def Z9u (K : Nat) (v3 : Int) (a0 : Ze) (a1 : Zk) (v9 : (List Zk)) : Option (Ze) :=
 if (0 : Int) ≤ 0 ∧ 0 ≤ v3 ∧ v3 ≤ a0.Calls.length then
  if ([] : List Zk).length + (a0.Calls.take v3.toNat).length ≤ 1073741824 then
   if (a0.Calls.take v3.toNat).length + [a1].length ≤ 1073741824 then
    if ((a0.Calls.take v3.toNat) ++ [a1]).length + v9.length ≤ 1073741824 then
     some (⟨a0.Services, (((a0.Calls.take v3.toNat) ++ [a1]) ++ v9)⟩ : Ze)
    else none
   else none
  else none
 else none
def Z7o (K : Nat) (a0 : Ze) (v3 : Int) (a1 : Zk) (v7 : Bool) : Option (Ze) :=
 if v7 = true then
  if (0 : Int) ≤ 1 ∧ 1 ≤ ((a0.Calls.drop v3.toNat).length : Int) ∧ ((a0.Calls.drop v3.toNat).length : Int) ≤ (a0.Calls.drop v3.toNat).length then
   Z9u K v3 a0 a1 ((a0.Calls.drop v3.toNat).drop (1 : Int).toNat)
  else none
 else
  Z9u K v3 a0 a1 (a0.Calls.drop v3.toNat)
def Zbz (K : Nat) (a0 : Ze) (a1 : Zk) (v3 : Int) : Option (Ze) :=
 if (0 : Int) ≤ v3 ∧ v3 ≤ (a0.Calls.length : Int) ∧ (a0.Calls.length : Int) ≤ a0.Calls.length then
  if (decide (((a0.Calls.drop v3.toNat).length : Int) > 0)) = true then
   if (0 : Int) ≤ 0 ∧ (0 : Int) < (a0.Calls.drop v3.toNat).length then
    if (((a0.Calls.drop v3.toNat).getD (0 : Int).toNat Za).Caller == a1.Caller) = true then
     if (0 : Int) ≤ 0 ∧ (0 : Int) < (a0.Calls.drop v3.toNat).length then
      Z7o K a0 v3 a1 (((a0.Calls.drop v3.toNat).getD (0 : Int).toNat Za).Callee == a1.Callee)
     else none
    else
     Z7o K a0 v3 a1 false
   else none
  else
   Z7o K a0 v3 a1 false
 else none
def Za0 (K : Nat) (a0 : Ze) (a1 : Zk) (c5 : Int → Option (Ze)) : Nat → Int → Option (Ze)
 | 0, _ => none
 | k2 + 1, v1 =>
  if (decide (v1 < (a0.Calls.length : Int))) = true then
   if (0 : Int) ≤ v1 ∧ v1 < a0.Calls.length then
    if (0 : Int) ≤ v1 ∧ v1 < a0.Calls.length then
     (F71 K (a0.Calls.getD v1.toNat Za).Caller (a0.Calls.getD v1.toNat Za).Callee a1.Caller a1.Callee).bind fun v22 =>
      if v22 = true then
       (Za0 K a0 a1 c5 k2) (IntKind.i64.wrap (v1 + 1))
      else
       c5 v1
    else none
   else none
  else
   c5 v1
def F55 (K : Nat) (a0 : Ze) (a1 : Zk) : Option (Ze) :=
 Za0 K a0 a1 (Zbz K a0 a1) K 0
theorem F55_ok (K : Nat) (a0 : Ze) (a1 : Zk) (r : Ze) (h : F55 K a0 a1 = some r) : ACall P 55 ⟨[(Zc a0), (Z6 a1)], [], (Zc r), [], []⟩ := by
 refine Z1q Tryz.func55 Tryz.results55 rfl Tryz.ntmps55 rfl rfl rfl ?_
 intro E Q hP hN hro hret
 obtain ⟨P', nt', w0, F0, p0, S0, β0, ro0⟩ := E
 simp only at hP hN
 subst hP hN
 dsimp only [argT]
 unfold F55 at h
 refine Zj <| Zd <| Z1 I (Z2o (v := (Zc a0)) (cs := (Zc a0).cells) I I I I I) I <| Z1 I (Z2o (v := (Z6 a1)) (cs := (Z6 a1).cells) I I I I I) I <| Z1 I (Z21 (cs := [(.sl 4 [] false), (.sl 5 [] false)]) I z44 I I I) I <| Zh <| Zi <| Zj ?_
 refine Zd <| Z1 I (Zm (v := (.int .i64 0)) I I) I <| Zh <| Zi <| Zj <| AWp.weaken (st' := ⟨[(2, (.ptr 2 0)), (3, (.ptr 3 0)), (4, (.ptr 4 0)), (5, (.int .i64 0))], [(2, (.box (Zc a0).cells)), (3, (.box (Z6 a1).cells)), (4, (.box [(.sl 4 [] false), (.sl 5 [] false)]))]⟩) ⟨rfl, rfl, rfl, rfl, trivial⟩ ⟨rfl, rfl, rfl, trivial⟩ ?_
 refine Z1o (V := Int) (X := Int) (lp := fun k v => Za0 K a0 a1 (Zbz K a0 a1) k v = some r) (sh := fun v => ⟨[(2, (.ptr 2 0)), (3, (.ptr 3 0)), (4, (.ptr 4 0)), (5, (.int .i64 v))], [(2, (.box (Zc a0).cells)), (3, (.box (Z6 a1).cells)), (4, (.box [(.sl 4 [] false), (.sl 5 [] false)]))]⟩) (x := fun v => Zbz K a0 a1 v = some r) (shx := fun v => ⟨[(2, (.ptr 2 0)), (3, (.ptr 3 0)), (4, (.ptr 4 0)), (5, (.int .i64 v))], [(2, (.box (Zc a0).cells)), (3, (.box (Z6 a1).cells)), (4, (.box [(.sl 4 [] false), (.sl 5 [] false)]))]⟩) (k := K) (v := 0) h ?_ ?_
 ·intro v h
  revert h
  revert v
  intro v3 h
  try dsimp only at h ⊢
  unfold Zbz at h
  refine Zi <| Zj <| Zd <| Z1 I (Zr (m := 2) (o := 0) I Z59 I I) I <| Z1 I (Zy (cs := (Zc a0).cells) (v := (.sl 5 (a0.Calls.map Z6) false)) I o42 I I I) I <| Z1 I (Zl (v := (.int .i64 v3)) I I) I ?_
  have ⟨hg6, h⟩ := Z14 h
  refine Z1 I (Z72 (l := a0.Calls) (enc := Z6) (kl := .i64) (lo := v3) I s42 I I hg6) I <| Z1 I (Zm (v := (.sl 5 ((a0.Calls.drop v3.toNat).map Z6) false)) I I) I <| Zh <| Zi <| Zj <| Zj ?_
  refine AWp.join (V := Bool) (lp := fun v => Z7o K a0 v3 a1 v = some r) (sh := fun v => ⟨[(2, (.ptr 2 0)), (3, (.ptr 3 0)), (4, (.ptr 4 0)), (5, (.int .i64 v3)), (6, (.sl 5 ((a0.Calls.drop v3.toNat).map Z6) false)), (57, (.bool v))], [(2, (.box (Zc a0).cells)), (3, (.box (Z6 a1).cells)), (4, (.box [(.sl 4 [] false), (.sl 5 [] false)]))]⟩) ?_ ?_
  ·intro v h
   revert h
   revert v
   intro v7 h
   try dsimp only at h ⊢
   unfold Z7o at h
   refine Zi ?_
   refine AWp.join (V := (List Zk)) (lp := fun v => Z9u K v3 a0 a1 v = some r) (sh := fun v => ⟨[(2, (.ptr 2 0)), (3, (.ptr 3 0)), (4, (.ptr 4 0)), (5, (.int .i64 v3)), (6, (.sl 5 (v.map Z6) false))], [(2, (.box (Zc a0).cells)), (3, (.box (Z6 a1).cells)), (4, (.box [(.sl 4 [] false), (.sl 5 [] false)]))]⟩) ?_ ?_
   ·intro v h
    revert h
    revert v
    intro v9 h
    try dsimp only at h ⊢
    unfold Z9u at h
    refine Zi <| Zj <| Z1r mixed <| Zb 0 I (Z1l (vs := []) (enc := Z6) (l := ([] : List Zk)) I el42 I I trivial I Z2n I I I I) <| Zb 1 I (Zr (m := 2) (o := 0) I Z59 I I) <| Zb 2 I (Zy (cs := (Zc a0).cells) (v := (.sl 5 (a0.Calls.map Z6) false)) I o42 I I I) <| Zb 3 I (Zl (v := (.int .i64 v3)) I I) ?_
    have ⟨hg11, h⟩ := Z14 h
    refine Zb 4 I (Z9k (l := a0.Calls) (enc := Z6) (kh := .i64) (hi := v3) I s42 I I hg11) ?_
    have ⟨hg12, h⟩ := Z14 h
    refine Zb 5 I (Z2t (m := 60) (enc := Z6) (l := ([] : List Zk)) (l' := (a0.Calls.take v3.toNat)) (src := (.sl 5 ((a0.Calls.take v3.toNat).map Z6) false)) (rd := []) I I el42 I u42 I I I ⟨rfl, rfl, rfl⟩ noReads Z2n hg12) <| Zb 6 I (Z1n (cs := (Z6 a1).cells) (vs := (Z6 a1).cells) I a88 I I I I) <| Zb 7 I (Z1l (vs := [(Z6 a1)]) (enc := Z6) (l := [a1]) I el42 I I ⟨rfl, trivial⟩ I Z2n I I I I) ?_
    have ⟨hg13, h⟩ := Z14 h
    refine Zb 8 I (Z2t (m := 60) (enc := Z6) (l := (a0.Calls.take v3.toNat)) (l' := [a1]) (src := (.vs 67)) (rd := [(67, (.vec 5 (List.map Z6 [a1])))]) I I el42 I u42 I I I I (oneRead I) Z2n hg13) <| Zb 9 I (Zl (v := (.sl 5 (v9.map Z6) false)) I I) ?_
    have ⟨hg14, h⟩ := Z14 h
    refine Zb 10 I (Z2t (m := 60) (enc := Z6) (l := ((a0.Calls.take v3.toNat) ++ [a1])) (l' := v9) (src := (.sl 5 (v9.map Z6) false)) (rd := []) I I el42 I u42 I I I ⟨rfl, rfl, rfl⟩ noReads Z2n hg14) <| Zb 11 I (Zr (m := 2) (o := 0) I Z59 I I) <| Zb 12 I (Z1b (cs := (Zc a0).cells) (vs := [(.vs 60)]) (ds := [(.sl 4 (a0.Services.map Z3) false), (.vs 60)]) (v := (.vs 60)) sz42 I I I I I I I I) <| Z1t (by kernel_rfl) I <| Zi <| Zj <| Zd <| Z1 I (Z1n (cs := [(.sl 4 (a0.Services.map Z3) false), (.vs 60)]) (vs := [(.sl 4 (a0.Services.map Z3) false), (.vs 60)]) I a44 I I I I) I ?_
    refine Z1 I (Z1b (cs := [(.sl 4 [] false), (.sl 5 [] false)]) (vs := [(.sl 4 (a0.Services.map Z3) false), (.vs 60)]) (ds := [(.sl 4 (a0.Services.map Z3) false), (.vs 60)]) (v := (.ag [(.sl 4 (a0.Services.map Z3) false), (.vs 60)])) sz44 I I I I I I I I) I <| Zh <| Zi <| Z1c <| At.ghost (st' := ⟨[(4, (.ptr 4 0))], [(4, (.box [(.sl 4 (a0.Services.map Z3) false), (.sl 5 ((((a0.Calls.take v3.toNat) ++ [a1]) ++ v9).map Z6) false)]))]⟩) (fun a w h => (Z1g ⟨[(4, (.ptr 4 0))], [(4, (.box [(.sl 4 (a0.Services.map Z3) false), (.sl 5 ((((a0.Calls.take v3.toNat) ++ [a1]) ++ v9).map Z6) false)]))]⟩ (Z2i (m := 60) (sz := 5) (es := (List.map Z6 (((a0.Calls.take v3.toNat) ++ [a1]) ++ v9))) a w (Z1g ⟨[(4, (.ptr 4 0))], [(60, (.vec 5 (List.map Z6 (((a0.Calls.take v3.toNat) ++ [a1]) ++ v9)))), (4, (.box [(.sl 4 (a0.Services.map Z3) false), (.vs 60)]))]⟩ h ⟨rfl, trivial⟩ ⟨rfl, rfl, trivial⟩)) ⟨rfl, trivial⟩ ⟨rfl, trivial⟩)) ?_
    have h := Option.some.inj h
    subst h
    refine (hret _ ?_).1
    exact ⟨[(.ag [(.sl 4 (a0.Services.map Z3) false), (.sl 5 ((((a0.Calls.take v3.toNat) ++ [a1]) ++ v9).map Z6) false)])], ⟨⟨4, _, rfl, rfl, .inr ⟨_, a44, rfl, rfl⟩⟩, trivial⟩, rfl, trivial⟩
   ·intro J10
    have hif := Z1w h
    refine Z16 I (fun hc => ?_) (fun hc => ?_)
    ·have h := hif.1 hc
     refine Zd <| Z1 I (Zl (v := (.sl 5 ((a0.Calls.drop v3.toNat).map Z6) false)) I I) I ?_
     have ⟨hg15, h⟩ := Z14 h
     refine Z1 I (Z72 (l := (a0.Calls.drop v3.toNat)) (enc := Z6) (kl := .i64) (lo := 1) I s42 I I hg15) I <| Z1 I (Zm (v := (.sl 5 (((a0.Calls.drop v3.toNat).drop (1 : Int).toNat).map Z6) false)) I I) I <| Zh ?_
     exact Z13 (st' := ⟨[(2, (.ptr 2 0)), (3, (.ptr 3 0)), (4, (.ptr 4 0)), (5, (.int .i64 v3)), (6, (.sl 5 (((a0.Calls.drop v3.toNat).drop (1 : Int).toNat).map Z6) false))], [(2, (.box (Zc a0).cells)), (3, (.box (Z6 a1).cells)), (4, (.box [(.sl 4 [] false), (.sl 5 [] false)]))]⟩) ⟨rfl, rfl, rfl, rfl, rfl, trivial⟩ ⟨rfl, rfl, rfl, trivial⟩ (J10 ((a0.Calls.drop v3.toNat).drop (1 : Int).toNat) h)
    ·have h := hif.2 hc
     refine Z1a ?_
     exact Z13 (st' := ⟨[(2, (.ptr 2 0)), (3, (.ptr 3 0)), (4, (.ptr 4 0)), (5, (.int .i64 v3)), (6, (.sl 5 ((a0.Calls.drop v3.toNat).map Z6) false))], [(2, (.box (Zc a0).cells)), (3, (.box (Z6 a1).cells)), (4, (.box [(.sl 4 [] false), (.sl 5 [] false)]))]⟩) ⟨rfl, rfl, rfl, rfl, rfl, trivial⟩ ⟨rfl, rfl, rfl, trivial⟩ (J10 (a0.Calls.drop v3.toNat) h)
  ·intro J8
   refine Z1r mixed <| Zb 0 I (Zl (v := (.sl 5 ((a0.Calls.drop v3.toNat).map Z6) false)) I I) <| Zb 1 I (Z2d (l := (a0.Calls.drop v3.toNat)) (enc := Z6) I s42 I) <| Zb 2 I (Z1x (k := .i64) (a := ((a0.Calls.drop v3.toNat).length : Int)) (b := 0) (c := (decide (((a0.Calls.drop v3.toNat).length : Int) > 0))) I I I I) <| Zb 3 I (Zl (v := (.bool (decide (((a0.Calls.drop v3.toNat).length : Int) > 0)))) I I) ?_
   have hif := Z1w h
   refine AOpsD.split (fun hc => ?_) (fun hc => ?_)
   ·have h := hif.1 hc
    refine Z12 4 I I I I (Zl (v := (.sl 5 ((a0.Calls.drop v3.toNat).map Z6) false)) I I) ?_
    have ⟨hg16, h⟩ := Z14 h
    refine Z12 5 I I I I (Z1s (k := .i64) (l := (a0.Calls.drop v3.toNat)) (enc := Z6) (z := Za) (n := 0) (cs := (Z6 ((a0.Calls.drop v3.toNat).getD (0 : Int).toNat Za)).cells) (full := false) I s42 I I hg16 I) <| Z12 6 I I I I (Z2f (cs := (Z6 ((a0.Calls.drop v3.toNat).getD (0 : Int).toNat Za)).cells) (ds := (Z6 ((a0.Calls.drop v3.toNat).getD (0 : Int).toNat Za)).cells) I Z95 I I I) <| Z12 7 I I I I (Z28 (cs := (Z6 ((a0.Calls.drop v3.toNat).getD (0 : Int).toNat Za)).cells) (v := (.str ((a0.Calls.drop v3.toNat).getD (0 : Int).toNat Za).Caller)) I o9 I I) <| Z12 8 I I I I (Zr (m := 3) (o := 0) I Z95 I I) <| Z12 9 I I I I (Zy (cs := (Z6 a1).cells) (v := (.str a1.Caller)) I o9 I I I) <| Z12 10 I I I I (Z3d (a := ((a0.Calls.drop v3.toNat).getD (0 : Int).toNat Za).Caller) (b := a1.Caller) (c := (((a0.Calls.drop v3.toNat).getD (0 : Int).toNat Za).Caller == a1.Caller)) I I I I) <| Zb 11 I (Z23 (v := (.bool (((a0.Calls.drop v3.toNat).getD (0 : Int).toNat Za).Caller == a1.Caller))) I I I) <| Zb 12 I (Zl (v := (.bool (((a0.Calls.drop v3.toNat).getD (0 : Int).toNat Za).Caller == a1.Caller))) I I) ?_
    have hif := Z1w h
    refine AOpsD.split (fun hc => ?_) (fun hc => ?_)
    ·have h := hif.1 hc
     refine Z12 13 I I I I (Zl (v := (.sl 5 ((a0.Calls.drop v3.toNat).map Z6) false)) I I) ?_
     have ⟨hg17, h⟩ := Z14 h
     refine Z12 14 I I I I (Z1s (k := .i64) (l := (a0.Calls.drop v3.toNat)) (enc := Z6) (z := Za) (n := 0) (cs := (Z6 ((a0.Calls.drop v3.toNat).getD (0 : Int).toNat Za)).cells) (full := false) I s42 I I hg17 I) <| Z12 15 I I I I (Z2f (cs := (Z6 ((a0.Calls.drop v3.toNat).getD (0 : Int).toNat Za)).cells) (ds := [(.str ((a0.Calls.drop v3.toNat).getD (0 : Int).toNat Za).Callee), (.int .i64 ((a0.Calls.drop v3.toNat).getD (0 : Int).toNat Za).Count), (.int .i64 ((a0.Calls.drop v3.toNat).getD (0 : Int).toNat Za).Errors), (.int .i64 ((a0.Calls.drop v3.toNat).getD (0 : Int).toNat Za).Time)]) I Z93 I I I) <| Z12 16 I I I I (Z28 (cs := [(.str ((a0.Calls.drop v3.toNat).getD (0 : Int).toNat Za).Callee), (.int .i64 ((a0.Calls.drop v3.toNat).getD (0 : Int).toNat Za).Count), (.int .i64 ((a0.Calls.drop v3.toNat).getD (0 : Int).toNat Za).Errors), (.int .i64 ((a0.Calls.drop v3.toNat).getD (0 : Int).toNat Za).Time)]) (v := (.str ((a0.Calls.drop v3.toNat).getD (0 : Int).toNat Za).Callee)) I o9 I I) <| Z12 17 I I I I (Zr (m := 3) (o := 0) I Z93 I I) <| Z12 18 I I I I (Zy (cs := (Z6 a1).cells) (v := (.str a1.Callee)) I o9 I I I) <| Z12 19 I I I I (Z3d (a := ((a0.Calls.drop v3.toNat).getD (0 : Int).toNat Za).Callee) (b := a1.Callee) (c := (((a0.Calls.drop v3.toNat).getD (0 : Int).toNat Za).Callee == a1.Callee)) I I I I) <| Zb 20 I (Z23 (v := (.bool (((a0.Calls.drop v3.toNat).getD (0 : Int).toNat Za).Callee == a1.Callee))) I I I) <| Z1t (by kernel_rfl) I ?_
     exact Z13 (st' := ⟨[(2, (.ptr 2 0)), (3, (.ptr 3 0)), (4, (.ptr 4 0)), (5, (.int .i64 v3)), (6, (.sl 5 ((a0.Calls.drop v3.toNat).map Z6) false)), (57, (.bool (((a0.Calls.drop v3.toNat).getD (0 : Int).toNat Za).Callee == a1.Callee)))], [(2, (.box (Zc a0).cells)), (3, (.box (Z6 a1).cells)), (4, (.box [(.sl 4 [] false), (.sl 5 [] false)]))]⟩) ⟨rfl, rfl, rfl, rfl, rfl, rfl, trivial⟩ ⟨rfl, rfl, rfl, trivial⟩ (J8 (((a0.Calls.drop v3.toNat).getD (0 : Int).toNat Za).Callee == a1.Callee) h)
    ·have h := hif.2 hc
     refine Zx 13 I I I I I I I <| Zx 14 I I I I I I I <| Zx 15 I I I I I I I <| Zx 16 I I I I I I I <| Zx 17 I I I I I I I <| Zx 18 I I I I I I I <| Zx 19 I I I I I I I <| Zb 20 I (Z20 (v := (.bool false)) I I I) ?_
     refine Z1t (by kernel_rfl) I ?_
     exact Z13 (st' := ⟨[(2, (.ptr 2 0)), (3, (.ptr 3 0)), (4, (.ptr 4 0)), (5, (.int .i64 v3)), (6, (.sl 5 ((a0.Calls.drop v3.toNat).map Z6) false)), (57, (.bool false))], [(2, (.box (Zc a0).cells)), (3, (.box (Z6 a1).cells)), (4, (.box [(.sl 4 [] false), (.sl 5 [] false)]))]⟩) ⟨rfl, rfl, rfl, rfl, rfl, rfl, trivial⟩ ⟨rfl, rfl, rfl, trivial⟩ (J8 false h)
   ·have h := hif.2 hc
    refine Zx 4 I I I I I I I <| Zx 5 I I I I I I I <| Zx 6 I I I I I I I <| Zx 7 I I I I I I I <| Zx 8 I I I I I I I <| Zx 9 I I I I I I I <| Zx 10 I I I I I I I <| Zb 11 I (Z20 (v := (.bool false)) I I I) ?_
    refine Zb 12 I (Zl (v := (.bool false)) I I) <| Zx 13 I I I I I I I <| Zx 14 I I I I I I I <| Zx 15 I I I I I I I <| Zx 16 I I I I I I I <| Zx 17 I I I I I I I <| Zx 18 I I I I I I I <| Zx 19 I I I I I I I ?_
    refine Zb 20 I (Z20 (v := (.bool false)) I I I) <| Z1t (by kernel_rfl) I ?_
    exact Z13 (st' := ⟨[(2, (.ptr 2 0)), (3, (.ptr 3 0)), (4, (.ptr 4 0)), (5, (.int .i64 v3)), (6, (.sl 5 ((a0.Calls.drop v3.toNat).map Z6) false)), (57, (.bool false))], [(2, (.box (Zc a0).cells)), (3, (.box (Z6 a1).cells)), (4, (.box [(.sl 4 [] false), (.sl 5 [] false)]))]⟩) ⟨rfl, rfl, rfl, rfl, rfl, rfl, trivial⟩ ⟨rfl, rfl, rfl, trivial⟩ (J8 false h)
 ·intro N k2 v h IH2 J2
  revert h
  revert v
  intro v1 h
  try dsimp only at h IH2 J2 ⊢
  cases k2 with
  | zero => cases h
  | succ k2 =>
   rw [Za0] at h
   refine Zj <| Zj <| Z1r mixed <| Zb 0 I (Zl (v := (.int .i64 v1)) I I) <| Zb 1 I (Zr (m := 2) (o := 0) I Z59 I I) <| Zb 2 I (Zy (cs := (Zc a0).cells) (v := (.sl 5 (a0.Calls.map Z6) false)) I o42 I I I) <| Zb 3 I (Z2d (l := a0.Calls) (enc := Z6) I s42 I) <| Zb 4 I (Z1x (k := .i64) (a := v1) (b := (a0.Calls.length : Int)) (c := (decide (v1 < (a0.Calls.length : Int)))) I I I I) ?_
   refine Zb 5 I (Zl (v := (.bool (decide (v1 < (a0.Calls.length : Int))))) I I) ?_
   have hif := Z1w h
   refine AOpsD.split (fun hc => ?_) (fun hc => ?_)
   ·have h := hif.1 hc
    refine Z12 6 I I I I (Zr (m := 2) (o := 0) I Z59 I I) <| Z12 7 I I I I (Zy (cs := (Zc a0).cells) (v := (.sl 5 (a0.Calls.map Z6) false)) I o42 I I I) <| Z12 8 I I I I (Zl (v := (.int .i64 v1)) I I) ?_
    have ⟨hg19, h⟩ := Z14 h
    refine Z12 9 I I I I (Z1s (k := .i64) (l := a0.Calls) (enc := Z6) (z := Za) (n := v1) (cs := (Z6 (a0.Calls.getD v1.toNat Za)).cells) (full := false) I s42 I I hg19 I) <| Z12 10 I I I I (Z2f (cs := (Z6 (a0.Calls.getD v1.toNat Za)).cells) (ds := (Z6 (a0.Calls.getD v1.toNat Za)).cells) I Z95 I I I) <| Z12 11 I I I I (Z28 (cs := (Z6 (a0.Calls.getD v1.toNat Za)).cells) (v := (.str (a0.Calls.getD v1.toNat Za).Caller)) I o9 I I) <| Z12 12 I I I I (Zr (m := 2) (o := 0) I Z59 I I) <| Z12 13 I I I I (Zy (cs := (Zc a0).cells) (v := (.sl 5 (a0.Calls.map Z6) false)) I o42 I I I) <| Z12 14 I I I I (Zl (v := (.int .i64 v1)) I I) ?_
    have ⟨hg20, h⟩ := Z14 h
    refine Z12 15 I I I I (Z1s (k := .i64) (l := a0.Calls) (enc := Z6) (z := Za) (n := v1) (cs := (Z6 (a0.Calls.getD v1.toNat Za)).cells) (full := false) I s42 I I hg20 I) <| Z12 16 I I I I (Z2f (cs := (Z6 (a0.Calls.getD v1.toNat Za)).cells) (ds := [(.str (a0.Calls.getD v1.toNat Za).Callee), (.int .i64 (a0.Calls.getD v1.toNat Za).Count), (.int .i64 (a0.Calls.getD v1.toNat Za).Errors), (.int .i64 (a0.Calls.getD v1.toNat Za).Time)]) I Z93 I I I) <| Z12 17 I I I I (Z28 (cs := [(.str (a0.Calls.getD v1.toNat Za).Callee), (.int .i64 (a0.Calls.getD v1.toNat Za).Count), (.int .i64 (a0.Calls.getD v1.toNat Za).Errors), (.int .i64 (a0.Calls.getD v1.toNat Za).Time)]) (v := (.str (a0.Calls.getD v1.toNat Za).Callee)) I o9 I I) <| Z12 18 I I I I (Zr (m := 3) (o := 0) I Z95 I I) <| Z12 19 I I I I (Zy (cs := (Z6 a1).cells) (v := (.str a1.Caller)) I o9 I I I) <| Z12 20 I I I I (Zr (m := 3) (o := 0) I Z93 I I) <| Z12 21 I I I I (Zy (cs := (Z6 a1).cells) (v := (.str a1.Callee)) I o9 I I I) ?_
    have ⟨v22, hv22, h⟩ := Z1d h
    refine Z12 22 I I I I (Z1e (ar := [(.str (a0.Calls.getD v1.toNat Za).Caller), (.str (a0.Calls.getD v1.toNat Za).Callee), (.str a1.Caller), (.str a1.Callee)]) (caps := []) Tryz.call71 (F71_ok K (a0.Calls.getD v1.toNat Za).Caller (a0.Calls.getD v1.toNat Za).Callee a1.Caller a1.Callee v22 hv22) I I ⟨rfl, rfl, rfl, rfl, trivial⟩ I) <| Zb 23 I (Z23 (v := (.bool v22)) I I I) <| Z1t (by kernel_rfl) I <| Zi ?_
    have hif := Z1w h
    refine Z16 I (fun hc => ?_) (fun hc => ?_)
    ·have h := hif.1 hc
     refine Z1a <| Zi <| AWp.block <| Zd <| Z1 I (Zl (v := (.int .i64 v1)) I I) I <| Z1 I (Z1k (k := .i64) (a := v1) (b := 1) (c := (IntKind.i64.wrap (v1 + 1))) I I I I) I <| Z1 I (Zm (v := (.int .i64 (IntKind.i64.wrap (v1 + 1)))) I I) I <| Zh ?_
     refine At.end ?_
     exact Z13 (st' := ⟨[(2, (.ptr 2 0)), (3, (.ptr 3 0)), (4, (.ptr 4 0)), (5, (.int .i64 (IntKind.i64.wrap (v1 + 1))))], [(2, (.box (Zc a0).cells)), (3, (.box (Z6 a1).cells)), (4, (.box [(.sl 4 [] false), (.sl 5 [] false)]))]⟩) ⟨rfl, rfl, rfl, rfl, trivial⟩ ⟨rfl, rfl, rfl, trivial⟩ (IH2 _ (IntKind.i64.wrap (v1 + 1)) (Nat.lt_succ_self _) h)
    ·have h := hif.2 hc
     refine AWp.exit <| At.thru ?_
     exact Z13 (st' := ⟨[(2, (.ptr 2 0)), (3, (.ptr 3 0)), (4, (.ptr 4 0)), (5, (.int .i64 v1))], [(2, (.box (Zc a0).cells)), (3, (.box (Z6 a1).cells)), (4, (.box [(.sl 4 [] false), (.sl 5 [] false)]))]⟩) ⟨rfl, rfl, rfl, rfl, trivial⟩ ⟨rfl, rfl, rfl, trivial⟩ (J2 v1 h)
   ·have h := hif.2 hc
    refine Zx 6 I I I I I I I <| Zx 7 I I I I I I I <| Zx 8 I I I I I I I <| Zx 9 I I I I I I I <| Zx 10 I I I I I I I <| Zx 11 I I I I I I I <| Zx 12 I I I I I I I <| Zx 13 I I I I I I I ?_
    refine Zx 14 I I I I I I I <| Zx 15 I I I I I I I <| Zx 16 I I I I I I I <| Zx 17 I I I I I I I <| Zx 18 I I I I I I I <| Zx 19 I I I I I I I <| Zx 20 I I I I I I I <| Zx 21 I I I I I I I ?_
    refine Zx 22 I I I I I I I <| Zb 23 I (Z20 (v := (.bool false)) I I I) <| Z1t (by kernel_rfl) I <| Zi ?_
    refine Z16 (b := false) I (fun hc => ?_) (fun hc => ?_)
    ·cases hc
    refine AWp.exit <| At.thru ?_
    exact Z13 (st' := ⟨[(2, (.ptr 2 0)), (3, (.ptr 3 0)), (4, (.ptr 4 0)), (5, (.int .i64 v1))], [(2, (.box (Zc a0).cells)), (3, (.box (Z6 a1).cells)), (4, (.box [(.sl 4 [] false), (.sl 5 [] false)]))]⟩) ⟨rfl, rfl, rfl, rfl, trivial⟩ ⟨rfl, rfl, rfl, trivial⟩ (J2 v1 h)
end Go.AM.TopZ
