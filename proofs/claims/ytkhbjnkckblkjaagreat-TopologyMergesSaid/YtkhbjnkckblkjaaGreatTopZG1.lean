/- What these functions compute, each with its walk: F17, F19, F11, F31, F53, F54, F71, F55. -/
import Derived.Test.YtkhbjnkckblkjaaGreatTopZT
import Derived.Test.YtkhbjnkckblkjaaGreatTopZG0
namespace Go.AM.TopZ
open Go Go.AM Go.Proofs
set_option maxRecDepth 100000
set_option maxHeartbeats 2000000
noncomputable def Z4u (K : Nat) (v10 : Bool) (v11 : (List (Str × Zc))) (v12 : (List (Zs × Zk))) : Option (Int × Ze) :=
 (F52 K v10 v11 v12).bind fun v16 =>
  some (v16.1, v16.2)
def Z9i (K : Nat) (b17 : Int → Bool → (List (Str × Zc)) → (List (Zs × Zk)) → Option (Int × Ze)) (v5 : Int) (v33 : Bool) (v34 : (List (Str × Zc))) (v35 : (List (Zs × Zk))) : Option (Int × Ze) :=
 b17 (IntKind.i64.wrap (v5 + 1)) v33 v34 v35
def F17_j42 (K : Nat) (b38 : Int → Bool → (List (Str × Zc)) → (List (Zs × Zk)) → Option (Int × Ze)) (v28 : Int) (v39 : Bool) (v40 : (List (Str × Zc))) (v41 : (List (Zs × Zk))) : Option (Int × Ze) :=
 b38 (IntKind.i64.wrap (v28 + 1)) v39 v40 v41
def F17_j52 (K : Nat) (b38 : Int → Bool → (List (Str × Zc)) → (List (Zs × Zk)) → Option (Int × Ze)) (v28 : Int) (v49 : Bool × (List (Str × Zc))) (v50 : Bool) (v51 : (List (Zs × Zk))) : Option (Int × Ze) :=
 F17_j42 K b38 v28 v50 v49.2 v51
def Z6y (K : Nat) (v21 : (List Zh)) (a0 : (List Zt)) (v5 : Int) (v25 : (List (Int × Zh))) (c37 : Bool → (List (Str × Zc)) → (List (Zs × Zk)) → Option (Int × Ze)) : Nat → Int → Bool → (List (Str × Zc)) → (List (Zs × Zk)) → Option (Int × Ze)
 | 0, _, _, _, _ => none
 | k32 + 1, v28, v29, v30, v31 =>
  if (decide (v28 < (v21.length : Int))) = true then
   if (0 : Int) ≤ v28 ∧ v28 < v21.length then
    (F49 K (v21.getD v28.toNat Z1).Error (a0.getD v5.toNat Z9).Weight).bind fun v45 =>
     (F49 K ((v21.getD v28.toNat Z1).Parent == 0) (a0.getD v5.toNat Z9).Weight).bind fun v47 =>
      (F48 K (⟨(v21.getD v28.toNat Z1).Service, (a0.getD v5.toNat Z9).Weight, v45, v47⟩ : Zc) v29 v30 v31).bind fun v49 =>
       if (mget Z2p (v21.getD v28.toNat Z1).Parent v25).isSome = true then
        if (!(((mget Z2p (v21.getD v28.toNat Z1).Parent v25).getD Z1).Service == (v21.getD v28.toNat Z1).Service)) = true then
         (F49 K (v21.getD v28.toNat Z1).Error (a0.getD v5.toNat Z9).Weight).bind fun v54 =>
          (F51 K (v21.getD v28.toNat Z1)).bind fun v56 =>
           (F50 K (⟨((mget Z2p (v21.getD v28.toNat Z1).Parent v25).getD Z1).Service, (v21.getD v28.toNat Z1).Service, (a0.getD v5.toNat Z9).Weight, v54, (IntKind.i64.wrap (v56 * (a0.getD v5.toNat Z9).Weight))⟩ : Zk) v49.1 v49.2 v31).bind fun v58 =>
            F17_j52 K (Z6y K v21 a0 v5 v25 c37 k32) v28 v49 v58.1 v58.2
        else
         F17_j52 K (Z6y K v21 a0 v5 v25 c37 k32) v28 v49 v49.1 v31
       else
        F17_j42 K (Z6y K v21 a0 v5 v25 c37 k32) v28 v49.1 v49.2 v31
   else none
  else
   c37 v29 v30 v31
def F17_c26 (K : Nat) (v21 : (List Zh)) (a0 : (List Zt)) (v5 : Int) (b17 : Int → Bool → (List (Str × Zc)) → (List (Zs × Zk)) → Option (Int × Ze)) (v6 : Bool) (v7 : (List (Str × Zc))) (v8 : (List (Zs × Zk))) (v25 : (List (Int × Zh))) : Option (Int × Ze) :=
 Z6y K v21 a0 v5 v25 (Z9i K b17 v5) K 0 v6 v7 v8
def F17_l24 (K : Nat) (v21 : (List Zh)) (c27 : (List (Int × Zh)) → Option (Int × Ze)) : Nat → Int → (List (Int × Zh)) → Option (Int × Ze)
 | 0, _, _ => none
 | k24 + 1, v22, v23 =>
  if (decide (v22 < (v21.length : Int))) = true then
   if (0 : Int) ≤ v22 ∧ v22 < v21.length then
    (F17_l24 K v21 c27 k24) (IntKind.i64.wrap (v22 + 1)) (mput Z2p (v21.getD v22.toNat Z1).Id (v21.getD v22.toNat Z1) v23)
   else none
  else
   c27 v23
def Z69 (K : Nat) (a0 : (List Zt)) (c14 : Bool → (List (Str × Zc)) → (List (Zs × Zk)) → Option (Int × Ze)) : Nat → Int → Bool → (List (Str × Zc)) → (List (Zs × Zk)) → Option (Int × Ze)
 | 0, _, _, _, _ => none
 | k9 + 1, v5, v6, v7, v8 =>
  if (decide (v5 < (a0.length : Int))) = true then
   if (0 : Int) ≤ v5 ∧ v5 < (a0.length : Nat) then
    if v5.toNat < a0.length then
     (F47 K (a0.getD v5.toNat Z9).Spans).bind fun v21 =>
      F17_l24 K v21 (F17_c26 K v21 a0 v5 (Z69 K a0 c14 k9) v6 v7 v8) K 0 ([] : List (Int × Zh))
    else none
   else none
  else
   c14 v6 v7 v8
noncomputable def F17 (K : Nat) (a0 : (List Zt)) : Option (Int × Ze) :=
 (F46 K).bind fun v4 =>
  Z69 K a0 (Z4u K) K 0 false ([] : List (Str × Zc)) ([] : List (Zs × Zk))
theorem F17_ok (K : Nat) (a0 : (List Zt)) (r : Int × Ze) (h : F17 K a0 = some r) : ACall P 17 ⟨[(.vs 2000)], [(2000, (.vec 3 (List.map Zb a0)))], (.tup [(Za r.2), (.int .i64 r.1)]), [(2000, (.vec 3 (List.map Zb a0)))], []⟩ := by
 refine Z1v Tryz.func17 Tryz.results17 rfl Tryz.ntmps17 rfl rfl rfl ?_
 intro E Q hP hN hro hret
 obtain ⟨P', nt', w0, F0, p0, S0, β0, ro0⟩ := E
 simp only at hP hN
 subst hP hN
 dsimp only [argT]
 unfold F17 at h
 refine Zl <| Zd <| Z2 I (Z1x (cs := [(.sl 4 [] false), (.sl 5 [] false)]) I z44 I I I) I <| Z2 I (Zq (v := (.int .i64 0)) I I) I <| Zi <| Zj <| Zl <| Zd ?_
 have ⟨v4, hv4, h⟩ := Z1c h
 refine Z2 I (Z31 (d := some 16) (c := ⟨[] ++ [], [], (.ptr 96 0), [(16, (.map (Z16 Z1r Z3 ([] : List (Str × Zc))))), (97, (.map (Z16 Zm Z6 ([] : List (Zs × Zk))))), (96, (.box [(.map 16), (.map 97), (.bool false)]))], [16, 97, 96]⟩) (ar := []) (caps := []) (news := [16, 97, 96]) (forg := []) Tryz.call46 ((((F46_ok K v4 hv4).sw 1 16).sw 2 97).sw 4 96) I I trivial I trivial I) I <| Z2 I (Zq (v := (.ptr 96 0)) I I) I <| Zi <| Zj <| Zl <| Zl <| Zd <| Z2 I (Zn (v := (.vs 2000)) I I) I ?_
 refine Z2 I (Z61 (l := a0) (enc := Zb) I u31 I I) I <| Z2 I (Zn (v := (.int .i64 0)) I I) I <| Zi <| Zj <| AWp.weaken (st' := ⟨[(2, (.ptr 2 0)), (4, (.ptr 96 0)), (17, (.vs 2000)), (18, (.int .i64 (a0.length : Int))), (19, (.int .i64 0))], [(2, (.box [(.sl 4 [] false), (.sl 5 [] false)])), (16, (.map (Z16 Z1r Z3 ([] : List (Str × Zc))))), (96, (.box [(.map 16), (.map 97), (.bool false)])), (97, (.map (Z16 Zm Z6 ([] : List (Zs × Zk))))), (2000, (.vec 3 (List.map Zb a0)))]⟩) ⟨rfl, rfl, rfl, rfl, rfl, trivial⟩ ⟨rfl, rfl, rfl, rfl, rfl, trivial⟩ ?_
 refine Z1l (V := Int × Bool × (List (Str × Zc)) × (List (Zs × Zk))) (X := Bool × (List (Str × Zc)) × (List (Zs × Zk))) (lp := fun k v => Z69 K a0 (Z4u K) k v.1 v.2.1 v.2.2.1 v.2.2.2 = some r) (sh := fun v => ⟨[(2, (.ptr 2 0)), (4, (.ptr 96 0)), (17, (.vs 2000)), (18, (.int .i64 (a0.length : Int))), (19, (.int .i64 v.1))], [(2, (.box [(.sl 4 [] false), (.sl 5 [] false)])), (16, (.map (Z16 Z1r Z3 v.2.2.1))), (96, (.box [(.map 16), (.map 97), (.bool v.2.1)])), (97, (.map (Z16 Zm Z6 v.2.2.2))), (2000, (.vec 3 (List.map Zb a0)))]⟩) (x := fun v => Z4u K v.1 v.2.1 v.2.2 = some r) (shx := fun v => ⟨[(2, (.ptr 2 0)), (4, (.ptr 96 0))], [(2, (.box [(.sl 4 [] false), (.sl 5 [] false)])), (16, (.map (Z16 Z1r Z3 v.2.1))), (96, (.box [(.map 16), (.map 97), (.bool v.1)])), (97, (.map (Z16 Zm Z6 v.2.2))), (2000, (.vec 3 (List.map Zb a0)))]⟩) (k := K) (v := (0, false, ([] : List (Str × Zc)), ([] : List (Zs × Zk)))) h ?_ ?_
 ·intro v h
  obtain ⟨v10, v11, v12⟩ := v
  try dsimp only at h ⊢
  unfold Z4u at h
  refine Zj <| Zl <| Zd <| Z2 I (Zn (v := (.ptr 96 0)) I I) I ?_
  have ⟨v16, hv16, h⟩ := Z1c h
  refine Z2 I (Z31 (d := some 95) (c := ⟨[(.ptr 96 0)] ++ [], [(96, (.box [(.map 16), (.map 97), (.bool v10)])), (16, (.map (Z16 Z1r Z3 v11))), (97, (.map (Z16 Zm Z6 v12)))], (.tup [(Za v16.2), (.int .i64 v16.1)]), [(96, (.box [(.map 16), (.map 97), (.bool v10)])), (16, (.fmap (Z16 Z1r Z3 v11))), (97, (.fmap (Z16 Zm Z6 v12)))], [16, 97]⟩) (ar := [(.ptr 96 0)]) (caps := []) (news := []) (forg := [16, 97]) Tryz.call52 ((((F52_ok K v10 v11 v12 v16 hv16).sw 2000 96).sw 59 16).sw 57 97) I I ⟨rfl, trivial⟩ I ⟨rfl, rfl, rfl, trivial⟩ I) I <| Z2 I (Z2b (vs := [(Za v16.2), (.int .i64 v16.1)]) (v := (Za v16.2)) I I I) I <| Z2 I (Z2b (vs := [(Za v16.2), (.int .i64 v16.1)]) (v := (.int .i64 v16.1)) I I I) I <| Z2 I (Z1a (cs := [(.sl 4 [] false), (.sl 5 [] false)]) (vs := (Za v16.2).cells) (ds := (Za v16.2).cells) (v := (Za v16.2)) sz44 I I I I I I I I) I <| Z2 I (Zq (v := (.int .i64 v16.1)) I I) I <| Zi <| Zj <| Z1g ?_
  have h := Option.some.inj h
  subst h
  refine (hret _ ?_).1
  exact ⟨[(Za v16.2), (.int .i64 v16.1)], ⟨⟨2, _, rfl, rfl, .inr ⟨_, a44, rfl, rfl⟩⟩, rfl, trivial⟩, rfl, ⟨rfl, trivial⟩⟩
 ·intro N k9 v h IH9 J9
  obtain ⟨v5, v6, v7, v8⟩ := v
  try dsimp only at h IH9 J9 ⊢
  cases k9 with
  | zero => cases h
  | succ k9 =>
   rw [Z69] at h
   refine Zl <| Zd <| Z2 I (Z1y (k := .i64) (a := v5) (b := (a0.length : Int)) (c := (decide (v5 < (a0.length : Int)))) I I I I) I <| Zi <| Zj <| Zl ?_
   have hif := Z21 h
   refine Z18 I (fun hc => ?_) (fun hc => ?_)
   ·have h := hif.1 hc
    refine Z1b <| Zj <| Zl <| AWp.block <| Zl <| Zd ?_
    have ⟨hg18, h⟩ := Z14 h
    refine Z2 I (Z2v (k := .i64) (v := (.vs 2000)) (n := 2000) (off := 0) (len := a0.length) (es := (List.map Zb a0)) (j := v5) (m := v5.toNat) I s31 I I (Z2x _ _ _) I hg18 (Nat.zero_add _)) I ?_
    have ⟨hg19, h⟩ := Z14 h
    refine Z2 I (Z3y (l := a0) (enc := Zb) (z := Z9) (vs := (Zb (a0.getD v5.toNat Z9)).cells) I a39 I I hg19 I I) I <| Z2 I (Z1x (cs := [(.int .i64 0), (.int .i64 0), (.sl 14 [] false)]) I z39 I I I) I <| Z2 I (Z1a (cs := [(.int .i64 0), (.int .i64 0), (.sl 14 [] false)]) (vs := (Zb (a0.getD v5.toNat Z9)).cells) (ds := (Zb (a0.getD v5.toNat Z9)).cells) (v := (Zb (a0.getD v5.toNat Z9))) sz39 I I I I I I I I) I <| Zi <| Zj <| Zl <| Zd <| Z2 I (Zu (m := 6) (o := 0) I f39_2 I I) I ?_
    refine Z2 I (Zz (cs := (Zb (a0.getD v5.toNat Z9)).cells) (v := (.sl 14 ((a0.getD v5.toNat Z9).Spans.map Z5) false)) I o37 I I I) I ?_
    have ⟨v21, hv21, h⟩ := Z1c h
    refine Z2 I (Z1e (ar := [(.sl 14 ((a0.getD v5.toNat Z9).Spans.map Z5) false)]) (caps := []) Tryz.call47 (F47_ok K (a0.getD v5.toNat Z9).Spans v21 hv21) I I ⟨rfl, trivial⟩ I) I <| Z2 I (Zq (v := (.sl 14 (v21.map Z5) false)) I I) I <| Zi <| Zj <| Zl <| Zd <| Z2 I (Z78 I) I <| Z2 I (Zq (v := (.map 26)) I I) I ?_
    refine Zi <| Zj <| Zl <| Zl <| Zd <| Z2 I (Zn (v := (.sl 14 (v21.map Z5) false)) I I) I <| Z2 I (Z23 (l := v21) (enc := Z5) I s37 I) I <| Z2 I (Zn (v := (.int .i64 0)) I I) I ?_
    refine Zi <| Zj <| AWp.weaken (st' := ⟨[(2, (.ptr 2 0)), (4, (.ptr 96 0)), (6, (.ptr 6 0)), (7, (.sl 14 (v21.map Z5) false)), (8, (.map 26)), (17, (.vs 2000)), (18, (.int .i64 (a0.length : Int))), (19, (.int .i64 v5)), (27, (.sl 14 (v21.map Z5) false)), (28, (.int .i64 (v21.length : Int))), (29, (.int .i64 0))], [(2, (.box [(.sl 4 [] false), (.sl 5 [] false)])), (6, (.box (Zb (a0.getD v5.toNat Z9)).cells)), (16, (.map (Z16 Z1r Z3 v7))), (26, (.map (Z16 Z1f Z5 ([] : List (Int × Zh))))), (96, (.box [(.map 16), (.map 97), (.bool v6)])), (97, (.map (Z16 Zm Z6 v8))), (2000, (.vec 3 (List.map Zb a0)))]⟩) ⟨rfl, rfl, rfl, rfl, rfl, rfl, rfl, rfl, rfl, rfl, rfl, trivial⟩ ⟨rfl, rfl, rfl, rfl, rfl, rfl, rfl, trivial⟩ ?_
    refine Z1l (V := Int × (List (Int × Zh))) (X := (List (Int × Zh))) (lp := fun k v => F17_l24 K v21 (F17_c26 K v21 a0 v5 (Z69 K a0 (Z4u K) k9) v6 v7 v8) k v.1 v.2 = some r) (sh := fun v => ⟨[(2, (.ptr 2 0)), (4, (.ptr 96 0)), (6, (.ptr 6 0)), (7, (.sl 14 (v21.map Z5) false)), (8, (.map 26)), (17, (.vs 2000)), (18, (.int .i64 (a0.length : Int))), (19, (.int .i64 v5)), (27, (.sl 14 (v21.map Z5) false)), (28, (.int .i64 (v21.length : Int))), (29, (.int .i64 v.1))], [(2, (.box [(.sl 4 [] false), (.sl 5 [] false)])), (6, (.box (Zb (a0.getD v5.toNat Z9)).cells)), (16, (.map (Z16 Z1r Z3 v7))), (26, (.map (Z16 Z1f Z5 v.2))), (96, (.box [(.map 16), (.map 97), (.bool v6)])), (97, (.map (Z16 Zm Z6 v8))), (2000, (.vec 3 (List.map Zb a0)))]⟩) (x := fun v => F17_c26 K v21 a0 v5 (Z69 K a0 (Z4u K) k9) v6 v7 v8 v = some r) (shx := fun v => ⟨[(2, (.ptr 2 0)), (4, (.ptr 96 0)), (6, (.ptr 6 0)), (7, (.sl 14 (v21.map Z5) false)), (8, (.map 26)), (17, (.vs 2000)), (18, (.int .i64 (a0.length : Int))), (19, (.int .i64 v5))], [(2, (.box [(.sl 4 [] false), (.sl 5 [] false)])), (6, (.box (Zb (a0.getD v5.toNat Z9)).cells)), (16, (.map (Z16 Z1r Z3 v7))), (26, (.map (Z16 Z1f Z5 v))), (96, (.box [(.map 16), (.map 97), (.bool v6)])), (97, (.map (Z16 Zm Z6 v8))), (2000, (.vec 3 (List.map Zb a0)))]⟩) (k := K) (v := (0, ([] : List (Int × Zh)))) h ?_ ?_
    ·intro v h
     revert h
     revert v
     intro v25 h
     try dsimp only at h ⊢
     unfold F17_c26 at h
     refine Zj <| Zl <| Zd <| Z2 I (Zu (m := 6) (o := 0) I f39_1 I I) I <| Z2 I (Zz (cs := (Zb (a0.getD v5.toNat Z9)).cells) (v := (.int .i64 (a0.getD v5.toNat Z9).Weight)) I o3 I I I) I <| Z2 I (Zq (v := (.int .i64 (a0.getD v5.toNat Z9).Weight)) I I) I <| Zi <| Zj ?_
     refine Zl <| Zd <| Z2 I (Zn (v := (.sl 14 (v21.map Z5) false)) I I) I <| Z2 I (Z23 (l := v21) (enc := Z5) I s37 I) I <| Z2 I (Zn (v := (.int .i64 0)) I I) I <| Zi <| Zj <| AWp.weaken (st' := ⟨[(2, (.ptr 2 0)), (4, (.ptr 96 0)), (8, (.map 26)), (11, (.int .i64 (a0.getD v5.toNat Z9).Weight)), (17, (.vs 2000)), (18, (.int .i64 (a0.length : Int))), (19, (.int .i64 v5)), (40, (.sl 14 (v21.map Z5) false)), (41, (.int .i64 (v21.length : Int))), (42, (.int .i64 0))], [(2, (.box [(.sl 4 [] false), (.sl 5 [] false)])), (16, (.map (Z16 Z1r Z3 v7))), (26, (.map (Z16 Z1f Z5 v25))), (96, (.box [(.map 16), (.map 97), (.bool v6)])), (97, (.map (Z16 Zm Z6 v8))), (2000, (.vec 3 (List.map Zb a0)))]⟩) ⟨rfl, rfl, rfl, rfl, rfl, rfl, rfl, rfl, rfl, rfl, trivial⟩ ⟨rfl, rfl, rfl, rfl, rfl, rfl, trivial⟩ ?_
     refine Z1l (V := Int × Bool × (List (Str × Zc)) × (List (Zs × Zk))) (X := Bool × (List (Str × Zc)) × (List (Zs × Zk))) (lp := fun k v => Z6y K v21 a0 v5 v25 (Z9i K (Z69 K a0 (Z4u K) k9) v5) k v.1 v.2.1 v.2.2.1 v.2.2.2 = some r) (sh := fun v => ⟨[(2, (.ptr 2 0)), (4, (.ptr 96 0)), (8, (.map 26)), (11, (.int .i64 (a0.getD v5.toNat Z9).Weight)), (17, (.vs 2000)), (18, (.int .i64 (a0.length : Int))), (19, (.int .i64 v5)), (40, (.sl 14 (v21.map Z5) false)), (41, (.int .i64 (v21.length : Int))), (42, (.int .i64 v.1))], [(2, (.box [(.sl 4 [] false), (.sl 5 [] false)])), (16, (.map (Z16 Z1r Z3 v.2.2.1))), (26, (.map (Z16 Z1f Z5 v25))), (96, (.box [(.map 16), (.map 97), (.bool v.2.1)])), (97, (.map (Z16 Zm Z6 v.2.2.2))), (2000, (.vec 3 (List.map Zb a0)))]⟩) (x := fun v => Z9i K (Z69 K a0 (Z4u K) k9) v5 v.1 v.2.1 v.2.2 = some r) (shx := fun v => ⟨[(2, (.ptr 2 0)), (4, (.ptr 96 0)), (17, (.vs 2000)), (18, (.int .i64 (a0.length : Int))), (19, (.int .i64 v5))], [(2, (.box [(.sl 4 [] false), (.sl 5 [] false)])), (16, (.map (Z16 Z1r Z3 v.2.1))), (96, (.box [(.map 16), (.map 97), (.bool v.1)])), (97, (.map (Z16 Zm Z6 v.2.2))), (2000, (.vec 3 (List.map Zb a0)))]⟩) (k := K) (v := (0, v6, v7, v8)) h ?_ ?_
     ·intro v h
      obtain ⟨v33, v34, v35⟩ := v
      try dsimp only at h ⊢
      unfold Z9i at h
      refine At.end <| Zj <| Zd <| Z2 I (Z1m (k := .i64) (a := v5) (b := 1) (c := (IntKind.i64.wrap (v5 + 1))) I I I I) I <| Z2 I (Zn (v := (.int .i64 (IntKind.i64.wrap (v5 + 1)))) I I) I <| Zi ?_
      exact Z11 (st' := ⟨[(2, (.ptr 2 0)), (4, (.ptr 96 0)), (17, (.vs 2000)), (18, (.int .i64 (a0.length : Int))), (19, (.int .i64 (IntKind.i64.wrap (v5 + 1))))], [(2, (.box [(.sl 4 [] false), (.sl 5 [] false)])), (16, (.map (Z16 Z1r Z3 v34))), (96, (.box [(.map 16), (.map 97), (.bool v33)])), (97, (.map (Z16 Zm Z6 v35))), (2000, (.vec 3 (List.map Zb a0)))]⟩) ⟨rfl, rfl, rfl, rfl, rfl, trivial⟩ ⟨rfl, rfl, rfl, rfl, rfl, trivial⟩ (IH9 _ ((IntKind.i64.wrap (v5 + 1)), v33, v34, v35) (Nat.lt_succ_self _) h)
     ·intro N k32 v h IH32 J32
      obtain ⟨v28, v29, v30, v31⟩ := v
      try dsimp only at h IH32 J32 ⊢
      cases k32 with
      | zero => cases h
      | succ k32 =>
       rw [Z6y] at h
       refine Zl <| Zd <| Z2 I (Z1y (k := .i64) (a := v28) (b := (v21.length : Int)) (c := (decide (v28 < (v21.length : Int)))) I I I I) I <| Zi <| Zj <| Zl ?_
       have hif := Z21 h
       refine Z18 I (fun hc => ?_) (fun hc => ?_)
       ·have h := hif.1 hc
        refine Z1b <| Zj <| Zl ?_
        refine AWp.blockJoin (V := Bool × (List (Str × Zc)) × (List (Zs × Zk))) (lp := fun v => F17_j42 K (Z6y K v21 a0 v5 v25 (Z9i K (Z69 K a0 (Z4u K) k9) v5) k32) v28 v.1 v.2.1 v.2.2 = some r) (sh := fun v => ⟨[(2, (.ptr 2 0)), (4, (.ptr 96 0)), (8, (.map 26)), (11, (.int .i64 (a0.getD v5.toNat Z9).Weight)), (17, (.vs 2000)), (18, (.int .i64 (a0.length : Int))), (19, (.int .i64 v5)), (40, (.sl 14 (v21.map Z5) false)), (41, (.int .i64 (v21.length : Int))), (42, (.int .i64 v28))], [(2, (.box [(.sl 4 [] false), (.sl 5 [] false)])), (16, (.map (Z16 Z1r Z3 v.2.1))), (26, (.map (Z16 Z1f Z5 v25))), (96, (.box [(.map 16), (.map 97), (.bool v.1)])), (97, (.map (Z16 Zm Z6 v.2.2))), (2000, (.vec 3 (List.map Zb a0)))]⟩) ?_ ?_
        ·intro v h
         obtain ⟨v39, v40, v41⟩ := v
         try dsimp only at h ⊢
         unfold F17_j42 at h
         refine Zj <| Zd <| Z2 I (Z1m (k := .i64) (a := v28) (b := 1) (c := (IntKind.i64.wrap (v28 + 1))) I I I I) I <| Z2 I (Zn (v := (.int .i64 (IntKind.i64.wrap (v28 + 1)))) I I) I <| Zi ?_
         exact Z11 (st' := ⟨[(2, (.ptr 2 0)), (4, (.ptr 96 0)), (8, (.map 26)), (11, (.int .i64 (a0.getD v5.toNat Z9).Weight)), (17, (.vs 2000)), (18, (.int .i64 (a0.length : Int))), (19, (.int .i64 v5)), (40, (.sl 14 (v21.map Z5) false)), (41, (.int .i64 (v21.length : Int))), (42, (.int .i64 (IntKind.i64.wrap (v28 + 1))))], [(2, (.box [(.sl 4 [] false), (.sl 5 [] false)])), (16, (.map (Z16 Z1r Z3 v40))), (26, (.map (Z16 Z1f Z5 v25))), (96, (.box [(.map 16), (.map 97), (.bool v39)])), (97, (.map (Z16 Zm Z6 v41))), (2000, (.vec 3 (List.map Zb a0)))]⟩) ⟨rfl, rfl, rfl, rfl, rfl, rfl, rfl, rfl, rfl, rfl, trivial⟩ ⟨rfl, rfl, rfl, rfl, rfl, rfl, trivial⟩ (IH32 _ ((IntKind.i64.wrap (v28 + 1)), v39, v40, v41) (Nat.lt_succ_self _) h)
        ·intro J42
         refine Zl <| Zd ?_
         have ⟨hg43, h⟩ := Z14 h
         refine Z2 I (Z1s (k := .i64) (l := v21) (enc := Z5) (z := Z1) (n := v28) (cs := (Z5 (v21.getD v28.toNat Z1)).cells) (full := false) I s37 I I hg43 I) I <| Z2 I (Z2i (cs := (Z5 (v21.getD v28.toNat Z1)).cells) (vs := (Z5 (v21.getD v28.toNat Z1)).cells) I a56 I I I) I <| Z2 I (Z1x (cs := [(.int .i64 0), (.int .i64 0), (.int .i64 0), (.int .i64 0), (.int .i64 0), (.int .i64 0), (.str []), (.str []), (.str []), (.int .i64 0), (.int .i64 0), (.bool false), (.sl 4 [] false), (.sl 2 [] false)]) I z56 I I I) I <| Z2 I (Z1a (cs := [(.int .i64 0), (.int .i64 0), (.int .i64 0), (.int .i64 0), (.int .i64 0), (.int .i64 0), (.str []), (.str []), (.str []), (.int .i64 0), (.int .i64 0), (.bool false), (.sl 4 [] false), (.sl 2 [] false)]) (vs := (Z5 (v21.getD v28.toNat Z1)).cells) (ds := (Z5 (v21.getD v28.toNat Z1)).cells) (v := (Z5 (v21.getD v28.toNat Z1))) sz56 I I I I I I I I) I <| Zi <| Zj <| Zl <| Z1u mixed ?_
         refine Z8 0 I (Zn (v := (.ptr 96 0)) I I) <| Z8 1 I (Zu (m := 13) (o := 0) I Z67 I I) <| Z8 2 I (Zz (cs := (Z5 (v21.getD v28.toNat Z1)).cells) (v := (.str (v21.getD v28.toNat Z1).Service)) I o9 I I I) <| Z8 3 I (Zn (v := (.int .i64 (a0.getD v5.toNat Z9).Weight)) I I) <| Z8 4 I (Zu (m := 13) (o := 0) I Z9x I I) <| Z8 5 I (Zz (cs := (Z5 (v21.getD v28.toNat Z1)).cells) (v := (.bool (v21.getD v28.toNat Z1).Error)) I o4 I I I) <| Z8 6 I (Zn (v := (.int .i64 (a0.getD v5.toNat Z9).Weight)) I I) ?_
         have ⟨v45, hv45, h⟩ := Z1c h
         refine Z8 7 I (Z1e (ar := [(.bool (v21.getD v28.toNat Z1).Error), (.int .i64 (a0.getD v5.toNat Z9).Weight)]) (caps := []) Tryz.call49 (Zdo K (v21.getD v28.toNat Z1).Error (a0.getD v5.toNat Z9).Weight v45 hv45) I I ⟨rfl, rfl, trivial⟩ I) <| Z8 8 I (Zu (m := 13) (o := 0) I Zci I I) <| Z8 9 I (Zz (cs := (Z5 (v21.getD v28.toNat Z1)).cells) (v := (.int .i64 (v21.getD v28.toNat Z1).Parent)) I o3 I I I) <| Z8 10 I (Z1y (k := .i64) (a := (v21.getD v28.toNat Z1).Parent) (b := 0) (c := ((v21.getD v28.toNat Z1).Parent == 0)) I I I I) <| Z8 11 I (Zn (v := (.int .i64 (a0.getD v5.toNat Z9).Weight)) I I) ?_
         have ⟨v47, hv47, h⟩ := Z1c h
         refine Z8 12 I (Z1e (ar := [(.bool ((v21.getD v28.toNat Z1).Parent == 0)), (.int .i64 (a0.getD v5.toNat Z9).Weight)]) (caps := []) Tryz.call49 (Zdo K ((v21.getD v28.toNat Z1).Parent == 0) (a0.getD v5.toNat Z9).Weight v47 hv47) I I ⟨rfl, rfl, trivial⟩ I) <| Z8 13 I (Z29 (vs := [(0, (.str (v21.getD v28.toNat Z1).Service)), (1, (.int .i64 (a0.getD v5.toNat Z9).Weight)), (2, (.int .i64 v45)), (3, (.int .i64 v47))]) (cs := [(.str (v21.getD v28.toNat Z1).Service), (.int .i64 (a0.getD v5.toNat Z9).Weight), (.int .i64 v45), (.int .i64 v47)]) I st68 ⟨rfl, rfl, rfl, rfl, rfl, rfl, rfl, rfl, trivial⟩ I) ?_
         have ⟨v49, hv49, h⟩ := Z1c h
         refine Z8 14 I (Z31 (d := some 60) (c := ⟨[(.ptr 96 0), (.ag [(.str (v21.getD v28.toNat Z1).Service), (.int .i64 (a0.getD v5.toNat Z9).Weight), (.int .i64 v45), (.int .i64 v47)])] ++ [], [(96, (.box [(.map 16), (.map 97), (.bool v29)])), (16, (.map (Z16 Z1r Z3 v30))), (97, (.map (Z16 Zm Z6 v31)))], (.tup []), [(96, (.box [(.map 16), (.map 97), (.bool v49.1)])), (16, (.map (Z16 Z1r Z3 v49.2))), (97, (.map (Z16 Zm Z6 v31)))], []⟩) (ar := [(.ptr 96 0), (.ag [(.str (v21.getD v28.toNat Z1).Service), (.int .i64 (a0.getD v5.toNat Z9).Weight), (.int .i64 v45), (.int .i64 v47)])]) (caps := []) (news := []) (forg := []) Tryz.call48 ((((F48_ok K (⟨(v21.getD v28.toNat Z1).Service, (a0.getD v5.toNat Z9).Weight, v45, v47⟩ : Zc) v29 v30 v31 v49 hv49).sw 2000 96).sw 2001 16).sw 2002 97) I I ⟨rfl, rfl, trivial⟩ I ⟨rfl, rfl, rfl, trivial⟩ I) <| Z1q (by kernel_rfl) I <| Zj <| Zl <| Zd <| Z2 I (Zn (v := (.map 26)) I I) I <| Z2 I (Zu (m := 13) (o := 0) I Zci I I) I <| Z2 I (Zz (cs := (Z5 (v21.getD v28.toNat Z1)).cells) (v := (.int .i64 (v21.getD v28.toNat Z1).Parent)) I o3 I I I) I ?_
         refine Z2 I (Za3 (l := v25) (a := (v21.getD v28.toNat Z1).Parent) (kv := (.int .i64 (v21.getD v28.toNat Z1).Parent)) I mt110 I I (.inl I) I I) I <| Z2 I (Zn (v := (.tup [(Z5 ((mget Z2p (v21.getD v28.toNat Z1).Parent v25).getD Z1)), (.bool (mget Z2p (v21.getD v28.toNat Z1).Parent v25).isSome)])) I I) I <| Z2 I (Z2b (vs := [(Z5 ((mget Z2p (v21.getD v28.toNat Z1).Parent v25).getD Z1)), (.bool (mget Z2p (v21.getD v28.toNat Z1).Parent v25).isSome)]) (v := (Z5 ((mget Z2p (v21.getD v28.toNat Z1).Parent v25).getD Z1))) I I I) I <| Z2 I (Z2b (vs := [(Z5 ((mget Z2p (v21.getD v28.toNat Z1).Parent v25).getD Z1)), (.bool (mget Z2p (v21.getD v28.toNat Z1).Parent v25).isSome)]) (v := (.bool (mget Z2p (v21.getD v28.toNat Z1).Parent v25).isSome)) I I I) I <| Z2 I (Z1x (cs := [(.int .i64 0), (.int .i64 0), (.int .i64 0), (.int .i64 0), (.int .i64 0), (.int .i64 0), (.str []), (.str []), (.str []), (.int .i64 0), (.int .i64 0), (.bool false), (.sl 4 [] false), (.sl 2 [] false)]) I z56 I I I) I <| Z2 I (Z1a (cs := [(.int .i64 0), (.int .i64 0), (.int .i64 0), (.int .i64 0), (.int .i64 0), (.int .i64 0), (.str []), (.str []), (.str []), (.int .i64 0), (.int .i64 0), (.bool false), (.sl 4 [] false), (.sl 2 [] false)]) (vs := (Z5 ((mget Z2p (v21.getD v28.toNat Z1).Parent v25).getD Z1)).cells) (ds := (Z5 ((mget Z2p (v21.getD v28.toNat Z1).Parent v25).getD Z1)).cells) (v := (Z5 ((mget Z2p (v21.getD v28.toNat Z1).Parent v25).getD Z1))) sz56 I I I I I I I I) I <| Z2 I (Zq (v := (.bool (mget Z2p (v21.getD v28.toNat Z1).Parent v25).isSome)) I I) I <| Zi ?_
         refine Zj <| Zl <| Zd <| Z2 I (Zn (v := (.bool (mget Z2p (v21.getD v28.toNat Z1).Parent v25).isSome)) I I) I <| Z2 I (Zn (v := (.bool (mget Z2p (v21.getD v28.toNat Z1).Parent v25).isSome)) I I) I ?_
         have hif := Z21 h
         refine AOps.split (fun hc => ?_) (fun hc => ?_)
         ·have h := hif.1 hc
          refine Z17 I I I I (Zu (m := 14) (o := 0) I Z67 I I) I <| Z17 I I I I (Zz (cs := (Z5 ((mget Z2p (v21.getD v28.toNat Z1).Parent v25).getD Z1)).cells) (v := (.str ((mget Z2p (v21.getD v28.toNat Z1).Parent v25).getD Z1).Service)) I o9 I I I) I <| Z17 I I I I (Zu (m := 13) (o := 0) I Z67 I I) I <| Z17 I I I I (Zz (cs := (Z5 (v21.getD v28.toNat Z1)).cells) (v := (.str (v21.getD v28.toNat Z1).Service)) I o9 I I I) I <| Z17 I I I I (Z3n (a := ((mget Z2p (v21.getD v28.toNat Z1).Parent v25).getD Z1).Service) (b := (v21.getD v28.toNat Z1).Service) (c := (!(((mget Z2p (v21.getD v28.toNat Z1).Parent v25).getD Z1).Service == (v21.getD v28.toNat Z1).Service))) I I I I) I <| Z2 I (Z2f (v := (.bool (!(((mget Z2p (v21.getD v28.toNat Z1).Parent v25).getD Z1).Service == (v21.getD v28.toNat Z1).Service)))) I I I) I <| Zi <| Zj ?_
          refine AWp.join (V := Bool × (List (Zs × Zk))) (lp := fun v => F17_j52 K (Z6y K v21 a0 v5 v25 (Z9i K (Z69 K a0 (Z4u K) k9) v5) k32) v28 v49 v.1 v.2 = some r) (sh := fun v => ⟨[(2, (.ptr 2 0)), (4, (.ptr 96 0)), (8, (.map 26)), (11, (.int .i64 (a0.getD v5.toNat Z9).Weight)), (17, (.vs 2000)), (18, (.int .i64 (a0.length : Int))), (19, (.int .i64 v5)), (40, (.sl 14 (v21.map Z5) false)), (41, (.int .i64 (v21.length : Int))), (42, (.int .i64 v28))], [(2, (.box [(.sl 4 [] false), (.sl 5 [] false)])), (16, (.map (Z16 Z1r Z3 v49.2))), (26, (.map (Z16 Z1f Z5 v25))), (96, (.box [(.map 16), (.map 97), (.bool v.1)])), (97, (.map (Z16 Zm Z6 v.2))), (2000, (.vec 3 (List.map Zb a0)))]⟩) ?_ ?_
          ·intro v h
           obtain ⟨v50, v51⟩ := v
           try dsimp only at h ⊢
           unfold F17_j52 at h
           refine At.end ?_
           exact Z11 (st' := ⟨[(2, (.ptr 2 0)), (4, (.ptr 96 0)), (8, (.map 26)), (11, (.int .i64 (a0.getD v5.toNat Z9).Weight)), (17, (.vs 2000)), (18, (.int .i64 (a0.length : Int))), (19, (.int .i64 v5)), (40, (.sl 14 (v21.map Z5) false)), (41, (.int .i64 (v21.length : Int))), (42, (.int .i64 v28))], [(2, (.box [(.sl 4 [] false), (.sl 5 [] false)])), (16, (.map (Z16 Z1r Z3 v49.2))), (26, (.map (Z16 Z1f Z5 v25))), (96, (.box [(.map 16), (.map 97), (.bool v50)])), (97, (.map (Z16 Zm Z6 v51))), (2000, (.vec 3 (List.map Zb a0)))]⟩) ⟨rfl, rfl, rfl, rfl, rfl, rfl, rfl, rfl, rfl, rfl, trivial⟩ ⟨rfl, rfl, rfl, rfl, rfl, rfl, trivial⟩ (J42 (v50, v49.2, v51) h)
          ·intro J52
           have hif := Z21 h
           refine Z18 I (fun hc => ?_) (fun hc => ?_)
           ·have h := hif.1 hc
            refine Z1u mixed <| Z8 0 I (Zn (v := (.ptr 96 0)) I I) <| Z8 1 I (Zu (m := 14) (o := 0) I Z67 I I) <| Z8 2 I (Zz (cs := (Z5 ((mget Z2p (v21.getD v28.toNat Z1).Parent v25).getD Z1)).cells) (v := (.str ((mget Z2p (v21.getD v28.toNat Z1).Parent v25).getD Z1).Service)) I o9 I I I) <| Z8 3 I (Zu (m := 13) (o := 0) I Z67 I I) <| Z8 4 I (Zz (cs := (Z5 (v21.getD v28.toNat Z1)).cells) (v := (.str (v21.getD v28.toNat Z1).Service)) I o9 I I I) <| Z8 5 I (Zn (v := (.int .i64 (a0.getD v5.toNat Z9).Weight)) I I) <| Z8 6 I (Zu (m := 13) (o := 0) I Z9x I I) ?_
            refine Z8 7 I (Zz (cs := (Z5 (v21.getD v28.toNat Z1)).cells) (v := (.bool (v21.getD v28.toNat Z1).Error)) I o4 I I I) <| Z8 8 I (Zn (v := (.int .i64 (a0.getD v5.toNat Z9).Weight)) I I) ?_
            have ⟨v54, hv54, h⟩ := Z1c h
            refine Z8 9 I (Z1e (ar := [(.bool (v21.getD v28.toNat Z1).Error), (.int .i64 (a0.getD v5.toNat Z9).Weight)]) (caps := []) Tryz.call49 (Zdo K (v21.getD v28.toNat Z1).Error (a0.getD v5.toNat Z9).Weight v54 hv54) I I ⟨rfl, rfl, trivial⟩ I) <| Z8 10 I (Z1k (cs := (Z5 (v21.getD v28.toNat Z1)).cells) (vs := (Z5 (v21.getD v28.toNat Z1)).cells) I a56 I I I I) ?_
            have ⟨v56, hv56, h⟩ := Z1c h
            refine Z8 11 I (Z1e (ar := [(Z5 (v21.getD v28.toNat Z1))]) (caps := []) Tryz.call51 (F51_ok K (v21.getD v28.toNat Z1) v56 hv56) I I ⟨rfl, trivial⟩ I) <| Z8 12 I (Zn (v := (.int .i64 (a0.getD v5.toNat Z9).Weight)) I I) <| Z8 13 I (Z1m (k := .i64) (a := v56) (b := (a0.getD v5.toNat Z9).Weight) (c := (IntKind.i64.wrap (v56 * (a0.getD v5.toNat Z9).Weight))) I I I I) <| Z8 14 I (Z29 (vs := [(0, (.str ((mget Z2p (v21.getD v28.toNat Z1).Parent v25).getD Z1).Service)), (1, (.str (v21.getD v28.toNat Z1).Service)), (2, (.int .i64 (a0.getD v5.toNat Z9).Weight)), (3, (.int .i64 v54)), (4, (.int .i64 (IntKind.i64.wrap (v56 * (a0.getD v5.toNat Z9).Weight))))]) (cs := [(.str ((mget Z2p (v21.getD v28.toNat Z1).Parent v25).getD Z1).Service), (.str (v21.getD v28.toNat Z1).Service), (.int .i64 (a0.getD v5.toNat Z9).Weight), (.int .i64 v54), (.int .i64 (IntKind.i64.wrap (v56 * (a0.getD v5.toNat Z9).Weight)))]) I st88 ⟨rfl, rfl, rfl, rfl, rfl, rfl, rfl, rfl, rfl, rfl, trivial⟩ I) ?_
            have ⟨v58, hv58, h⟩ := Z1c h
            refine Z8 15 I (Z31 (d := some 91) (c := ⟨[(.ptr 96 0), (.ag [(.str ((mget Z2p (v21.getD v28.toNat Z1).Parent v25).getD Z1).Service), (.str (v21.getD v28.toNat Z1).Service), (.int .i64 (a0.getD v5.toNat Z9).Weight), (.int .i64 v54), (.int .i64 (IntKind.i64.wrap (v56 * (a0.getD v5.toNat Z9).Weight)))])] ++ [], [(96, (.box [(.map 16), (.map 97), (.bool v49.1)])), (16, (.map (Z16 Z1r Z3 v49.2))), (97, (.map (Z16 Zm Z6 v31)))], (.tup []), [(96, (.box [(.map 16), (.map 97), (.bool v58.1)])), (16, (.map (Z16 Z1r Z3 v49.2))), (97, (.map (Z16 Zm Z6 v58.2)))], []⟩) (ar := [(.ptr 96 0), (.ag [(.str ((mget Z2p (v21.getD v28.toNat Z1).Parent v25).getD Z1).Service), (.str (v21.getD v28.toNat Z1).Service), (.int .i64 (a0.getD v5.toNat Z9).Weight), (.int .i64 v54), (.int .i64 (IntKind.i64.wrap (v56 * (a0.getD v5.toNat Z9).Weight)))])]) (caps := []) (news := []) (forg := []) Tryz.call50 ((((F50_ok K (⟨((mget Z2p (v21.getD v28.toNat Z1).Parent v25).getD Z1).Service, (v21.getD v28.toNat Z1).Service, (a0.getD v5.toNat Z9).Weight, v54, (IntKind.i64.wrap (v56 * (a0.getD v5.toNat Z9).Weight))⟩ : Zk) v49.1 v49.2 v31 v58 hv58).sw 2000 96).sw 2001 16).sw 2002 97) I I ⟨rfl, rfl, trivial⟩ I ⟨rfl, rfl, rfl, trivial⟩ I) <| Z1q (by kernel_rfl) I ?_
            exact Z11 (st' := ⟨[(2, (.ptr 2 0)), (4, (.ptr 96 0)), (8, (.map 26)), (11, (.int .i64 (a0.getD v5.toNat Z9).Weight)), (17, (.vs 2000)), (18, (.int .i64 (a0.length : Int))), (19, (.int .i64 v5)), (40, (.sl 14 (v21.map Z5) false)), (41, (.int .i64 (v21.length : Int))), (42, (.int .i64 v28))], [(2, (.box [(.sl 4 [] false), (.sl 5 [] false)])), (16, (.map (Z16 Z1r Z3 v49.2))), (26, (.map (Z16 Z1f Z5 v25))), (96, (.box [(.map 16), (.map 97), (.bool v58.1)])), (97, (.map (Z16 Zm Z6 v58.2))), (2000, (.vec 3 (List.map Zb a0)))]⟩) ⟨rfl, rfl, rfl, rfl, rfl, rfl, rfl, rfl, rfl, rfl, trivial⟩ ⟨rfl, rfl, rfl, rfl, rfl, rfl, trivial⟩ (J52 (v58.1, v58.2) h)
           ·have h := hif.2 hc
            refine Z1b ?_
            exact Z11 (st' := ⟨[(2, (.ptr 2 0)), (4, (.ptr 96 0)), (8, (.map 26)), (11, (.int .i64 (a0.getD v5.toNat Z9).Weight)), (17, (.vs 2000)), (18, (.int .i64 (a0.length : Int))), (19, (.int .i64 v5)), (40, (.sl 14 (v21.map Z5) false)), (41, (.int .i64 (v21.length : Int))), (42, (.int .i64 v28))], [(2, (.box [(.sl 4 [] false), (.sl 5 [] false)])), (16, (.map (Z16 Z1r Z3 v49.2))), (26, (.map (Z16 Z1f Z5 v25))), (96, (.box [(.map 16), (.map 97), (.bool v49.1)])), (97, (.map (Z16 Zm Z6 v31))), (2000, (.vec 3 (List.map Zb a0)))]⟩) ⟨rfl, rfl, rfl, rfl, rfl, rfl, rfl, rfl, rfl, rfl, trivial⟩ ⟨rfl, rfl, rfl, rfl, rfl, rfl, trivial⟩ (J52 (v49.1, v31) h)
         ·have h := hif.2 hc
          refine Z13 I I I I I I I <| Z13 I I I I I I I <| Z13 I I I I I I I <| Z13 I I I I I I I <| Z13 I I I I I I I <| Z2 I (Z20 (v := (.bool false)) I I I) I <| Zi <| Zj ?_
          refine Z18 (b := false) I (fun hc => ?_) (fun hc => ?_)
          ·cases hc
          refine Z1b <| At.end ?_
          exact Z11 (st' := ⟨[(2, (.ptr 2 0)), (4, (.ptr 96 0)), (8, (.map 26)), (11, (.int .i64 (a0.getD v5.toNat Z9).Weight)), (17, (.vs 2000)), (18, (.int .i64 (a0.length : Int))), (19, (.int .i64 v5)), (40, (.sl 14 (v21.map Z5) false)), (41, (.int .i64 (v21.length : Int))), (42, (.int .i64 v28))], [(2, (.box [(.sl 4 [] false), (.sl 5 [] false)])), (16, (.map (Z16 Z1r Z3 v49.2))), (26, (.map (Z16 Z1f Z5 v25))), (96, (.box [(.map 16), (.map 97), (.bool v49.1)])), (97, (.map (Z16 Zm Z6 v31))), (2000, (.vec 3 (List.map Zb a0)))]⟩) ⟨rfl, rfl, rfl, rfl, rfl, rfl, rfl, rfl, rfl, rfl, trivial⟩ ⟨rfl, rfl, rfl, rfl, rfl, rfl, trivial⟩ (J42 (v49.1, v49.2, v31) h)
       ·have h := hif.2 hc
        refine AWp.exit <| At.thru ?_
        exact Z11 (st' := ⟨[(2, (.ptr 2 0)), (4, (.ptr 96 0)), (17, (.vs 2000)), (18, (.int .i64 (a0.length : Int))), (19, (.int .i64 v5))], [(2, (.box [(.sl 4 [] false), (.sl 5 [] false)])), (16, (.map (Z16 Z1r Z3 v30))), (96, (.box [(.map 16), (.map 97), (.bool v29)])), (97, (.map (Z16 Zm Z6 v31))), (2000, (.vec 3 (List.map Zb a0)))]⟩) ⟨rfl, rfl, rfl, rfl, rfl, trivial⟩ ⟨rfl, rfl, rfl, rfl, rfl, trivial⟩ (J32 (v29, v30, v31) h)
    ·intro N k24 v h IH24 J24
     obtain ⟨v22, v23⟩ := v
     try dsimp only at h IH24 J24 ⊢
     cases k24 with
     | zero => cases h
     | succ k24 =>
      rw [F17_l24] at h
      refine Zl <| Zd <| Z2 I (Z1y (k := .i64) (a := v22) (b := (v21.length : Int)) (c := (decide (v22 < (v21.length : Int)))) I I I I) I <| Zi <| Zj <| Zl ?_
      have hif := Z21 h
      refine Z18 I (fun hc => ?_) (fun hc => ?_)
      ·have h := hif.1 hc
       refine Z1b <| Zj <| Zl <| AWp.block <| Zl <| Zd ?_
       have ⟨hg60, h⟩ := Z14 h
       refine Z2 I (Z1s (k := .i64) (l := v21) (enc := Z5) (z := Z1) (n := v22) (cs := (Z5 (v21.getD v22.toNat Z1)).cells) (full := false) I s37 I I hg60 I) I <| Z2 I (Z2i (cs := (Z5 (v21.getD v22.toNat Z1)).cells) (vs := (Z5 (v21.getD v22.toNat Z1)).cells) I a56 I I I) I <| Z2 I (Z1x (cs := [(.int .i64 0), (.int .i64 0), (.int .i64 0), (.int .i64 0), (.int .i64 0), (.int .i64 0), (.str []), (.str []), (.str []), (.int .i64 0), (.int .i64 0), (.bool false), (.sl 4 [] false), (.sl 2 [] false)]) I z56 I I I) I <| Z2 I (Z1a (cs := [(.int .i64 0), (.int .i64 0), (.int .i64 0), (.int .i64 0), (.int .i64 0), (.int .i64 0), (.str []), (.str []), (.str []), (.int .i64 0), (.int .i64 0), (.bool false), (.sl 4 [] false), (.sl 2 [] false)]) (vs := (Z5 (v21.getD v22.toNat Z1)).cells) (ds := (Z5 (v21.getD v22.toNat Z1)).cells) (v := (Z5 (v21.getD v22.toNat Z1))) sz56 I I I I I I I I) I <| Zi <| Zj <| Zd <| Z2 I (Zn (v := (.map 26)) I I) I ?_
       refine Z2 I (Zu (m := 10) (o := 0) I f56_1 I I) I <| Z2 I (Zz (cs := (Z5 (v21.getD v22.toNat Z1)).cells) (v := (.int .i64 (v21.getD v22.toNat Z1).Id)) I o3 I I I) I <| Z2 I (Z1k (cs := (Z5 (v21.getD v22.toNat Z1)).cells) (vs := (Z5 (v21.getD v22.toNat Z1)).cells) I a56 I I I I) I <| Z2 I (Z54 (l := v23) (a := (v21.getD v22.toNat Z1).Id) (b := (v21.getD v22.toNat Z1)) (kv := (.int .i64 (v21.getD v22.toNat Z1).Id)) (vv := (Z5 (v21.getD v22.toNat Z1))) mt110 I I I I I I) I <| Zi <| At.end <| Zj <| Zd ?_
       refine Z2 I (Z1m (k := .i64) (a := v22) (b := 1) (c := (IntKind.i64.wrap (v22 + 1))) I I I I) I <| Z2 I (Zn (v := (.int .i64 (IntKind.i64.wrap (v22 + 1)))) I I) I <| Zi ?_
       exact Z11 (st' := ⟨[(2, (.ptr 2 0)), (4, (.ptr 96 0)), (6, (.ptr 6 0)), (7, (.sl 14 (v21.map Z5) false)), (8, (.map 26)), (17, (.vs 2000)), (18, (.int .i64 (a0.length : Int))), (19, (.int .i64 v5)), (27, (.sl 14 (v21.map Z5) false)), (28, (.int .i64 (v21.length : Int))), (29, (.int .i64 (IntKind.i64.wrap (v22 + 1))))], [(2, (.box [(.sl 4 [] false), (.sl 5 [] false)])), (6, (.box (Zb (a0.getD v5.toNat Z9)).cells)), (16, (.map (Z16 Z1r Z3 v7))), (26, (.map (Z16 Z1f Z5 (mput Z2p (v21.getD v22.toNat Z1).Id (v21.getD v22.toNat Z1) v23)))), (96, (.box [(.map 16), (.map 97), (.bool v6)])), (97, (.map (Z16 Zm Z6 v8))), (2000, (.vec 3 (List.map Zb a0)))]⟩) ⟨rfl, rfl, rfl, rfl, rfl, rfl, rfl, rfl, rfl, rfl, rfl, trivial⟩ ⟨rfl, rfl, rfl, rfl, rfl, rfl, rfl, trivial⟩ (IH24 _ ((IntKind.i64.wrap (v22 + 1)), (mput Z2p (v21.getD v22.toNat Z1).Id (v21.getD v22.toNat Z1) v23)) (Nat.lt_succ_self _) h)
      ·have h := hif.2 hc
       refine AWp.exit <| At.thru ?_
       exact Z11 (st' := ⟨[(2, (.ptr 2 0)), (4, (.ptr 96 0)), (6, (.ptr 6 0)), (7, (.sl 14 (v21.map Z5) false)), (8, (.map 26)), (17, (.vs 2000)), (18, (.int .i64 (a0.length : Int))), (19, (.int .i64 v5))], [(2, (.box [(.sl 4 [] false), (.sl 5 [] false)])), (6, (.box (Zb (a0.getD v5.toNat Z9)).cells)), (16, (.map (Z16 Z1r Z3 v7))), (26, (.map (Z16 Z1f Z5 v23))), (96, (.box [(.map 16), (.map 97), (.bool v6)])), (97, (.map (Z16 Zm Z6 v8))), (2000, (.vec 3 (List.map Zb a0)))]⟩) ⟨rfl, rfl, rfl, rfl, rfl, rfl, rfl, rfl, trivial⟩ ⟨rfl, rfl, rfl, rfl, rfl, rfl, rfl, trivial⟩ (J24 v23 h)
   ·have h := hif.2 hc
    refine AWp.exit <| At.thru ?_
    exact Z11 (st' := ⟨[(2, (.ptr 2 0)), (4, (.ptr 96 0))], [(2, (.box [(.sl 4 [] false), (.sl 5 [] false)])), (16, (.map (Z16 Z1r Z3 v7))), (96, (.box [(.map 16), (.map 97), (.bool v6)])), (97, (.map (Z16 Zm Z6 v8))), (2000, (.vec 3 (List.map Zb a0)))]⟩) ⟨rfl, rfl, trivial⟩ ⟨rfl, rfl, rfl, rfl, rfl, trivial⟩ (J9 (v6, v7, v8) h)
def Zcy (K : Nat) : Option (Bool) :=
 some true
def Zao (K : Nat) (a0 : Ze) (a1 : Ze) (c8 : Option (Bool)) : Nat → Int → Option (Bool)
 | 0, _ => none
 | k6 + 1, v5 =>
  if (decide (v5 < (a0.Calls.length : Int))) = true then
   if (0 : Int) ≤ v5 ∧ v5 < a0.Calls.length then
    if (0 : Int) ≤ v5 ∧ v5 < a1.Calls.length then
     if (!(((a0.Calls.getD v5.toNat Zf).Caller == (a1.Calls.getD v5.toNat Zf).Caller) && (((a0.Calls.getD v5.toNat Zf).Callee == (a1.Calls.getD v5.toNat Zf).Callee) && (((a0.Calls.getD v5.toNat Zf).Count == (a1.Calls.getD v5.toNat Zf).Count) && (((a0.Calls.getD v5.toNat Zf).Errors == (a1.Calls.getD v5.toNat Zf).Errors) && (((a0.Calls.getD v5.toNat Zf).Time == (a1.Calls.getD v5.toNat Zf).Time) && true)))))) = true then
      some false
     else
      (Zao K a0 a1 c8 k6) (IntKind.i64.wrap (v5 + 1))
    else none
   else none
  else
   c8
def Zdm (K : Nat) (a0 : Ze) (a1 : Ze) : Option (Bool) :=
 Zao K a0 a1 (Zcy K) K 0
def Zbs (K : Nat) (a0 : Ze) (a1 : Ze) (c4 : Option (Bool)) : Nat → Int → Option (Bool)
 | 0, _ => none
 | k2 + 1, v1 =>
  if (decide (v1 < (a0.Services.length : Int))) = true then
   if (0 : Int) ≤ v1 ∧ v1 < a0.Services.length then
    if (0 : Int) ≤ v1 ∧ v1 < a1.Services.length then
     if (!(((a0.Services.getD v1.toNat Zg).Name == (a1.Services.getD v1.toNat Zg).Name) && (((a0.Services.getD v1.toNat Zg).Spans == (a1.Services.getD v1.toNat Zg).Spans) && (((a0.Services.getD v1.toNat Zg).Errors == (a1.Services.getD v1.toNat Zg).Errors) && (((a0.Services.getD v1.toNat Zg).Roots == (a1.Services.getD v1.toNat Zg).Roots) && true))))) = true then
      some false
     else
      (Zbs K a0 a1 c4 k2) (IntKind.i64.wrap (v1 + 1))
    else none
   else none
  else
   c4
def F19 (K : Nat) (a0 : Ze) (a1 : Ze) : Option (Bool) :=
 if ((a0.Services.length : Int) != (a1.Services.length : Int)) = true then
  some false
 else
  if ((a0.Calls.length : Int) != (a1.Calls.length : Int)) = true then
   some false
  else
   Zbs K a0 a1 (Zdm K a0 a1) K 0
theorem F19_ok (K : Nat) (a0 : Ze) (a1 : Ze) (r : Bool) (h : F19 K a0 a1 = some r) : ACall P 19 ⟨[(Za a0), (Za a1)], [], (.bool r), [], []⟩ := by
 refine Z1v Tryz.func19 Tryz.results19 rfl Tryz.ntmps19 rfl rfl rfl ?_
 intro E Q hP hN hro hret
 obtain ⟨P', nt', w0, F0, p0, S0, β0, ro0⟩ := E
 simp only at hP hN
 subst hP hN
 dsimp only [argT]
 unfold F19 at h
 refine Zl <| Zd <| Z2 I (Z2s (v := (Za a0)) (cs := (Za a0).cells) I I I I I) I <| Z2 I (Z2s (v := (Za a1)) (cs := (Za a1).cells) I I I I I) I <| Z2 I (Zq (v := (.bool false)) I I) I <| Zi <| Zj <| Zl ?_
 refine Zl <| Zd <| Z2 I (Zu (m := 2) (o := 0) I Z5v I I) I <| Z2 I (Zz (cs := (Za a0).cells) (v := (.sl 4 (a0.Services.map Z3) false)) I o41 I I I) I <| Z2 I (Z23 (l := a0.Services) (enc := Z3) I s41 I) I <| Z2 I (Zu (m := 3) (o := 0) I Z5v I I) I <| Z2 I (Zz (cs := (Za a1).cells) (v := (.sl 4 (a1.Services.map Z3) false)) I o41 I I I) I <| Z2 I (Z23 (l := a1.Services) (enc := Z3) I s41 I) I ?_
 refine Z2 I (Z1y (k := .i64) (a := (a0.Services.length : Int)) (b := (a1.Services.length : Int)) (c := ((a0.Services.length : Int) != (a1.Services.length : Int))) I I I I) I <| Z2 I (Zn (v := (.bool ((a0.Services.length : Int) != (a1.Services.length : Int)))) I I) I ?_
 have hif := Z21 h
 refine AOps.split (fun hc => ?_) (fun hc => ?_)
 ·have h := hif.1 hc
  refine Z13 I I I I I I I <| Z13 I I I I I I I <| Z13 I I I I I I I <| Z13 I I I I I I I <| Z13 I I I I I I I <| Z13 I I I I I I I <| Z13 I I I I I I I <| Z2 I (Z2f (v := (.bool true)) I I I) I ?_
  refine Zi <| Zj ?_
  refine Z18 (b := true) I (fun hc => ?_) (fun hc => ?_)
  rotate_left
  ·cases hc
  refine Zl <| Zd <| Z2 I (Zq (v := (.bool false)) I I) I <| Zi <| Zj <| Z1g <| Z1o ?_
  have h := Option.some.inj h
  subst h
  refine (hret _ ?_).1
  exact ⟨[(.bool false)], ⟨rfl, trivial⟩, rfl, trivial⟩
 ·have h := hif.2 hc
  refine Z17 I I I I (Zu (m := 2) (o := 0) I Z5r I I) I <| Z17 I I I I (Zz (cs := (Za a0).cells) (v := (.sl 5 (a0.Calls.map Z6) false)) I o42 I I I) I <| Z17 I I I I (Z23 (l := a0.Calls) (enc := Z6) I s42 I) I <| Z17 I I I I (Zu (m := 3) (o := 0) I Z5r I I) I <| Z17 I I I I (Zz (cs := (Za a1).cells) (v := (.sl 5 (a1.Calls.map Z6) false)) I o42 I I I) I <| Z17 I I I I (Z23 (l := a1.Calls) (enc := Z6) I s42 I) I <| Z17 I I I I (Z1y (k := .i64) (a := (a0.Calls.length : Int)) (b := (a1.Calls.length : Int)) (c := ((a0.Calls.length : Int) != (a1.Calls.length : Int))) I I I I) I <| Z2 I (Z20 (v := (.bool ((a0.Calls.length : Int) != (a1.Calls.length : Int)))) I I I) I ?_
  refine Zi <| Zj ?_
  have hif := Z21 h
  refine Z18 I (fun hc => ?_) (fun hc => ?_)
  ·have h := hif.1 hc
   refine Zl <| Zd <| Z2 I (Zq (v := (.bool false)) I I) I <| Zi <| Zj <| Z1g <| Z1o ?_
   have h := Option.some.inj h
   subst h
   refine (hret _ ?_).1
   exact ⟨[(.bool false)], ⟨rfl, trivial⟩, rfl, trivial⟩
  ·have h := hif.2 hc
   refine Z1b <| Zj <| Zl <| Zl <| Zd <| Z2 I (Zq (v := (.int .i64 0)) I I) I <| Zi <| Zj ?_
   refine AWp.weaken (st' := ⟨[(2, (.ptr 2 0)), (3, (.ptr 3 0)), (5, (.int .i64 0))], [(2, (.box (Za a0).cells)), (3, (.box (Za a1).cells))]⟩) ⟨rfl, rfl, rfl, trivial⟩ ⟨rfl, rfl, trivial⟩ ?_
   refine Z1l (V := Int) (X := Unit) (lp := fun k v => Zbs K a0 a1 (Zdm K a0 a1) k v = some r) (sh := fun v => ⟨[(2, (.ptr 2 0)), (3, (.ptr 3 0)), (5, (.int .i64 v))], [(2, (.box (Za a0).cells)), (3, (.box (Za a1).cells))]⟩) (x := fun v => Zdm K a0 a1 = some r) (shx := fun v => ⟨[(2, (.ptr 2 0)), (3, (.ptr 3 0))], [(2, (.box (Za a0).cells)), (3, (.box (Za a1).cells))]⟩) (k := K) (v := 0) h ?_ ?_
   ·intro v h
    try dsimp only at h ⊢
    unfold Zdm at h
    refine Zj <| Zl <| Zl <| Zd <| Z2 I (Zq (v := (.int .i64 0)) I I) I <| Zi <| Zj <| AWp.weaken (st' := ⟨[(2, (.ptr 2 0)), (3, (.ptr 3 0)), (6, (.int .i64 0))], [(2, (.box (Za a0).cells)), (3, (.box (Za a1).cells))]⟩) ⟨rfl, rfl, rfl, trivial⟩ ⟨rfl, rfl, trivial⟩ ?_
    refine Z1l (V := Int) (X := Unit) (lp := fun k v => Zao K a0 a1 (Zcy K) k v = some r) (sh := fun v => ⟨[(2, (.ptr 2 0)), (3, (.ptr 3 0)), (6, (.int .i64 v))], [(2, (.box (Za a0).cells)), (3, (.box (Za a1).cells))]⟩) (x := fun v => Zcy K = some r) (shx := fun v => ⟨[], []⟩) (k := K) (v := 0) h ?_ ?_
    ·intro v h
     try dsimp only at h ⊢
     unfold Zcy at h
     refine Zj <| Zl <| Zd <| Z2 I (Zq (v := (.bool true)) I I) I <| Zi <| Zj <| Z1g ?_
     have h := Option.some.inj h
     subst h
     refine (hret _ ?_).1
     exact ⟨[(.bool true)], ⟨rfl, trivial⟩, rfl, trivial⟩
    ·intro N k6 v h IH6 J6
     revert h
     revert v
     intro v5 h
     try dsimp only at h IH6 J6 ⊢
     cases k6 with
     | zero => cases h
     | succ k6 =>
      rw [Zao] at h
      refine Zl <| Zl <| Zd <| Z2 I (Zn (v := (.int .i64 v5)) I I) I <| Z2 I (Zu (m := 2) (o := 0) I Z5r I I) I <| Z2 I (Zz (cs := (Za a0).cells) (v := (.sl 5 (a0.Calls.map Z6) false)) I o42 I I I) I <| Z2 I (Z23 (l := a0.Calls) (enc := Z6) I s42 I) I <| Z2 I (Z1y (k := .i64) (a := v5) (b := (a0.Calls.length : Int)) (c := (decide (v5 < (a0.Calls.length : Int)))) I I I I) I ?_
      refine Zi <| Zj ?_
      have hif := Z21 h
      refine Z18 I (fun hc => ?_) (fun hc => ?_)
      ·have h := hif.1 hc
       refine Z1b <| Zj <| Zl <| AWp.block <| Zl <| Z1u mixed <| Z8 0 I (Zu (m := 2) (o := 0) I Z5r I I) <| Z8 1 I (Zz (cs := (Za a0).cells) (v := (.sl 5 (a0.Calls.map Z6) false)) I o42 I I I) ?_
       refine Z8 2 I (Zn (v := (.int .i64 v5)) I I) ?_
       have ⟨hg10, h⟩ := Z14 h
       refine Z8 3 I (Z1s (k := .i64) (l := a0.Calls) (enc := Z6) (z := Zf) (n := v5) (cs := (Z6 (a0.Calls.getD v5.toNat Zf)).cells) (full := false) I s42 I I hg10 I) <| Z8 4 I (Z2i (cs := (Z6 (a0.Calls.getD v5.toNat Zf)).cells) (vs := (Z6 (a0.Calls.getD v5.toNat Zf)).cells) I a88 I I I) <| Z8 5 I (Zu (m := 3) (o := 0) I Z5r I I) <| Z8 6 I (Zz (cs := (Za a1).cells) (v := (.sl 5 (a1.Calls.map Z6) false)) I o42 I I I) <| Z8 7 I (Zn (v := (.int .i64 v5)) I I) ?_
       have ⟨hg11, h⟩ := Z14 h
       refine Z8 8 I (Z1s (k := .i64) (l := a1.Calls) (enc := Z6) (z := Zf) (n := v5) (cs := (Z6 (a1.Calls.getD v5.toNat Zf)).cells) (full := false) I s42 I I hg11 I) <| Z8 9 I (Z2i (cs := (Z6 (a1.Calls.getD v5.toNat Zf)).cells) (vs := (Z6 (a1.Calls.getD v5.toNat Zf)).cells) I a88 I I I) <| Z8 10 I (st_cmpA (xs := (Z6 (a0.Calls.getD v5.toNat Zf)).cells) (ys := (Z6 (a1.Calls.getD v5.toNat Zf)).cells) (b := (((a0.Calls.getD v5.toNat Zf).Caller == (a1.Calls.getD v5.toNat Zf).Caller) && (((a0.Calls.getD v5.toNat Zf).Callee == (a1.Calls.getD v5.toNat Zf).Callee) && (((a0.Calls.getD v5.toNat Zf).Count == (a1.Calls.getD v5.toNat Zf).Count) && (((a0.Calls.getD v5.toNat Zf).Errors == (a1.Calls.getD v5.toNat Zf).Errors) && (((a0.Calls.getD v5.toNat Zf).Time == (a1.Calls.getD v5.toNat Zf).Time) && true)))))) (c := (!(((a0.Calls.getD v5.toNat Zf).Caller == (a1.Calls.getD v5.toNat Zf).Caller) && (((a0.Calls.getD v5.toNat Zf).Callee == (a1.Calls.getD v5.toNat Zf).Callee) && (((a0.Calls.getD v5.toNat Zf).Count == (a1.Calls.getD v5.toNat Zf).Count) && (((a0.Calls.getD v5.toNat Zf).Errors == (a1.Calls.getD v5.toNat Zf).Errors) && (((a0.Calls.getD v5.toNat Zf).Time == (a1.Calls.getD v5.toNat Zf).Time) && true))))))) I eq88 I I I I) <| Z1q (by kernel_rfl) I <| Zj ?_
       have hif := Z21 h
       refine Z18 I (fun hc => ?_) (fun hc => ?_)
       ·have h := hif.1 hc
        refine Zl <| Zd <| Z2 I (Zq (v := (.bool false)) I I) I <| Zi <| Zj <| Z1g <| At.overR <| Z1o ?_
        refine Z1o (At.overR ?_)
        refine Z1o ?_
        have h := Option.some.inj h
        subst h
        refine (hret _ ?_).1
        exact ⟨[(.bool false)], ⟨rfl, trivial⟩, rfl, trivial⟩
       ·have h := hif.2 hc
        refine Z1b <| At.end <| Zj <| Zd <| Z2 I (Zn (v := (.int .i64 v5)) I I) I <| Z2 I (Z1m (k := .i64) (a := v5) (b := 1) (c := (IntKind.i64.wrap (v5 + 1))) I I I I) I <| Z2 I (Zq (v := (.int .i64 (IntKind.i64.wrap (v5 + 1)))) I I) I <| Zi ?_
        exact Z11 (st' := ⟨[(2, (.ptr 2 0)), (3, (.ptr 3 0)), (6, (.int .i64 (IntKind.i64.wrap (v5 + 1))))], [(2, (.box (Za a0).cells)), (3, (.box (Za a1).cells))]⟩) ⟨rfl, rfl, rfl, trivial⟩ ⟨rfl, rfl, trivial⟩ (IH6 _ (IntKind.i64.wrap (v5 + 1)) (Nat.lt_succ_self _) h)
      ·have h := hif.2 hc
       refine AWp.exit <| At.thru ?_
       exact Z11 (st' := ⟨[], []⟩) trivial trivial (J6 () h)
   ·intro N k2 v h IH2 J2
    revert h
    revert v
    intro v1 h
    try dsimp only at h IH2 J2 ⊢
    cases k2 with
    | zero => cases h
    | succ k2 =>
     rw [Zbs] at h
     refine Zl <| Zl <| Zd <| Z2 I (Zn (v := (.int .i64 v1)) I I) I <| Z2 I (Zu (m := 2) (o := 0) I Z5v I I) I <| Z2 I (Zz (cs := (Za a0).cells) (v := (.sl 4 (a0.Services.map Z3) false)) I o41 I I I) I <| Z2 I (Z23 (l := a0.Services) (enc := Z3) I s41 I) I <| Z2 I (Z1y (k := .i64) (a := v1) (b := (a0.Services.length : Int)) (c := (decide (v1 < (a0.Services.length : Int)))) I I I I) I ?_
     refine Zi <| Zj ?_
     have hif := Z21 h
     refine Z18 I (fun hc => ?_) (fun hc => ?_)
     ·have h := hif.1 hc
      refine Z1b <| Zj <| Zl <| AWp.block <| Zl <| Z1u mixed <| Z8 0 I (Zu (m := 2) (o := 0) I Z5v I I) <| Z8 1 I (Zz (cs := (Za a0).cells) (v := (.sl 4 (a0.Services.map Z3) false)) I o41 I I I) ?_
      refine Z8 2 I (Zn (v := (.int .i64 v1)) I I) ?_
      have ⟨hg13, h⟩ := Z14 h
      refine Z8 3 I (Z1s (k := .i64) (l := a0.Services) (enc := Z3) (z := Zg) (n := v1) (cs := (Z3 (a0.Services.getD v1.toNat Zg)).cells) (full := false) I s41 I I hg13 I) <| Z8 4 I (Z2i (cs := (Z3 (a0.Services.getD v1.toNat Zg)).cells) (vs := (Z3 (a0.Services.getD v1.toNat Zg)).cells) I a68 I I I) <| Z8 5 I (Zu (m := 3) (o := 0) I Z5v I I) <| Z8 6 I (Zz (cs := (Za a1).cells) (v := (.sl 4 (a1.Services.map Z3) false)) I o41 I I I) <| Z8 7 I (Zn (v := (.int .i64 v1)) I I) ?_
      have ⟨hg14, h⟩ := Z14 h
      refine Z8 8 I (Z1s (k := .i64) (l := a1.Services) (enc := Z3) (z := Zg) (n := v1) (cs := (Z3 (a1.Services.getD v1.toNat Zg)).cells) (full := false) I s41 I I hg14 I) <| Z8 9 I (Z2i (cs := (Z3 (a1.Services.getD v1.toNat Zg)).cells) (vs := (Z3 (a1.Services.getD v1.toNat Zg)).cells) I a68 I I I) <| Z8 10 I (st_cmpA (xs := (Z3 (a0.Services.getD v1.toNat Zg)).cells) (ys := (Z3 (a1.Services.getD v1.toNat Zg)).cells) (b := (((a0.Services.getD v1.toNat Zg).Name == (a1.Services.getD v1.toNat Zg).Name) && (((a0.Services.getD v1.toNat Zg).Spans == (a1.Services.getD v1.toNat Zg).Spans) && (((a0.Services.getD v1.toNat Zg).Errors == (a1.Services.getD v1.toNat Zg).Errors) && (((a0.Services.getD v1.toNat Zg).Roots == (a1.Services.getD v1.toNat Zg).Roots) && true))))) (c := (!(((a0.Services.getD v1.toNat Zg).Name == (a1.Services.getD v1.toNat Zg).Name) && (((a0.Services.getD v1.toNat Zg).Spans == (a1.Services.getD v1.toNat Zg).Spans) && (((a0.Services.getD v1.toNat Zg).Errors == (a1.Services.getD v1.toNat Zg).Errors) && (((a0.Services.getD v1.toNat Zg).Roots == (a1.Services.getD v1.toNat Zg).Roots) && true)))))) I eq68 I I I I) <| Z1q (by kernel_rfl) I <| Zj ?_
      have hif := Z21 h
      refine Z18 I (fun hc => ?_) (fun hc => ?_)
      ·have h := hif.1 hc
       refine Zl <| Zd <| Z2 I (Zq (v := (.bool false)) I I) I <| Zi <| Zj <| Z1g <| At.overR <| Z1o ?_
       refine Z1o (At.overR ?_)
       refine Z1o ?_
       have h := Option.some.inj h
       subst h
       refine (hret _ ?_).1
       exact ⟨[(.bool false)], ⟨rfl, trivial⟩, rfl, trivial⟩
      ·have h := hif.2 hc
       refine Z1b <| At.end <| Zj <| Zd <| Z2 I (Zn (v := (.int .i64 v1)) I I) I <| Z2 I (Z1m (k := .i64) (a := v1) (b := 1) (c := (IntKind.i64.wrap (v1 + 1))) I I I I) I <| Z2 I (Zq (v := (.int .i64 (IntKind.i64.wrap (v1 + 1)))) I I) I <| Zi ?_
       exact Z11 (st' := ⟨[(2, (.ptr 2 0)), (3, (.ptr 3 0)), (5, (.int .i64 (IntKind.i64.wrap (v1 + 1))))], [(2, (.box (Za a0).cells)), (3, (.box (Za a1).cells))]⟩) ⟨rfl, rfl, rfl, trivial⟩ ⟨rfl, rfl, trivial⟩ (IH2 _ (IntKind.i64.wrap (v1 + 1)) (Nat.lt_succ_self _) h)
     ·have h := hif.2 hc
      refine AWp.exit <| At.thru ?_
      exact Z11 (st' := ⟨[(2, (.ptr 2 0)), (3, (.ptr 3 0))], [(2, (.box (Za a0).cells)), (3, (.box (Za a1).cells))]⟩) ⟨rfl, rfl, trivial⟩ ⟨rfl, rfl, trivial⟩ (J2 () h)
noncomputable def F11 (K : Nat) : Option (Bool) :=
 (F17 K ([(⟨9, 2, [(⟨9, 1, 0, 0, 1, 1, [119, 101, 98], [], [111], 0, 30, false, [], []⟩ : Zh), (⟨9, 2, 1, 0, 1, 1, [97, 112, 105], [], [111], 0, 10, true, [], []⟩ : Zh), (⟨9, 3, 2, 0, 1, 1, [97, 112, 105], [], [111], 0, 5, false, [], []⟩ : Zh)]⟩ : Zt)])).bind fun v2 =>
  if (v2.1 == 0) = true then
   (F19 K v2.2 (⟨[(⟨[97, 112, 105], 4, 2, 0⟩ : Zc), (⟨[119, 101, 98], 2, 0, 2⟩ : Zc)], [(⟨[119, 101, 98], [97, 112, 105], 2, 2, 20⟩ : Zk)]⟩ : Ze)).bind fun v4 =>
    some v4
  else
   some false
theorem F11_ok (K : Nat) (r : Bool) (h : F11 K = some r) : ACall P 11 ⟨[], [], (.bool r), [], []⟩ := by
 refine Z1v Tryz.func11 Tryz.results11 rfl Tryz.ntmps11 rfl rfl rfl ?_
 intro E Q hP hN hro hret
 obtain ⟨P', nt', w0, F0, p0, S0, β0, ro0⟩ := E
 simp only at hP hN
 subst hP hN
 dsimp only [argT]
 unfold F11 at h
 refine Zl <| Zd <| Z2 I (Zq (v := (.bool false)) I I) I <| Zi <| Zj <| Zl <| Zd <| Z2 I (Z29 (vs := [(0, (.int .i64 9)), (1, (.int .i64 1)), (4, (.int .i64 1)), (5, (.int .i64 1)), (6, (.str [119, 101, 98])), (8, (.str [111])), (10, (.int .i64 30))]) (cs := [(.int .i64 9), (.int .i64 1), (.int .i64 0), (.int .i64 0), (.int .i64 1), (.int .i64 1), (.str [119, 101, 98]), (.str []), (.str [111]), (.int .i64 0), (.int .i64 30), (.bool false), (.sl 4 [] false), (.sl 2 [] false)]) I st56 ⟨rfl, rfl, rfl, rfl, rfl, rfl, rfl, rfl, rfl, rfl, rfl, rfl, rfl, rfl, trivial⟩ I) I ?_
 refine Z2 I (Z1x (cs := [(.int .i64 0), (.int .i64 0), (.int .i64 0), (.int .i64 0), (.int .i64 0), (.int .i64 0), (.str []), (.str []), (.str []), (.int .i64 0), (.int .i64 0), (.bool false), (.sl 4 [] false), (.sl 2 [] false)]) I z56 I I I) I <| Z2 I (Z1a (cs := [(.int .i64 0), (.int .i64 0), (.int .i64 0), (.int .i64 0), (.int .i64 0), (.int .i64 0), (.str []), (.str []), (.str []), (.int .i64 0), (.int .i64 0), (.bool false), (.sl 4 [] false), (.sl 2 [] false)]) (vs := [(.int .i64 9), (.int .i64 1), (.int .i64 0), (.int .i64 0), (.int .i64 1), (.int .i64 1), (.str [119, 101, 98]), (.str []), (.str [111]), (.int .i64 0), (.int .i64 30), (.bool false), (.sl 4 [] false), (.sl 2 [] false)]) (ds := [(.int .i64 9), (.int .i64 1), (.int .i64 0), (.int .i64 0), (.int .i64 1), (.int .i64 1), (.str [119, 101, 98]), (.str []), (.str [111]), (.int .i64 0), (.int .i64 30), (.bool false), (.sl 4 [] false), (.sl 2 [] false)]) (v := (.ag [(.int .i64 9), (.int .i64 1), (.int .i64 0), (.int .i64 0), (.int .i64 1), (.int .i64 1), (.str [119, 101, 98]), (.str []), (.str [111]), (.int .i64 0), (.int .i64 30), (.bool false), (.sl 4 [] false), (.sl 2 [] false)])) sz56 I I I I I I I I) I <| Zi <| Zj <| Zl <| Zd <| Z2 I (Z29 (vs := [(0, (.int .i64 9)), (1, (.int .i64 2)), (2, (.int .i64 1)), (4, (.int .i64 1)), (5, (.int .i64 1)), (6, (.str [97, 112, 105])), (8, (.str [111])), (10, (.int .i64 10)), (11, (.bool true))]) (cs := [(.int .i64 9), (.int .i64 2), (.int .i64 1), (.int .i64 0), (.int .i64 1), (.int .i64 1), (.str [97, 112, 105]), (.str []), (.str [111]), (.int .i64 0), (.int .i64 10), (.bool true), (.sl 4 [] false), (.sl 2 [] false)]) I st56 ⟨rfl, rfl, rfl, rfl, rfl, rfl, rfl, rfl, rfl, rfl, rfl, rfl, rfl, rfl, rfl, rfl, rfl, rfl, trivial⟩ I) I <| Z2 I (Z1x (cs := [(.int .i64 0), (.int .i64 0), (.int .i64 0), (.int .i64 0), (.int .i64 0), (.int .i64 0), (.str []), (.str []), (.str []), (.int .i64 0), (.int .i64 0), (.bool false), (.sl 4 [] false), (.sl 2 [] false)]) I z56 I I I) I ?_
 refine Z2 I (Z1a (cs := [(.int .i64 0), (.int .i64 0), (.int .i64 0), (.int .i64 0), (.int .i64 0), (.int .i64 0), (.str []), (.str []), (.str []), (.int .i64 0), (.int .i64 0), (.bool false), (.sl 4 [] false), (.sl 2 [] false)]) (vs := [(.int .i64 9), (.int .i64 2), (.int .i64 1), (.int .i64 0), (.int .i64 1), (.int .i64 1), (.str [97, 112, 105]), (.str []), (.str [111]), (.int .i64 0), (.int .i64 10), (.bool true), (.sl 4 [] false), (.sl 2 [] false)]) (ds := [(.int .i64 9), (.int .i64 2), (.int .i64 1), (.int .i64 0), (.int .i64 1), (.int .i64 1), (.str [97, 112, 105]), (.str []), (.str [111]), (.int .i64 0), (.int .i64 10), (.bool true), (.sl 4 [] false), (.sl 2 [] false)]) (v := (.ag [(.int .i64 9), (.int .i64 2), (.int .i64 1), (.int .i64 0), (.int .i64 1), (.int .i64 1), (.str [97, 112, 105]), (.str []), (.str [111]), (.int .i64 0), (.int .i64 10), (.bool true), (.sl 4 [] false), (.sl 2 [] false)])) sz56 I I I I I I I I) I <| Zi <| Zj <| Zl <| Zd <| Z2 I (Z29 (vs := [(0, (.int .i64 9)), (1, (.int .i64 3)), (2, (.int .i64 2)), (4, (.int .i64 1)), (5, (.int .i64 1)), (6, (.str [97, 112, 105])), (8, (.str [111])), (10, (.int .i64 5))]) (cs := [(.int .i64 9), (.int .i64 3), (.int .i64 2), (.int .i64 0), (.int .i64 1), (.int .i64 1), (.str [97, 112, 105]), (.str []), (.str [111]), (.int .i64 0), (.int .i64 5), (.bool false), (.sl 4 [] false), (.sl 2 [] false)]) I st56 ⟨rfl, rfl, rfl, rfl, rfl, rfl, rfl, rfl, rfl, rfl, rfl, rfl, rfl, rfl, rfl, rfl, trivial⟩ I) I <| Z2 I (Z1x (cs := [(.int .i64 0), (.int .i64 0), (.int .i64 0), (.int .i64 0), (.int .i64 0), (.int .i64 0), (.str []), (.str []), (.str []), (.int .i64 0), (.int .i64 0), (.bool false), (.sl 4 [] false), (.sl 2 [] false)]) I z56 I I I) I <| Z2 I (Z1a (cs := [(.int .i64 0), (.int .i64 0), (.int .i64 0), (.int .i64 0), (.int .i64 0), (.int .i64 0), (.str []), (.str []), (.str []), (.int .i64 0), (.int .i64 0), (.bool false), (.sl 4 [] false), (.sl 2 [] false)]) (vs := [(.int .i64 9), (.int .i64 3), (.int .i64 2), (.int .i64 0), (.int .i64 1), (.int .i64 1), (.str [97, 112, 105]), (.str []), (.str [111]), (.int .i64 0), (.int .i64 5), (.bool false), (.sl 4 [] false), (.sl 2 [] false)]) (ds := [(.int .i64 9), (.int .i64 3), (.int .i64 2), (.int .i64 0), (.int .i64 1), (.int .i64 1), (.str [97, 112, 105]), (.str []), (.str [111]), (.int .i64 0), (.int .i64 5), (.bool false), (.sl 4 [] false), (.sl 2 [] false)]) (v := (.ag [(.int .i64 9), (.int .i64 3), (.int .i64 2), (.int .i64 0), (.int .i64 1), (.int .i64 1), (.str [97, 112, 105]), (.str []), (.str [111]), (.int .i64 0), (.int .i64 5), (.bool false), (.sl 4 [] false), (.sl 2 [] false)])) sz56 I I I I I I I I) I ?_
 refine Zi <| Zj <| Zl <| Zd <| Z2 I (Z1k (cs := [(.int .i64 9), (.int .i64 1), (.int .i64 0), (.int .i64 0), (.int .i64 1), (.int .i64 1), (.str [119, 101, 98]), (.str []), (.str [111]), (.int .i64 0), (.int .i64 30), (.bool false), (.sl 4 [] false), (.sl 2 [] false)]) (vs := [(.int .i64 9), (.int .i64 1), (.int .i64 0), (.int .i64 0), (.int .i64 1), (.int .i64 1), (.str [119, 101, 98]), (.str []), (.str [111]), (.int .i64 0), (.int .i64 30), (.bool false), (.sl 4 [] false), (.sl 2 [] false)]) I a56 I I I I) I <| Z2 I (Z1k (cs := [(.int .i64 9), (.int .i64 2), (.int .i64 1), (.int .i64 0), (.int .i64 1), (.int .i64 1), (.str [97, 112, 105]), (.str []), (.str [111]), (.int .i64 0), (.int .i64 10), (.bool true), (.sl 4 [] false), (.sl 2 [] false)]) (vs := [(.int .i64 9), (.int .i64 2), (.int .i64 1), (.int .i64 0), (.int .i64 1), (.int .i64 1), (.str [97, 112, 105]), (.str []), (.str [111]), (.int .i64 0), (.int .i64 10), (.bool true), (.sl 4 [] false), (.sl 2 [] false)]) I a56 I I I I) I <| Z2 I (Z1k (cs := [(.int .i64 9), (.int .i64 3), (.int .i64 2), (.int .i64 0), (.int .i64 1), (.int .i64 1), (.str [97, 112, 105]), (.str []), (.str [111]), (.int .i64 0), (.int .i64 5), (.bool false), (.sl 4 [] false), (.sl 2 [] false)]) (vs := [(.int .i64 9), (.int .i64 3), (.int .i64 2), (.int .i64 0), (.int .i64 1), (.int .i64 1), (.str [97, 112, 105]), (.str []), (.str [111]), (.int .i64 0), (.int .i64 5), (.bool false), (.sl 4 [] false), (.sl 2 [] false)]) I a56 I I I I) I <| Z2 I (Z1j (vs := [(.ag [(.int .i64 9), (.int .i64 1), (.int .i64 0), (.int .i64 0), (.int .i64 1), (.int .i64 1), (.str [119, 101, 98]), (.str []), (.str [111]), (.int .i64 0), (.int .i64 30), (.bool false), (.sl 4 [] false), (.sl 2 [] false)]), (.ag [(.int .i64 9), (.int .i64 2), (.int .i64 1), (.int .i64 0), (.int .i64 1), (.int .i64 1), (.str [97, 112, 105]), (.str []), (.str [111]), (.int .i64 0), (.int .i64 10), (.bool true), (.sl 4 [] false), (.sl 2 [] false)]), (.ag [(.int .i64 9), (.int .i64 3), (.int .i64 2), (.int .i64 0), (.int .i64 1), (.int .i64 1), (.str [97, 112, 105]), (.str []), (.str [111]), (.int .i64 0), (.int .i64 5), (.bool false), (.sl 4 [] false), (.sl 2 [] false)])]) (enc := Z5) (l := [(⟨9, 1, 0, 0, 1, 1, [119, 101, 98], [], [111], 0, 30, false, [], []⟩ : Zh), (⟨9, 2, 1, 0, 1, 1, [97, 112, 105], [], [111], 0, 10, true, [], []⟩ : Zh), (⟨9, 3, 2, 0, 1, 1, [97, 112, 105], [], [111], 0, 5, false, [], []⟩ : Zh)]) I el37 I I ⟨rfl, rfl, rfl, trivial⟩ I Z2q I I I I) I ?_
 refine Z2 I (Z29 (vs := [(0, (.int .i64 9)), (1, (.int .i64 2)), (2, (.vs 13))]) (cs := [(.int .i64 9), (.int .i64 2), (.vs 13)]) I st39 ⟨rfl, rfl, rfl, rfl, rfl, rfl, trivial⟩ I) I <| AOps.ghost (st' := ⟨[(14, (.ag [(.int .i64 9), (.int .i64 2), (.sl 14 (([(⟨9, 1, 0, 0, 1, 1, [119, 101, 98], [], [111], 0, 30, false, [], []⟩ : Zh), (⟨9, 2, 1, 0, 1, 1, [97, 112, 105], [], [111], 0, 10, true, [], []⟩ : Zh), (⟨9, 3, 2, 0, 1, 1, [97, 112, 105], [], [111], 0, 5, false, [], []⟩ : Zh)]).map Z5) false)]))], []⟩) (fun a w h => (Z1d ⟨[(14, (.ag [(.int .i64 9), (.int .i64 2), (.sl 14 (([(⟨9, 1, 0, 0, 1, 1, [119, 101, 98], [], [111], 0, 30, false, [], []⟩ : Zh), (⟨9, 2, 1, 0, 1, 1, [97, 112, 105], [], [111], 0, 10, true, [], []⟩ : Zh), (⟨9, 3, 2, 0, 1, 1, [97, 112, 105], [], [111], 0, 5, false, [], []⟩ : Zh)]).map Z5) false)]))], []⟩ (Z2c (m := 13) (sz := 14) (es := (List.map Z5 ([(⟨9, 1, 0, 0, 1, 1, [119, 101, 98], [], [111], 0, 30, false, [], []⟩ : Zh), (⟨9, 2, 1, 0, 1, 1, [97, 112, 105], [], [111], 0, 10, true, [], []⟩ : Zh), (⟨9, 3, 2, 0, 1, 1, [97, 112, 105], [], [111], 0, 5, false, [], []⟩ : Zh)]))) a w (Z1d ⟨[(14, (.ag [(.int .i64 9), (.int .i64 2), (.vs 13)]))], [(13, (.vec 14 (List.map Z5 ([(⟨9, 1, 0, 0, 1, 1, [119, 101, 98], [], [111], 0, 30, false, [], []⟩ : Zh), (⟨9, 2, 1, 0, 1, 1, [97, 112, 105], [], [111], 0, 10, true, [], []⟩ : Zh), (⟨9, 3, 2, 0, 1, 1, [97, 112, 105], [], [111], 0, 5, false, [], []⟩ : Zh)]))))]⟩ h ⟨rfl, trivial⟩ ⟨rfl, trivial⟩)) ⟨rfl, trivial⟩ trivial)) <| Z2 I (Z1j (vs := [(.ag [(.int .i64 9), (.int .i64 2), (.sl 14 (([(⟨9, 1, 0, 0, 1, 1, [119, 101, 98], [], [111], 0, 30, false, [], []⟩ : Zh), (⟨9, 2, 1, 0, 1, 1, [97, 112, 105], [], [111], 0, 10, true, [], []⟩ : Zh), (⟨9, 3, 2, 0, 1, 1, [97, 112, 105], [], [111], 0, 5, false, [], []⟩ : Zh)]).map Z5) false)])]) (enc := Zb) (l := [(⟨9, 2, [(⟨9, 1, 0, 0, 1, 1, [119, 101, 98], [], [111], 0, 30, false, [], []⟩ : Zh), (⟨9, 2, 1, 0, 1, 1, [97, 112, 105], [], [111], 0, 10, true, [], []⟩ : Zh), (⟨9, 3, 2, 0, 1, 1, [97, 112, 105], [], [111], 0, 5, false, [], []⟩ : Zh)]⟩ : Zt)]) I el31 I I ⟨rfl, trivial⟩ I Z2j I I I I) I ?_
 have ⟨v2, hv2, h⟩ := Z1c h
 refine Z2 I (Z31 (d := some 16) (c := ⟨[(.vs 15)] ++ [], [(15, (.vec 3 (List.map Zb ([(⟨9, 2, [(⟨9, 1, 0, 0, 1, 1, [119, 101, 98], [], [111], 0, 30, false, [], []⟩ : Zh), (⟨9, 2, 1, 0, 1, 1, [97, 112, 105], [], [111], 0, 10, true, [], []⟩ : Zh), (⟨9, 3, 2, 0, 1, 1, [97, 112, 105], [], [111], 0, 5, false, [], []⟩ : Zh)]⟩ : Zt)]))))], (.tup [(Za v2.2), (.int .i64 v2.1)]), [(15, (.vec 3 (List.map Zb ([(⟨9, 2, [(⟨9, 1, 0, 0, 1, 1, [119, 101, 98], [], [111], 0, 30, false, [], []⟩ : Zh), (⟨9, 2, 1, 0, 1, 1, [97, 112, 105], [], [111], 0, 10, true, [], []⟩ : Zh), (⟨9, 3, 2, 0, 1, 1, [97, 112, 105], [], [111], 0, 5, false, [], []⟩ : Zh)]⟩ : Zt)]))))], []⟩) (ar := [(.vs 15)]) (caps := []) (news := []) (forg := []) Tryz.call17 ((F17_ok K ([(⟨9, 2, [(⟨9, 1, 0, 0, 1, 1, [119, 101, 98], [], [111], 0, 30, false, [], []⟩ : Zh), (⟨9, 2, 1, 0, 1, 1, [97, 112, 105], [], [111], 0, 10, true, [], []⟩ : Zh), (⟨9, 3, 2, 0, 1, 1, [97, 112, 105], [], [111], 0, 5, false, [], []⟩ : Zh)]⟩ : Zt)]) v2 hv2).sw 2000 15) I I ⟨rfl, trivial⟩ I ⟨rfl, trivial⟩ I) I <| Z2 I (Zn (v := (.tup [(Za v2.2), (.int .i64 v2.1)])) I I) I <| Z2 I (Z2b (vs := [(Za v2.2), (.int .i64 v2.1)]) (v := (Za v2.2)) I I I) I <| Z2 I (Z2b (vs := [(Za v2.2), (.int .i64 v2.1)]) (v := (.int .i64 v2.1)) I I I) I <| Z2 I (Z1x (cs := [(.sl 4 [] false), (.sl 5 [] false)]) I z44 I I I) I <| Z2 I (Z1a (cs := [(.sl 4 [] false), (.sl 5 [] false)]) (vs := (Za v2.2).cells) (ds := (Za v2.2).cells) (v := (Za v2.2)) sz44 I I I I I I I I) I <| Z2 I (Zq (v := (.int .i64 v2.1)) I I) I <| Zi ?_
 refine Zj <| Zl <| Zd <| Z2 I (Zn (v := (.int .i64 v2.1)) I I) I <| Z2 I (Z1y (k := .i64) (a := v2.1) (b := 0) (c := (v2.1 == 0)) I I I I) I <| Z2 I (Zn (v := (.bool (v2.1 == 0))) I I) I ?_
 have hif := Z21 h
 refine AOps.split (fun hc => ?_) (fun hc => ?_)
 ·have h := hif.1 hc
  refine Z17 I I I I (Z1k (cs := (Za v2.2).cells) (vs := (Za v2.2).cells) I a44 I I I I) I <| Z17 I I I I (Z29 (vs := [(0, (.str [97, 112, 105])), (1, (.int .i64 4)), (2, (.int .i64 2))]) (cs := [(.str [97, 112, 105]), (.int .i64 4), (.int .i64 2), (.int .i64 0)]) I st68 ⟨rfl, rfl, rfl, rfl, rfl, rfl, trivial⟩ I) I <| Z17 I I I I (Z29 (vs := [(0, (.str [119, 101, 98])), (1, (.int .i64 2)), (3, (.int .i64 2))]) (cs := [(.str [119, 101, 98]), (.int .i64 2), (.int .i64 0), (.int .i64 2)]) I st68 ⟨rfl, rfl, rfl, rfl, rfl, rfl, trivial⟩ I) I <| Z17 I I I I (Z1j (vs := [(.ag [(.str [97, 112, 105]), (.int .i64 4), (.int .i64 2), (.int .i64 0)]), (.ag [(.str [119, 101, 98]), (.int .i64 2), (.int .i64 0), (.int .i64 2)])]) (enc := Z3) (l := [(⟨[97, 112, 105], 4, 2, 0⟩ : Zc), (⟨[119, 101, 98], 2, 0, 2⟩ : Zc)]) I el41 I I ⟨rfl, rfl, trivial⟩ I Z1z I I I I) I <| Z17 I I I I (Z29 (vs := [(0, (.str [119, 101, 98])), (1, (.str [97, 112, 105])), (2, (.int .i64 2)), (3, (.int .i64 2)), (4, (.int .i64 20))]) (cs := [(.str [119, 101, 98]), (.str [97, 112, 105]), (.int .i64 2), (.int .i64 2), (.int .i64 20)]) I st88 ⟨rfl, rfl, rfl, rfl, rfl, rfl, rfl, rfl, rfl, rfl, trivial⟩ I) I <| Z17 I I I I (Z1j (vs := [(.ag [(.str [119, 101, 98]), (.str [97, 112, 105]), (.int .i64 2), (.int .i64 2), (.int .i64 20)])]) (enc := Z6) (l := [(⟨[119, 101, 98], [97, 112, 105], 2, 2, 20⟩ : Zk)]) I el42 I I ⟨rfl, trivial⟩ I Z2r I I I I) I <| Z17 I I I I (Z29 (vs := [(0, (.vs 25)), (1, (.vs 27))]) (cs := [(.vs 25), (.vs 27)]) I st44 ⟨rfl, rfl, rfl, rfl, trivial⟩ I) I <| AOps.ghost (st' := ⟨[(21, (.bool true)), (22, (Za v2.2)), (28, (.ag [(.sl 4 (([(⟨[97, 112, 105], 4, 2, 0⟩ : Zc), (⟨[119, 101, 98], 2, 0, 2⟩ : Zc)]).map Z3) false), (.vs 27)]))], [(27, (.vec 5 (List.map Z6 ([(⟨[119, 101, 98], [97, 112, 105], 2, 2, 20⟩ : Zk)]))))]⟩) (fun a w h => (Z1d ⟨[(21, (.bool true)), (22, (Za v2.2)), (28, (.ag [(.sl 4 (([(⟨[97, 112, 105], 4, 2, 0⟩ : Zc), (⟨[119, 101, 98], 2, 0, 2⟩ : Zc)]).map Z3) false), (.vs 27)]))], [(27, (.vec 5 (List.map Z6 ([(⟨[119, 101, 98], [97, 112, 105], 2, 2, 20⟩ : Zk)]))))]⟩ (Z2c (m := 25) (sz := 4) (es := (List.map Z3 ([(⟨[97, 112, 105], 4, 2, 0⟩ : Zc), (⟨[119, 101, 98], 2, 0, 2⟩ : Zc)]))) a w (Z1d ⟨[(21, (.bool true)), (22, (Za v2.2)), (28, (.ag [(.vs 25), (.vs 27)]))], [(25, (.vec 4 (List.map Z3 ([(⟨[97, 112, 105], 4, 2, 0⟩ : Zc), (⟨[119, 101, 98], 2, 0, 2⟩ : Zc)])))), (27, (.vec 5 (List.map Z6 ([(⟨[119, 101, 98], [97, 112, 105], 2, 2, 20⟩ : Zk)]))))]⟩ h ⟨rfl, rfl, rfl, trivial⟩ ⟨rfl, rfl, trivial⟩)) ⟨rfl, rfl, rfl, trivial⟩ ⟨rfl, trivial⟩)) ?_
  refine AOps.ghost (st' := ⟨[(21, (.bool true)), (22, (Za v2.2)), (28, (.ag [(.sl 4 (([(⟨[97, 112, 105], 4, 2, 0⟩ : Zc), (⟨[119, 101, 98], 2, 0, 2⟩ : Zc)]).map Z3) false), (.sl 5 (([(⟨[119, 101, 98], [97, 112, 105], 2, 2, 20⟩ : Zk)]).map Z6) false)]))], []⟩) (fun a w h => (Z1d ⟨[(21, (.bool true)), (22, (Za v2.2)), (28, (.ag [(.sl 4 (([(⟨[97, 112, 105], 4, 2, 0⟩ : Zc), (⟨[119, 101, 98], 2, 0, 2⟩ : Zc)]).map Z3) false), (.sl 5 (([(⟨[119, 101, 98], [97, 112, 105], 2, 2, 20⟩ : Zk)]).map Z6) false)]))], []⟩ (Z2c (m := 27) (sz := 5) (es := (List.map Z6 ([(⟨[119, 101, 98], [97, 112, 105], 2, 2, 20⟩ : Zk)]))) a w (Z1d ⟨[(21, (.bool true)), (22, (Za v2.2)), (28, (.ag [(.sl 4 (([(⟨[97, 112, 105], 4, 2, 0⟩ : Zc), (⟨[119, 101, 98], 2, 0, 2⟩ : Zc)]).map Z3) false), (.vs 27)]))], [(27, (.vec 5 (List.map Z6 ([(⟨[119, 101, 98], [97, 112, 105], 2, 2, 20⟩ : Zk)]))))]⟩ h ⟨rfl, rfl, rfl, trivial⟩ ⟨rfl, trivial⟩)) ⟨rfl, rfl, rfl, trivial⟩ trivial)) ?_
  have ⟨v4, hv4, h⟩ := Z1c h
  refine Z17 I I I I (Z1e (ar := [(Za v2.2), (.ag [(.sl 4 (([(⟨[97, 112, 105], 4, 2, 0⟩ : Zc), (⟨[119, 101, 98], 2, 0, 2⟩ : Zc)]).map Z3) false), (.sl 5 (([(⟨[119, 101, 98], [97, 112, 105], 2, 2, 20⟩ : Zk)]).map Z6) false)])]) (caps := []) Tryz.call19 (F19_ok K v2.2 (⟨[(⟨[97, 112, 105], 4, 2, 0⟩ : Zc), (⟨[119, 101, 98], 2, 0, 2⟩ : Zc)], [(⟨[119, 101, 98], [97, 112, 105], 2, 2, 20⟩ : Zk)]⟩ : Ze) v4 hv4) I I ⟨rfl, rfl, trivial⟩ I) I <| Z2 I (Z2f (v := (.bool v4)) I I I) I <| Z2 I (Zq (v := (.bool v4)) I I) I <| Zi <| Zj <| Z1g ?_
  have h := Option.some.inj h
  subst h
  refine (hret _ ?_).1
  exact ⟨[(.bool v4)], ⟨rfl, trivial⟩, rfl, trivial⟩
 ·have h := hif.2 hc
  refine Z13 I I I I I I I <| Z13 I I I I I I I <| Z13 I I I I I I I <| Z13 I I I I I I I <| Z13 I I I I I I I <| Z13 I I I I I I I <| Z13 I I I I I I I <| Z13 I I I I I I I ?_
  refine Z2 I (Z20 (v := (.bool false)) I I I) I <| Z2 I (Zq (v := (.bool false)) I I) I <| Zi <| Zj <| Z1g ?_
  have h := Option.some.inj h
  subst h
  refine (hret _ ?_).1
  exact ⟨[(.bool false)], ⟨rfl, trivial⟩, rfl, trivial⟩
def Zdl (K : Nat) (a1 : Str) : Option (Zc) :=
 some (⟨a1, 0, 0, 0⟩ : Zc)
def Zb8 (K : Nat) (a0 : Ze) (a1 : Str) (c4 : Option (Zc)) : Nat → Int → Option (Zc)
 | 0, _ => none
 | k2 + 1, v1 =>
  if (decide (v1 < (a0.Services.length : Int))) = true then
   if (0 : Int) ≤ v1 ∧ v1 < a0.Services.length then
    if ((a0.Services.getD v1.toNat Zg).Name == a1) = true then
     if (0 : Int) ≤ v1 ∧ v1 < a0.Services.length then
      some (a0.Services.getD v1.toNat Zg)
     else none
    else
     (Zb8 K a0 a1 c4 k2) (IntKind.i64.wrap (v1 + 1))
   else none
  else
   c4
def F31 (K : Nat) (a0 : Ze) (a1 : Str) : Option (Zc) :=
 Zb8 K a0 a1 (Zdl K a1) K 0
theorem F31_ok (K : Nat) (a0 : Ze) (a1 : Str) (r : Zc) (h : F31 K a0 a1 = some r) : ACall P 31 ⟨[(Za a0), (.str a1)], [], (Z3 r), [], []⟩ := by
 refine Z1v Tryz.func31 Tryz.results31 rfl Tryz.ntmps31 rfl rfl rfl ?_
 intro E Q hP hN hro hret
 obtain ⟨P', nt', w0, F0, p0, S0, β0, ro0⟩ := E
 simp only at hP hN
 subst hP hN
 dsimp only [argT]
 unfold F31 at h
 refine Zl <| Zd <| Z2 I (Z2s (v := (Za a0)) (cs := (Za a0).cells) I I I I I) I <| Z2 I (Z1x (cs := [(.str []), (.int .i64 0), (.int .i64 0), (.int .i64 0)]) I z68 I I I) I <| Zi <| Zj <| Zl <| Zl ?_
 refine Zd <| Z2 I (Zq (v := (.int .i64 0)) I I) I <| Zi <| Zj <| AWp.weaken (st' := ⟨[(1, (.str a1)), (2, (.ptr 2 0)), (4, (.ptr 4 0)), (5, (.int .i64 0))], [(2, (.box (Za a0).cells)), (4, (.box [(.str []), (.int .i64 0), (.int .i64 0), (.int .i64 0)]))]⟩) ⟨rfl, rfl, rfl, rfl, trivial⟩ ⟨rfl, rfl, trivial⟩ ?_
 refine Z1l (V := Int) (X := Unit) (lp := fun k v => Zb8 K a0 a1 (Zdl K a1) k v = some r) (sh := fun v => ⟨[(1, (.str a1)), (2, (.ptr 2 0)), (4, (.ptr 4 0)), (5, (.int .i64 v))], [(2, (.box (Za a0).cells)), (4, (.box [(.str []), (.int .i64 0), (.int .i64 0), (.int .i64 0)]))]⟩) (x := fun v => Zdl K a1 = some r) (shx := fun v => ⟨[(1, (.str a1)), (4, (.ptr 4 0))], [(4, (.box [(.str []), (.int .i64 0), (.int .i64 0), (.int .i64 0)]))]⟩) (k := K) (v := 0) h ?_ ?_
 ·intro v h
  try dsimp only at h ⊢
  unfold Zdl at h
  refine Zj <| Zl <| Zd <| Z2 I (Zn (v := (.str a1)) I I) I <| Z2 I (Z29 (vs := [(0, (.str a1))]) (cs := [(.str a1), (.int .i64 0), (.int .i64 0), (.int .i64 0)]) I st68 ⟨rfl, rfl, trivial⟩ I) I <| Z2 I (Z1a (cs := [(.str []), (.int .i64 0), (.int .i64 0), (.int .i64 0)]) (vs := [(.str a1), (.int .i64 0), (.int .i64 0), (.int .i64 0)]) (ds := [(.str a1), (.int .i64 0), (.int .i64 0), (.int .i64 0)]) (v := (.ag [(.str a1), (.int .i64 0), (.int .i64 0), (.int .i64 0)])) sz68 I I I I I I I I) I <| Zi <| Zj ?_
  refine Z1g ?_
  have h := Option.some.inj h
  subst h
  refine (hret _ ?_).1
  exact ⟨[(.ag [(.str a1), (.int .i64 0), (.int .i64 0), (.int .i64 0)])], ⟨⟨4, _, rfl, rfl, .inr ⟨_, a68, rfl, rfl⟩⟩, trivial⟩, rfl, trivial⟩
 ·intro N k2 v h IH2 J2
  revert h
  revert v
  intro v1 h
  try dsimp only at h IH2 J2 ⊢
  cases k2 with
  | zero => cases h
  | succ k2 =>
   rw [Zb8] at h
   refine Zl <| Zl <| Zd <| Z2 I (Zn (v := (.int .i64 v1)) I I) I <| Z2 I (Zu (m := 2) (o := 0) I Z5v I I) I <| Z2 I (Zz (cs := (Za a0).cells) (v := (.sl 4 (a0.Services.map Z3) false)) I o41 I I I) I <| Z2 I (Z23 (l := a0.Services) (enc := Z3) I s41 I) I <| Z2 I (Z1y (k := .i64) (a := v1) (b := (a0.Services.length : Int)) (c := (decide (v1 < (a0.Services.length : Int)))) I I I I) I ?_
   refine Zi <| Zj ?_
   have hif := Z21 h
   refine Z18 I (fun hc => ?_) (fun hc => ?_)
   ·have h := hif.1 hc
    refine Z1b <| Zj <| Zl <| AWp.block <| Zl <| Zd <| Z2 I (Zu (m := 2) (o := 0) I Z5v I I) I <| Z2 I (Zz (cs := (Za a0).cells) (v := (.sl 4 (a0.Services.map Z3) false)) I o41 I I I) I ?_
    refine Z2 I (Zn (v := (.int .i64 v1)) I I) I ?_
    have ⟨hg6, h⟩ := Z14 h
    refine Z2 I (Z1s (k := .i64) (l := a0.Services) (enc := Z3) (z := Zg) (n := v1) (cs := (Z3 (a0.Services.getD v1.toNat Zg)).cells) (full := false) I s41 I I hg6 I) I <| Z2 I (Z2d (cs := (Z3 (a0.Services.getD v1.toNat Zg)).cells) (ds := (Z3 (a0.Services.getD v1.toNat Zg)).cells) I Zcl I I I) I <| Z2 I (Z24 (cs := (Z3 (a0.Services.getD v1.toNat Zg)).cells) (v := (.str (a0.Services.getD v1.toNat Zg).Name)) I o9 I I) I <| Z2 I (Zn (v := (.str a1)) I I) I <| Z2 I (Z3n (a := (a0.Services.getD v1.toNat Zg).Name) (b := a1) (c := ((a0.Services.getD v1.toNat Zg).Name == a1)) I I I I) I <| Zi <| Zj ?_
    have hif := Z21 h
    refine Z18 I (fun hc => ?_) (fun hc => ?_)
    ·have h := hif.1 hc
     refine Zl <| Zd <| Z2 I (Zu (m := 2) (o := 0) I Z5v I I) I <| Z2 I (Zz (cs := (Za a0).cells) (v := (.sl 4 (a0.Services.map Z3) false)) I o41 I I I) I <| Z2 I (Zn (v := (.int .i64 v1)) I I) I ?_
     have ⟨hg7, h⟩ := Z14 h
     refine Z2 I (Z1s (k := .i64) (l := a0.Services) (enc := Z3) (z := Zg) (n := v1) (cs := (Z3 (a0.Services.getD v1.toNat Zg)).cells) (full := false) I s41 I I hg7 I) I <| Z2 I (Z2i (cs := (Z3 (a0.Services.getD v1.toNat Zg)).cells) (vs := (Z3 (a0.Services.getD v1.toNat Zg)).cells) I a68 I I I) I <| Z2 I (Z1a (cs := [(.str []), (.int .i64 0), (.int .i64 0), (.int .i64 0)]) (vs := (Z3 (a0.Services.getD v1.toNat Zg)).cells) (ds := (Z3 (a0.Services.getD v1.toNat Zg)).cells) (v := (Z3 (a0.Services.getD v1.toNat Zg))) sz68 I I I I I I I I) I <| Zi <| Zj <| Z1g <| At.overR <| Z1o ?_
     refine Z1o (At.overR ?_)
     refine Z1o ?_
     have h := Option.some.inj h
     subst h
     refine (hret _ ?_).1
     exact ⟨[(Z3 (a0.Services.getD v1.toNat Zg))], ⟨⟨4, _, rfl, rfl, .inr ⟨_, a68, rfl, rfl⟩⟩, trivial⟩, rfl, trivial⟩
    ·have h := hif.2 hc
     refine Z1b <| At.end <| Zj <| Zd <| Z2 I (Zn (v := (.int .i64 v1)) I I) I <| Z2 I (Z1m (k := .i64) (a := v1) (b := 1) (c := (IntKind.i64.wrap (v1 + 1))) I I I I) I <| Z2 I (Zq (v := (.int .i64 (IntKind.i64.wrap (v1 + 1)))) I I) I <| Zi ?_
     exact Z11 (st' := ⟨[(1, (.str a1)), (2, (.ptr 2 0)), (4, (.ptr 4 0)), (5, (.int .i64 (IntKind.i64.wrap (v1 + 1))))], [(2, (.box (Za a0).cells)), (4, (.box [(.str []), (.int .i64 0), (.int .i64 0), (.int .i64 0)]))]⟩) ⟨rfl, rfl, rfl, rfl, trivial⟩ ⟨rfl, rfl, trivial⟩ (IH2 _ (IntKind.i64.wrap (v1 + 1)) (Nat.lt_succ_self _) h)
   ·have h := hif.2 hc
    refine AWp.exit <| At.thru ?_
    exact Z11 (st' := ⟨[(1, (.str a1)), (4, (.ptr 4 0))], [(4, (.box [(.str []), (.int .i64 0), (.int .i64 0), (.int .i64 0)]))]⟩) ⟨rfl, rfl, trivial⟩ ⟨rfl, trivial⟩ (J2 () h)
def Zbt (K : Nat) (v3 : Int) (a0 : Ze) (a1 : Zc) (v8 : (List Zc)) : Option (Ze) :=
 if (0 : Int) ≤ 0 ∧ 0 ≤ v3 ∧ v3 ≤ a0.Services.length then
  if ([] : List Zc).length + (a0.Services.take v3.toNat).length ≤ 1073741824 then
   if (a0.Services.take v3.toNat).length + [a1].length ≤ 1073741824 then
    if ((a0.Services.take v3.toNat) ++ [a1]).length + v8.length ≤ 1073741824 then
     some (⟨(((a0.Services.take v3.toNat) ++ [a1]) ++ v8), a0.Calls⟩ : Ze)
    else none
   else none
  else none
 else none
def Zca (K : Nat) (a0 : Ze) (a1 : Zc) (v3 : Int) : Option (Ze) :=
 if (0 : Int) ≤ v3 ∧ v3 ≤ (a0.Services.length : Int) ∧ (a0.Services.length : Int) ≤ a0.Services.length then
  if (decide (((a0.Services.drop v3.toNat).length : Int) > 0)) = true then
   if (0 : Int) ≤ 0 ∧ (0 : Int) < (a0.Services.drop v3.toNat).length then
    if (((a0.Services.drop v3.toNat).getD (0 : Int).toNat Zg).Name == a1.Name) = true then
     if (0 : Int) ≤ 1 ∧ 1 ≤ ((a0.Services.drop v3.toNat).length : Int) ∧ ((a0.Services.drop v3.toNat).length : Int) ≤ (a0.Services.drop v3.toNat).length then
      Zbt K v3 a0 a1 ((a0.Services.drop v3.toNat).drop (1 : Int).toNat)
     else none
    else
     Zbt K v3 a0 a1 (a0.Services.drop v3.toNat)
   else none
  else
   if (0 : Int) ≤ 0 ∧ 0 ≤ v3 ∧ v3 ≤ a0.Services.length then
    if ([] : List Zc).length + (a0.Services.take v3.toNat).length ≤ 1073741824 then
     if (a0.Services.take v3.toNat).length + [a1].length ≤ 1073741824 then
      if ((a0.Services.take v3.toNat) ++ [a1]).length + (a0.Services.drop v3.toNat).length ≤ 1073741824 then
       some (⟨(((a0.Services.take v3.toNat) ++ [a1]) ++ (a0.Services.drop v3.toNat)), a0.Calls⟩ : Ze)
      else none
     else none
    else none
   else none
 else none
def Z9t (K : Nat) (a0 : Ze) (a1 : Zc) (c5 : Int → Option (Ze)) : Nat → Int → Option (Ze)
 | 0, _ => none
 | k2 + 1, v1 =>
  if (decide (v1 < (a0.Services.length : Int))) = true then
   if (0 : Int) ≤ v1 ∧ v1 < a0.Services.length then
    if (slt (a0.Services.getD v1.toNat Zg).Name a1.Name) = true then
     (Z9t K a0 a1 c5 k2) (IntKind.i64.wrap (v1 + 1))
    else
     c5 v1
   else none
  else
   c5 v1
def F53 (K : Nat) (a0 : Ze) (a1 : Zc) : Option (Ze) :=
 Z9t K a0 a1 (Zca K a0 a1) K 0
theorem F53_ok (K : Nat) (a0 : Ze) (a1 : Zc) (r : Ze) (h : F53 K a0 a1 = some r) : ACall P 53 ⟨[(Za a0), (Z3 a1)], [], (Za r), [], []⟩ := by
 refine Z1v Tryz.func53 Tryz.results53 rfl Tryz.ntmps53 rfl rfl rfl ?_
 intro E Q hP hN hro hret
 obtain ⟨P', nt', w0, F0, p0, S0, β0, ro0⟩ := E
 simp only at hP hN
 subst hP hN
 dsimp only [argT]
 unfold F53 at h
 refine Zl <| Zd <| Z2 I (Z2s (v := (Za a0)) (cs := (Za a0).cells) I I I I I) I <| Z2 I (Z2s (v := (Z3 a1)) (cs := (Z3 a1).cells) I I I I I) I <| Z2 I (Z1x (cs := [(.sl 4 [] false), (.sl 5 [] false)]) I z44 I I I) I <| Zi <| Zj <| Zl ?_
 refine Zd <| Z2 I (Zq (v := (.int .i64 0)) I I) I <| Zi <| Zj <| Zl <| AWp.weaken (st' := ⟨[(2, (.ptr 2 0)), (3, (.ptr 3 0)), (4, (.ptr 4 0)), (5, (.int .i64 0))], [(2, (.box (Za a0).cells)), (3, (.box (Z3 a1).cells)), (4, (.box [(.sl 4 [] false), (.sl 5 [] false)]))]⟩) ⟨rfl, rfl, rfl, rfl, trivial⟩ ⟨rfl, rfl, rfl, trivial⟩ ?_
 refine Z1l (V := Int) (X := Int) (lp := fun k v => Z9t K a0 a1 (Zca K a0 a1) k v = some r) (sh := fun v => ⟨[(2, (.ptr 2 0)), (3, (.ptr 3 0)), (4, (.ptr 4 0)), (5, (.int .i64 v))], [(2, (.box (Za a0).cells)), (3, (.box (Z3 a1).cells)), (4, (.box [(.sl 4 [] false), (.sl 5 [] false)]))]⟩) (x := fun v => Zca K a0 a1 v = some r) (shx := fun v => ⟨[(2, (.ptr 2 0)), (3, (.ptr 3 0)), (4, (.ptr 4 0)), (5, (.int .i64 v))], [(2, (.box (Za a0).cells)), (3, (.box (Z3 a1).cells)), (4, (.box [(.sl 4 [] false), (.sl 5 [] false)]))]⟩) (k := K) (v := 0) h ?_ ?_
 ·intro v h
  revert h
  revert v
  intro v3 h
  try dsimp only at h ⊢
  unfold Zca at h
  refine Zj <| Zl <| Zd <| Z2 I (Zu (m := 2) (o := 0) I Z5v I I) I <| Z2 I (Zz (cs := (Za a0).cells) (v := (.sl 4 (a0.Services.map Z3) false)) I o41 I I I) I <| Z2 I (Zn (v := (.int .i64 v3)) I I) I ?_
  have ⟨hg6, h⟩ := Z14 h
  refine Z2 I (Z7f (l := a0.Services) (enc := Z3) (kl := .i64) (lo := v3) I s41 I I hg6) I <| Z2 I (Zq (v := (.sl 4 ((a0.Services.drop v3.toNat).map Z3) false)) I I) I <| Zi <| Zj <| Zl <| Zl <| Z1u mixed <| Z8 0 I (Zn (v := (.sl 4 ((a0.Services.drop v3.toNat).map Z3) false)) I I) ?_
  refine Z8 1 I (Z23 (l := (a0.Services.drop v3.toNat)) (enc := Z3) I s41 I) <| Z8 2 I (Z1y (k := .i64) (a := ((a0.Services.drop v3.toNat).length : Int)) (b := 0) (c := (decide (((a0.Services.drop v3.toNat).length : Int) > 0))) I I I I) <| Z8 3 I (Zn (v := (.bool (decide (((a0.Services.drop v3.toNat).length : Int) > 0)))) I I) ?_
  have hif := Z21 h
  refine AOpsD.split (fun hc => ?_) (fun hc => ?_)
  ·have h := hif.1 hc
   refine Zx 4 I I I I (Zn (v := (.sl 4 ((a0.Services.drop v3.toNat).map Z3) false)) I I) ?_
   have ⟨hg7, h⟩ := Z14 h
   refine Zx 5 I I I I (Z1s (k := .i64) (l := (a0.Services.drop v3.toNat)) (enc := Z3) (z := Zg) (n := 0) (cs := (Z3 ((a0.Services.drop v3.toNat).getD (0 : Int).toNat Zg)).cells) (full := false) I s41 I I hg7 I) <| Zx 6 I I I I (Z2d (cs := (Z3 ((a0.Services.drop v3.toNat).getD (0 : Int).toNat Zg)).cells) (ds := (Z3 ((a0.Services.drop v3.toNat).getD (0 : Int).toNat Zg)).cells) I Zcl I I I) <| Zx 7 I I I I (Z24 (cs := (Z3 ((a0.Services.drop v3.toNat).getD (0 : Int).toNat Zg)).cells) (v := (.str ((a0.Services.drop v3.toNat).getD (0 : Int).toNat Zg).Name)) I o9 I I) <| Zx 8 I I I I (Zu (m := 3) (o := 0) I Zcl I I) <| Zx 9 I I I I (Zz (cs := (Z3 a1).cells) (v := (.str a1.Name)) I o9 I I I) <| Zx 10 I I I I (Z3n (a := ((a0.Services.drop v3.toNat).getD (0 : Int).toNat Zg).Name) (b := a1.Name) (c := (((a0.Services.drop v3.toNat).getD (0 : Int).toNat Zg).Name == a1.Name)) I I I I) <| Z8 11 I (Z2f (v := (.bool (((a0.Services.drop v3.toNat).getD (0 : Int).toNat Zg).Name == a1.Name))) I I I) <| Z1q (by kernel_rfl) I ?_
   refine Zj ?_
   refine AWp.join (V := (List Zc)) (lp := fun v => Zbt K v3 a0 a1 v = some r) (sh := fun v => ⟨[(2, (.ptr 2 0)), (3, (.ptr 3 0)), (4, (.ptr 4 0)), (5, (.int .i64 v3)), (6, (.sl 4 (v.map Z3) false))], [(2, (.box (Za a0).cells)), (3, (.box (Z3 a1).cells)), (4, (.box [(.sl 4 [] false), (.sl 5 [] false)]))]⟩) ?_ ?_
   ·intro v h
    revert h
    revert v
    intro v8 h
    try dsimp only at h ⊢
    unfold Zbt at h
    refine Zj <| Zl <| Z1u mixed <| Z8 0 I (Z1j (vs := []) (enc := Z3) (l := ([] : List Zc)) I el41 I I trivial I Z1z I I I I) <| Z8 1 I (Zu (m := 2) (o := 0) I Z5v I I) <| Z8 2 I (Zz (cs := (Za a0).cells) (v := (.sl 4 (a0.Services.map Z3) false)) I o41 I I I) <| Z8 3 I (Zn (v := (.int .i64 v3)) I I) ?_
    have ⟨hg10, h⟩ := Z14 h
    refine Z8 4 I (Z98 (l := a0.Services) (enc := Z3) (kh := .i64) (hi := v3) I s41 I I hg10) ?_
    have ⟨hg11, h⟩ := Z14 h
    refine Z8 5 I (Z2l (m := 43) (enc := Z3) (l := ([] : List Zc)) (l' := (a0.Services.take v3.toNat)) (src := (.sl 4 ((a0.Services.take v3.toNat).map Z3) false)) (rd := []) I I el41 I u41 I I I ⟨rfl, rfl, rfl⟩ noReads Z1z hg11) <| Z8 6 I (Z1k (cs := (Z3 a1).cells) (vs := (Z3 a1).cells) I a68 I I I I) <| Z8 7 I (Z1j (vs := [(Z3 a1)]) (enc := Z3) (l := [a1]) I el41 I I ⟨rfl, trivial⟩ I Z1z I I I I) ?_
    have ⟨hg12, h⟩ := Z14 h
    refine Z8 8 I (Z2l (m := 43) (enc := Z3) (l := (a0.Services.take v3.toNat)) (l' := [a1]) (src := (.vs 50)) (rd := [(50, (.vec 4 (List.map Z3 [a1])))]) I I el41 I u41 I I I I (oneRead I) Z1z hg12) <| Z8 9 I (Zn (v := (.sl 4 (v8.map Z3) false)) I I) ?_
    have ⟨hg13, h⟩ := Z14 h
    refine Z8 10 I (Z2l (m := 43) (enc := Z3) (l := ((a0.Services.take v3.toNat) ++ [a1])) (l' := v8) (src := (.sl 4 (v8.map Z3) false)) (rd := []) I I el41 I u41 I I I ⟨rfl, rfl, rfl⟩ noReads Z1z hg13) <| Z8 11 I (Zu (m := 2) (o := 0) I Z5v I I) <| Z8 12 I (Z1a (cs := (Za a0).cells) (vs := [(.vs 43)]) (ds := [(.vs 43), (.sl 5 (a0.Calls.map Z6) false)]) (v := (.vs 43)) sz41 I I I I I I I I) <| Z1q (by kernel_rfl) I <| Zj <| Zl <| Zd <| Z2 I (Z1k (cs := [(.vs 43), (.sl 5 (a0.Calls.map Z6) false)]) (vs := [(.vs 43), (.sl 5 (a0.Calls.map Z6) false)]) I a44 I I I I) I ?_
    refine Z2 I (Z1a (cs := [(.sl 4 [] false), (.sl 5 [] false)]) (vs := [(.vs 43), (.sl 5 (a0.Calls.map Z6) false)]) (ds := [(.vs 43), (.sl 5 (a0.Calls.map Z6) false)]) (v := (.ag [(.vs 43), (.sl 5 (a0.Calls.map Z6) false)])) sz44 I I I I I I I I) I <| Zi <| Zj <| Z1g <| At.ghost (st' := ⟨[(4, (.ptr 4 0))], [(4, (.box [(.sl 4 ((((a0.Services.take v3.toNat) ++ [a1]) ++ v8).map Z3) false), (.sl 5 (a0.Calls.map Z6) false)]))]⟩) (fun a w h => (Z1d ⟨[(4, (.ptr 4 0))], [(4, (.box [(.sl 4 ((((a0.Services.take v3.toNat) ++ [a1]) ++ v8).map Z3) false), (.sl 5 (a0.Calls.map Z6) false)]))]⟩ (Z2c (m := 43) (sz := 4) (es := (List.map Z3 (((a0.Services.take v3.toNat) ++ [a1]) ++ v8))) a w (Z1d ⟨[(4, (.ptr 4 0))], [(43, (.vec 4 (List.map Z3 (((a0.Services.take v3.toNat) ++ [a1]) ++ v8)))), (4, (.box [(.vs 43), (.sl 5 (a0.Calls.map Z6) false)]))]⟩ h ⟨rfl, trivial⟩ ⟨rfl, rfl, trivial⟩)) ⟨rfl, trivial⟩ ⟨rfl, trivial⟩)) ?_
    have h := Option.some.inj h
    subst h
    refine (hret _ ?_).1
    exact ⟨[(.ag [(.sl 4 ((((a0.Services.take v3.toNat) ++ [a1]) ++ v8).map Z3) false), (.sl 5 (a0.Calls.map Z6) false)])], ⟨⟨4, _, rfl, rfl, .inr ⟨_, a44, rfl, rfl⟩⟩, trivial⟩, rfl, trivial⟩
   ·intro J9
    have hif := Z21 h
    refine Z18 I (fun hc => ?_) (fun hc => ?_)
    ·have h := hif.1 hc
     refine Zd <| Z2 I (Zn (v := (.sl 4 ((a0.Services.drop v3.toNat).map Z3) false)) I I) I ?_
     have ⟨hg14, h⟩ := Z14 h
     refine Z2 I (Z7f (l := (a0.Services.drop v3.toNat)) (enc := Z3) (kl := .i64) (lo := 1) I s41 I I hg14) I <| Z2 I (Zq (v := (.sl 4 (((a0.Services.drop v3.toNat).drop (1 : Int).toNat).map Z3) false)) I I) I <| Zi ?_
     exact Z11 (st' := ⟨[(2, (.ptr 2 0)), (3, (.ptr 3 0)), (4, (.ptr 4 0)), (5, (.int .i64 v3)), (6, (.sl 4 (((a0.Services.drop v3.toNat).drop (1 : Int).toNat).map Z3) false))], [(2, (.box (Za a0).cells)), (3, (.box (Z3 a1).cells)), (4, (.box [(.sl 4 [] false), (.sl 5 [] false)]))]⟩) ⟨rfl, rfl, rfl, rfl, rfl, trivial⟩ ⟨rfl, rfl, rfl, trivial⟩ (J9 ((a0.Services.drop v3.toNat).drop (1 : Int).toNat) h)
    ·have h := hif.2 hc
     refine Z1b ?_
     exact Z11 (st' := ⟨[(2, (.ptr 2 0)), (3, (.ptr 3 0)), (4, (.ptr 4 0)), (5, (.int .i64 v3)), (6, (.sl 4 ((a0.Services.drop v3.toNat).map Z3) false))], [(2, (.box (Za a0).cells)), (3, (.box (Z3 a1).cells)), (4, (.box [(.sl 4 [] false), (.sl 5 [] false)]))]⟩) ⟨rfl, rfl, rfl, rfl, rfl, trivial⟩ ⟨rfl, rfl, rfl, trivial⟩ (J9 (a0.Services.drop v3.toNat) h)
  ·have h := hif.2 hc
   refine Zr 4 I I I I I I I <| Zr 5 I I I I I I I <| Zr 6 I I I I I I I <| Zr 7 I I I I I I I <| Zr 8 I I I I I I I <| Zr 9 I I I I I I I <| Zr 10 I I I I I I I <| Z8 11 I (Z20 (v := (.bool false)) I I I) ?_
   refine Z1q (by kernel_rfl) I <| Zj ?_
   refine Z18 (b := false) I (fun hc => ?_) (fun hc => ?_)
   ·cases hc
   refine Z1b <| Zj <| Zl <| Z1u mixed <| Z8 0 I (Z1j (vs := []) (enc := Z3) (l := ([] : List Zc)) I el41 I I trivial I Z1z I I I I) <| Z8 1 I (Zu (m := 2) (o := 0) I Z5v I I) <| Z8 2 I (Zz (cs := (Za a0).cells) (v := (.sl 4 (a0.Services.map Z3) false)) I o41 I I I) <| Z8 3 I (Zn (v := (.int .i64 v3)) I I) ?_
   have ⟨hg15, h⟩ := Z14 h
   refine Z8 4 I (Z98 (l := a0.Services) (enc := Z3) (kh := .i64) (hi := v3) I s41 I I hg15) ?_
   have ⟨hg16, h⟩ := Z14 h
   refine Z8 5 I (Z2l (m := 43) (enc := Z3) (l := ([] : List Zc)) (l' := (a0.Services.take v3.toNat)) (src := (.sl 4 ((a0.Services.take v3.toNat).map Z3) false)) (rd := []) I I el41 I u41 I I I ⟨rfl, rfl, rfl⟩ noReads Z1z hg16) <| Z8 6 I (Z1k (cs := (Z3 a1).cells) (vs := (Z3 a1).cells) I a68 I I I I) <| Z8 7 I (Z1j (vs := [(Z3 a1)]) (enc := Z3) (l := [a1]) I el41 I I ⟨rfl, trivial⟩ I Z1z I I I I) ?_
   have ⟨hg17, h⟩ := Z14 h
   refine Z8 8 I (Z2l (m := 43) (enc := Z3) (l := (a0.Services.take v3.toNat)) (l' := [a1]) (src := (.vs 50)) (rd := [(50, (.vec 4 (List.map Z3 [a1])))]) I I el41 I u41 I I I I (oneRead I) Z1z hg17) <| Z8 9 I (Zn (v := (.sl 4 ((a0.Services.drop v3.toNat).map Z3) false)) I I) ?_
   have ⟨hg18, h⟩ := Z14 h
   refine Z8 10 I (Z2l (m := 43) (enc := Z3) (l := ((a0.Services.take v3.toNat) ++ [a1])) (l' := (a0.Services.drop v3.toNat)) (src := (.sl 4 ((a0.Services.drop v3.toNat).map Z3) false)) (rd := []) I I el41 I u41 I I I ⟨rfl, rfl, rfl⟩ noReads Z1z hg18) <| Z8 11 I (Zu (m := 2) (o := 0) I Z5v I I) <| Z8 12 I (Z1a (cs := (Za a0).cells) (vs := [(.vs 43)]) (ds := [(.vs 43), (.sl 5 (a0.Calls.map Z6) false)]) (v := (.vs 43)) sz41 I I I I I I I I) <| Z1q (by kernel_rfl) I <| Zj <| Zl <| Zd <| Z2 I (Z1k (cs := [(.vs 43), (.sl 5 (a0.Calls.map Z6) false)]) (vs := [(.vs 43), (.sl 5 (a0.Calls.map Z6) false)]) I a44 I I I I) I ?_
   refine Z2 I (Z1a (cs := [(.sl 4 [] false), (.sl 5 [] false)]) (vs := [(.vs 43), (.sl 5 (a0.Calls.map Z6) false)]) (ds := [(.vs 43), (.sl 5 (a0.Calls.map Z6) false)]) (v := (.ag [(.vs 43), (.sl 5 (a0.Calls.map Z6) false)])) sz44 I I I I I I I I) I <| Zi <| Zj <| Z1g <| At.ghost (st' := ⟨[(4, (.ptr 4 0))], [(4, (.box [(.sl 4 ((((a0.Services.take v3.toNat) ++ [a1]) ++ (a0.Services.drop v3.toNat)).map Z3) false), (.sl 5 (a0.Calls.map Z6) false)]))]⟩) (fun a w h => (Z1d ⟨[(4, (.ptr 4 0))], [(4, (.box [(.sl 4 ((((a0.Services.take v3.toNat) ++ [a1]) ++ (a0.Services.drop v3.toNat)).map Z3) false), (.sl 5 (a0.Calls.map Z6) false)]))]⟩ (Z2c (m := 43) (sz := 4) (es := (List.map Z3 (((a0.Services.take v3.toNat) ++ [a1]) ++ (a0.Services.drop v3.toNat)))) a w (Z1d ⟨[(4, (.ptr 4 0))], [(43, (.vec 4 (List.map Z3 (((a0.Services.take v3.toNat) ++ [a1]) ++ (a0.Services.drop v3.toNat))))), (4, (.box [(.vs 43), (.sl 5 (a0.Calls.map Z6) false)]))]⟩ h ⟨rfl, trivial⟩ ⟨rfl, rfl, trivial⟩)) ⟨rfl, trivial⟩ ⟨rfl, trivial⟩)) ?_
   have h := Option.some.inj h
   subst h
   refine (hret _ ?_).1
   exact ⟨[(.ag [(.sl 4 ((((a0.Services.take v3.toNat) ++ [a1]) ++ (a0.Services.drop v3.toNat)).map Z3) false), (.sl 5 (a0.Calls.map Z6) false)])], ⟨⟨4, _, rfl, rfl, .inr ⟨_, a44, rfl, rfl⟩⟩, trivial⟩, rfl, trivial⟩
 ·intro N k2 v h IH2 J2
  revert h
  revert v
  intro v1 h
  try dsimp only at h IH2 J2 ⊢
  cases k2 with
  | zero => cases h
  | succ k2 =>
   rw [Z9t] at h
   refine Zl <| Zl <| Z1u mixed <| Z8 0 I (Zn (v := (.int .i64 v1)) I I) <| Z8 1 I (Zu (m := 2) (o := 0) I Z5v I I) <| Z8 2 I (Zz (cs := (Za a0).cells) (v := (.sl 4 (a0.Services.map Z3) false)) I o41 I I I) <| Z8 3 I (Z23 (l := a0.Services) (enc := Z3) I s41 I) <| Z8 4 I (Z1y (k := .i64) (a := v1) (b := (a0.Services.length : Int)) (c := (decide (v1 < (a0.Services.length : Int)))) I I I I) ?_
   refine Z8 5 I (Zn (v := (.bool (decide (v1 < (a0.Services.length : Int))))) I I) ?_
   have hif := Z21 h
   refine AOpsD.split (fun hc => ?_) (fun hc => ?_)
   ·have h := hif.1 hc
    refine Zx 6 I I I I (Zu (m := 2) (o := 0) I Z5v I I) <| Zx 7 I I I I (Zz (cs := (Za a0).cells) (v := (.sl 4 (a0.Services.map Z3) false)) I o41 I I I) <| Zx 8 I I I I (Zn (v := (.int .i64 v1)) I I) ?_
    have ⟨hg20, h⟩ := Z14 h
    refine Zx 9 I I I I (Z1s (k := .i64) (l := a0.Services) (enc := Z3) (z := Zg) (n := v1) (cs := (Z3 (a0.Services.getD v1.toNat Zg)).cells) (full := false) I s41 I I hg20 I) <| Zx 10 I I I I (Z2d (cs := (Z3 (a0.Services.getD v1.toNat Zg)).cells) (ds := (Z3 (a0.Services.getD v1.toNat Zg)).cells) I Zcl I I I) <| Zx 11 I I I I (Z24 (cs := (Z3 (a0.Services.getD v1.toNat Zg)).cells) (v := (.str (a0.Services.getD v1.toNat Zg).Name)) I o9 I I) <| Zx 12 I I I I (Zu (m := 3) (o := 0) I Zcl I I) <| Zx 13 I I I I (Zz (cs := (Z3 a1).cells) (v := (.str a1.Name)) I o9 I I I) <| Zx 14 I I I I (Z3n (a := (a0.Services.getD v1.toNat Zg).Name) (b := a1.Name) (c := (slt (a0.Services.getD v1.toNat Zg).Name a1.Name)) I I I I) <| Z8 15 I (Z2f (v := (.bool (slt (a0.Services.getD v1.toNat Zg).Name a1.Name))) I I I) <| Z1q (by kernel_rfl) I ?_
    refine Zj ?_
    have hif := Z21 h
    refine Z18 I (fun hc => ?_) (fun hc => ?_)
    ·have h := hif.1 hc
     refine Z1b <| Zj <| AWp.block <| Zd <| Z2 I (Zn (v := (.int .i64 v1)) I I) I <| Z2 I (Z1m (k := .i64) (a := v1) (b := 1) (c := (IntKind.i64.wrap (v1 + 1))) I I I I) I <| Z2 I (Zq (v := (.int .i64 (IntKind.i64.wrap (v1 + 1)))) I I) I <| Zi ?_
     refine At.end ?_
     exact Z11 (st' := ⟨[(2, (.ptr 2 0)), (3, (.ptr 3 0)), (4, (.ptr 4 0)), (5, (.int .i64 (IntKind.i64.wrap (v1 + 1))))], [(2, (.box (Za a0).cells)), (3, (.box (Z3 a1).cells)), (4, (.box [(.sl 4 [] false), (.sl 5 [] false)]))]⟩) ⟨rfl, rfl, rfl, rfl, trivial⟩ ⟨rfl, rfl, rfl, trivial⟩ (IH2 _ (IntKind.i64.wrap (v1 + 1)) (Nat.lt_succ_self _) h)
    ·have h := hif.2 hc
     refine AWp.exit <| At.thru ?_
     exact Z11 (st' := ⟨[(2, (.ptr 2 0)), (3, (.ptr 3 0)), (4, (.ptr 4 0)), (5, (.int .i64 v1))], [(2, (.box (Za a0).cells)), (3, (.box (Z3 a1).cells)), (4, (.box [(.sl 4 [] false), (.sl 5 [] false)]))]⟩) ⟨rfl, rfl, rfl, rfl, trivial⟩ ⟨rfl, rfl, rfl, trivial⟩ (J2 v1 h)
   ·have h := hif.2 hc
    refine Zr 6 I I I I I I I <| Zr 7 I I I I I I I <| Zr 8 I I I I I I I <| Zr 9 I I I I I I I <| Zr 10 I I I I I I I <| Zr 11 I I I I I I I <| Zr 12 I I I I I I I <| Zr 13 I I I I I I I ?_
    refine Zr 14 I I I I I I I <| Z8 15 I (Z20 (v := (.bool false)) I I I) <| Z1q (by kernel_rfl) I <| Zj ?_
    refine Z18 (b := false) I (fun hc => ?_) (fun hc => ?_)
    ·cases hc
    refine AWp.exit <| At.thru ?_
    exact Z11 (st' := ⟨[(2, (.ptr 2 0)), (3, (.ptr 3 0)), (4, (.ptr 4 0)), (5, (.int .i64 v1))], [(2, (.box (Za a0).cells)), (3, (.box (Z3 a1).cells)), (4, (.box [(.sl 4 [] false), (.sl 5 [] false)]))]⟩) ⟨rfl, rfl, rfl, rfl, trivial⟩ ⟨rfl, rfl, rfl, trivial⟩ (J2 v1 h)
def Zbf (K : Nat) (a1 : Str) (a2 : Str) : Option (Zk) :=
 some (⟨a1, a2, 0, 0, 0⟩ : Zk)
def F54_j6 (K : Nat) (b5 : Int → Option (Zk)) (v1 : Int) : Option (Zk) :=
 b5 (IntKind.i64.wrap (v1 + 1))
def Z8x (K : Nat) (a0 : Ze) (a1 : Str) (a2 : Str) (c4 : Option (Zk)) : Nat → Int → Option (Zk)
 | 0, _ => none
 | k2 + 1, v1 =>
  if (decide (v1 < (a0.Calls.length : Int))) = true then
   if (0 : Int) ≤ v1 ∧ v1 < a0.Calls.length then
    if ((a0.Calls.getD v1.toNat Zf).Caller == a1) = true then
     if (0 : Int) ≤ v1 ∧ v1 < a0.Calls.length then
      if ((a0.Calls.getD v1.toNat Zf).Callee == a2) = true then
       if (0 : Int) ≤ v1 ∧ v1 < a0.Calls.length then
        some (a0.Calls.getD v1.toNat Zf)
       else none
      else
       F54_j6 K (Z8x K a0 a1 a2 c4 k2) v1
     else none
    else
     F54_j6 K (Z8x K a0 a1 a2 c4 k2) v1
   else none
  else
   c4
def F54 (K : Nat) (a0 : Ze) (a1 : Str) (a2 : Str) : Option (Zk) :=
 Z8x K a0 a1 a2 (Zbf K a1 a2) K 0
theorem F54_ok (K : Nat) (a0 : Ze) (a1 : Str) (a2 : Str) (r : Zk) (h : F54 K a0 a1 a2 = some r) : ACall P 54 ⟨[(Za a0), (.str a1), (.str a2)], [], (Z6 r), [], []⟩ := by
 refine Z1v Tryz.func54 Tryz.results54 rfl Tryz.ntmps54 rfl rfl rfl ?_
 intro E Q hP hN hro hret
 obtain ⟨P', nt', w0, F0, p0, S0, β0, ro0⟩ := E
 simp only at hP hN
 subst hP hN
 dsimp only [argT]
 unfold F54 at h
 refine Zl <| Zd <| Z2 I (Z2s (v := (Za a0)) (cs := (Za a0).cells) I I I I I) I <| Z2 I (Z1x (cs := [(.str []), (.str []), (.int .i64 0), (.int .i64 0), (.int .i64 0)]) I z88 I I I) I <| Zi <| Zj <| Zl <| Zl ?_
 refine Zd <| Z2 I (Zq (v := (.int .i64 0)) I I) I <| Zi <| Zj <| AWp.weaken (st' := ⟨[(1, (.str a1)), (2, (.str a2)), (3, (.ptr 3 0)), (6, (.ptr 6 0)), (7, (.int .i64 0))], [(3, (.box (Za a0).cells)), (6, (.box [(.str []), (.str []), (.int .i64 0), (.int .i64 0), (.int .i64 0)]))]⟩) ⟨rfl, rfl, rfl, rfl, rfl, trivial⟩ ⟨rfl, rfl, trivial⟩ ?_
 refine Z1l (V := Int) (X := Unit) (lp := fun k v => Z8x K a0 a1 a2 (Zbf K a1 a2) k v = some r) (sh := fun v => ⟨[(1, (.str a1)), (2, (.str a2)), (3, (.ptr 3 0)), (6, (.ptr 6 0)), (7, (.int .i64 v))], [(3, (.box (Za a0).cells)), (6, (.box [(.str []), (.str []), (.int .i64 0), (.int .i64 0), (.int .i64 0)]))]⟩) (x := fun v => Zbf K a1 a2 = some r) (shx := fun v => ⟨[(1, (.str a1)), (2, (.str a2)), (6, (.ptr 6 0))], [(6, (.box [(.str []), (.str []), (.int .i64 0), (.int .i64 0), (.int .i64 0)]))]⟩) (k := K) (v := 0) h ?_ ?_
 ·intro v h
  try dsimp only at h ⊢
  unfold Zbf at h
  refine Zj <| Zl <| Zd <| Z2 I (Zn (v := (.str a1)) I I) I <| Z2 I (Zn (v := (.str a2)) I I) I <| Z2 I (Z29 (vs := [(0, (.str a1)), (1, (.str a2))]) (cs := [(.str a1), (.str a2), (.int .i64 0), (.int .i64 0), (.int .i64 0)]) I st88 ⟨rfl, rfl, rfl, rfl, trivial⟩ I) I <| Z2 I (Z1a (cs := [(.str []), (.str []), (.int .i64 0), (.int .i64 0), (.int .i64 0)]) (vs := [(.str a1), (.str a2), (.int .i64 0), (.int .i64 0), (.int .i64 0)]) (ds := [(.str a1), (.str a2), (.int .i64 0), (.int .i64 0), (.int .i64 0)]) (v := (.ag [(.str a1), (.str a2), (.int .i64 0), (.int .i64 0), (.int .i64 0)])) sz88 I I I I I I I I) I <| Zi ?_
  refine Zj <| Z1g ?_
  have h := Option.some.inj h
  subst h
  refine (hret _ ?_).1
  exact ⟨[(.ag [(.str a1), (.str a2), (.int .i64 0), (.int .i64 0), (.int .i64 0)])], ⟨⟨6, _, rfl, rfl, .inr ⟨_, a88, rfl, rfl⟩⟩, trivial⟩, rfl, trivial⟩
 ·intro N k2 v h IH2 J2
  revert h
  revert v
  intro v1 h
  try dsimp only at h IH2 J2 ⊢
  cases k2 with
  | zero => cases h
  | succ k2 =>
   rw [Z8x] at h
   refine Zl <| Zl <| Zd <| Z2 I (Zn (v := (.int .i64 v1)) I I) I <| Z2 I (Zu (m := 3) (o := 0) I Z5r I I) I <| Z2 I (Zz (cs := (Za a0).cells) (v := (.sl 5 (a0.Calls.map Z6) false)) I o42 I I I) I <| Z2 I (Z23 (l := a0.Calls) (enc := Z6) I s42 I) I <| Z2 I (Z1y (k := .i64) (a := v1) (b := (a0.Calls.length : Int)) (c := (decide (v1 < (a0.Calls.length : Int)))) I I I I) I ?_
   refine Zi <| Zj ?_
   have hif := Z21 h
   refine Z18 I (fun hc => ?_) (fun hc => ?_)
   ·have h := hif.1 hc
    refine Z1b <| Zj <| Zl ?_
    refine AWp.blockJoin (V := Unit) (lp := fun v => F54_j6 K (Z8x K a0 a1 a2 (Zbf K a1 a2) k2) v1 = some r) (sh := fun v => ⟨[(1, (.str a1)), (2, (.str a2)), (3, (.ptr 3 0)), (6, (.ptr 6 0)), (7, (.int .i64 v1))], [(3, (.box (Za a0).cells)), (6, (.box [(.str []), (.str []), (.int .i64 0), (.int .i64 0), (.int .i64 0)]))]⟩) ?_ ?_
    ·intro v h
     try dsimp only at h ⊢
     unfold F54_j6 at h
     refine Zj <| Zd <| Z2 I (Zn (v := (.int .i64 v1)) I I) I <| Z2 I (Z1m (k := .i64) (a := v1) (b := 1) (c := (IntKind.i64.wrap (v1 + 1))) I I I I) I <| Z2 I (Zq (v := (.int .i64 (IntKind.i64.wrap (v1 + 1)))) I I) I <| Zi ?_
     exact Z11 (st' := ⟨[(1, (.str a1)), (2, (.str a2)), (3, (.ptr 3 0)), (6, (.ptr 6 0)), (7, (.int .i64 (IntKind.i64.wrap (v1 + 1))))], [(3, (.box (Za a0).cells)), (6, (.box [(.str []), (.str []), (.int .i64 0), (.int .i64 0), (.int .i64 0)]))]⟩) ⟨rfl, rfl, rfl, rfl, rfl, trivial⟩ ⟨rfl, rfl, trivial⟩ (IH2 _ (IntKind.i64.wrap (v1 + 1)) (Nat.lt_succ_self _) h)
    ·intro J6
     refine Zl <| Zd <| Z2 I (Zu (m := 3) (o := 0) I Z5r I I) I <| Z2 I (Zz (cs := (Za a0).cells) (v := (.sl 5 (a0.Calls.map Z6) false)) I o42 I I I) I <| Z2 I (Zn (v := (.int .i64 v1)) I I) I ?_
     have ⟨hg7, h⟩ := Z14 h
     refine Z2 I (Z1s (k := .i64) (l := a0.Calls) (enc := Z6) (z := Zf) (n := v1) (cs := (Z6 (a0.Calls.getD v1.toNat Zf)).cells) (full := false) I s42 I I hg7 I) I <| Z2 I (Z2d (cs := (Z6 (a0.Calls.getD v1.toNat Zf)).cells) (ds := (Z6 (a0.Calls.getD v1.toNat Zf)).cells) I f88_0 I I I) I <| Z2 I (Z24 (cs := (Z6 (a0.Calls.getD v1.toNat Zf)).cells) (v := (.str (a0.Calls.getD v1.toNat Zf).Caller)) I o9 I I) I <| Z2 I (Zn (v := (.str a1)) I I) I <| Z2 I (Z3n (a := (a0.Calls.getD v1.toNat Zf).Caller) (b := a1) (c := ((a0.Calls.getD v1.toNat Zf).Caller == a1)) I I I I) I <| Z2 I (Zn (v := (.bool ((a0.Calls.getD v1.toNat Zf).Caller == a1))) I I) I ?_
     have hif := Z21 h
     refine AOps.split (fun hc => ?_) (fun hc => ?_)
     ·have h := hif.1 hc
      refine Z17 I I I I (Zu (m := 3) (o := 0) I Z5r I I) I <| Z17 I I I I (Zz (cs := (Za a0).cells) (v := (.sl 5 (a0.Calls.map Z6) false)) I o42 I I I) I <| Z17 I I I I (Zn (v := (.int .i64 v1)) I I) I ?_
      have ⟨hg8, h⟩ := Z14 h
      refine Z17 I I I I (Z1s (k := .i64) (l := a0.Calls) (enc := Z6) (z := Zf) (n := v1) (cs := (Z6 (a0.Calls.getD v1.toNat Zf)).cells) (full := false) I s42 I I hg8 I) I <| Z17 I I I I (Z2d (cs := (Z6 (a0.Calls.getD v1.toNat Zf)).cells) (ds := [(.str (a0.Calls.getD v1.toNat Zf).Callee), (.int .i64 (a0.Calls.getD v1.toNat Zf).Count), (.int .i64 (a0.Calls.getD v1.toNat Zf).Errors), (.int .i64 (a0.Calls.getD v1.toNat Zf).Time)]) I f88_1 I I I) I <| Z17 I I I I (Z24 (cs := [(.str (a0.Calls.getD v1.toNat Zf).Callee), (.int .i64 (a0.Calls.getD v1.toNat Zf).Count), (.int .i64 (a0.Calls.getD v1.toNat Zf).Errors), (.int .i64 (a0.Calls.getD v1.toNat Zf).Time)]) (v := (.str (a0.Calls.getD v1.toNat Zf).Callee)) I o9 I I) I <| Z17 I I I I (Zn (v := (.str a2)) I I) I <| Z17 I I I I (Z3n (a := (a0.Calls.getD v1.toNat Zf).Callee) (b := a2) (c := ((a0.Calls.getD v1.toNat Zf).Callee == a2)) I I I I) I <| Z2 I (Z2f (v := (.bool ((a0.Calls.getD v1.toNat Zf).Callee == a2))) I I I) I <| Zi <| Zj ?_
      have hif := Z21 h
      refine Z18 I (fun hc => ?_) (fun hc => ?_)
      ·have h := hif.1 hc
       refine Zl <| Zd <| Z2 I (Zu (m := 3) (o := 0) I Z5r I I) I <| Z2 I (Zz (cs := (Za a0).cells) (v := (.sl 5 (a0.Calls.map Z6) false)) I o42 I I I) I <| Z2 I (Zn (v := (.int .i64 v1)) I I) I ?_
       have ⟨hg9, h⟩ := Z14 h
       refine Z2 I (Z1s (k := .i64) (l := a0.Calls) (enc := Z6) (z := Zf) (n := v1) (cs := (Z6 (a0.Calls.getD v1.toNat Zf)).cells) (full := false) I s42 I I hg9 I) I <| Z2 I (Z2i (cs := (Z6 (a0.Calls.getD v1.toNat Zf)).cells) (vs := (Z6 (a0.Calls.getD v1.toNat Zf)).cells) I a88 I I I) I <| Z2 I (Z1a (cs := [(.str []), (.str []), (.int .i64 0), (.int .i64 0), (.int .i64 0)]) (vs := (Z6 (a0.Calls.getD v1.toNat Zf)).cells) (ds := (Z6 (a0.Calls.getD v1.toNat Zf)).cells) (v := (Z6 (a0.Calls.getD v1.toNat Zf))) sz88 I I I I I I I I) I <| Zi <| Zj <| Z1g <| At.overR <| Z1o ?_
       refine Z1o (At.overR ?_)
       refine Z1o ?_
       have h := Option.some.inj h
       subst h
       refine (hret _ ?_).1
       exact ⟨[(Z6 (a0.Calls.getD v1.toNat Zf))], ⟨⟨6, _, rfl, rfl, .inr ⟨_, a88, rfl, rfl⟩⟩, trivial⟩, rfl, trivial⟩
      ·have h := hif.2 hc
       refine Z1b <| At.end ?_
       exact Z11 (st' := ⟨[(1, (.str a1)), (2, (.str a2)), (3, (.ptr 3 0)), (6, (.ptr 6 0)), (7, (.int .i64 v1))], [(3, (.box (Za a0).cells)), (6, (.box [(.str []), (.str []), (.int .i64 0), (.int .i64 0), (.int .i64 0)]))]⟩) ⟨rfl, rfl, rfl, rfl, rfl, trivial⟩ ⟨rfl, rfl, trivial⟩ (J6 () h)
     ·have h := hif.2 hc
      refine Z13 I I I I I I I <| Z13 I I I I I I I <| Z13 I I I I I I I <| Z13 I I I I I I I <| Z13 I I I I I I I <| Z13 I I I I I I I <| Z13 I I I I I I I <| Z13 I I I I I I I ?_
      refine Z2 I (Z20 (v := (.bool false)) I I I) I <| Zi <| Zj ?_
      refine Z18 (b := false) I (fun hc => ?_) (fun hc => ?_)
      ·cases hc
      refine Z1b <| At.end ?_
      exact Z11 (st' := ⟨[(1, (.str a1)), (2, (.str a2)), (3, (.ptr 3 0)), (6, (.ptr 6 0)), (7, (.int .i64 v1))], [(3, (.box (Za a0).cells)), (6, (.box [(.str []), (.str []), (.int .i64 0), (.int .i64 0), (.int .i64 0)]))]⟩) ⟨rfl, rfl, rfl, rfl, rfl, trivial⟩ ⟨rfl, rfl, trivial⟩ (J6 () h)
   ·have h := hif.2 hc
    refine AWp.exit <| At.thru ?_
    exact Z11 (st' := ⟨[(1, (.str a1)), (2, (.str a2)), (6, (.ptr 6 0))], [(6, (.box [(.str []), (.str []), (.int .i64 0), (.int .i64 0), (.int .i64 0)]))]⟩) ⟨rfl, rfl, rfl, trivial⟩ ⟨rfl, trivial⟩ (J2 () h)
def Za7 (K : Nat) (v1 : Bool) : Option (Bool) :=
 some v1
def F71 (K : Nat) (a0 : Str) (a1 : Str) (a2 : Str) (a3 : Str) : Option (Bool) :=
 if (slt a0 a2) = true then
  Za7 K true
 else
  if (a0 == a2) = true then
   Za7 K (slt a1 a3)
  else
   Za7 K false
theorem F71_ok (K : Nat) (a0 : Str) (a1 : Str) (a2 : Str) (a3 : Str) (r : Bool) (h : F71 K a0 a1 a2 a3 = some r) : ACall P 71 ⟨[(.str a0), (.str a1), (.str a2), (.str a3)], [], (.bool r), [], []⟩ := by
 refine Z1v Tryz.func71 Tryz.results71 rfl Tryz.ntmps71 rfl rfl rfl ?_
 intro E Q hP hN hro hret
 obtain ⟨P', nt', w0, F0, p0, S0, β0, ro0⟩ := E
 simp only at hP hN
 subst hP hN
 dsimp only [argT]
 unfold F71 at h
 refine Zl <| Zd <| Z2 I (Zq (v := (.bool false)) I I) I <| Zi <| Zj <| Zl ?_
 refine AWp.join (V := Bool) (lp := fun v => Za7 K v = some r) (sh := fun v => ⟨[(8, (.bool v))], []⟩) ?_ ?_
 ·intro v h
  revert h
  revert v
  intro v1 h
  try dsimp only at h ⊢
  unfold Za7 at h
  refine Zj <| Z1g ?_
  have h := Option.some.inj h
  subst h
  refine (hret _ ?_).1
  exact ⟨[(.bool v1)], ⟨rfl, trivial⟩, rfl, trivial⟩
 ·intro J2
  refine Zd <| Z2 I (Zn (v := (.str a0)) I I) I <| Z2 I (Zn (v := (.str a2)) I I) I <| Z2 I (Z3n (a := a0) (b := a2) (c := (slt a0 a2)) I I I I) I <| Z2 I (Zn (v := (.bool (slt a0 a2))) I I) I ?_
  have hif := Z21 h
  refine AOps.split (fun hc => ?_) (fun hc => ?_)
  ·have h := hif.1 hc
   refine Z13 I I I I I I I <| Z13 I I I I I I I <| Z13 I I I I I I I <| Z13 I I I I I I I <| Z13 (u := .tup []) I I I I I I I <| Z13 (u := .tup []) I I I I I I I <| Z13 (u := .tup []) I I I I I I I <| Z13 I I I I I I I ?_
   refine Z2 I (Z2f (v := (.bool true)) I I I) I <| Z2 I (Zq (v := (.bool true)) I I) I <| Zi ?_
   exact Z11 (st' := ⟨[(8, (.bool true))], []⟩) ⟨rfl, trivial⟩ trivial (J2 true h)
  ·have h := hif.2 hc
   refine Z17 I I I I (Zn (v := (.str a0)) I I) I <| Z17 I I I I (Zn (v := (.str a2)) I I) I <| Z17 I I I I (Z3n (a := a0) (b := a2) (c := (a0 == a2)) I I I I) I <| Z17 I I I I (Zn (v := (.bool (a0 == a2))) I I) I ?_
   have hif := Z21 h
   refine AOps.split (fun hc => ?_) (fun hc => ?_)
   ·have h := hif.1 hc
    refine Z17 I I I I (Zn (v := (.str a1)) I I) I <| Z17 I I I I (Zn (v := (.str a3)) I I) I <| Z17 I I I I (Z3n (a := a1) (b := a3) (c := (slt a1 a3)) I I I I) I <| Z17 I I I I (Z2f (v := (.bool (slt a1 a3))) I I I) I <| Z2 I (Z20 (v := (.bool (slt a1 a3))) I I I) I <| Z2 I (Zq (v := (.bool (slt a1 a3))) I I) I <| Zi ?_
    exact Z11 (st' := ⟨[(8, (.bool (slt a1 a3)))], []⟩) ⟨rfl, trivial⟩ trivial (J2 (slt a1 a3) h)
   ·have h := hif.2 hc
    refine Z13 I I I I I I I <| Z13 I I I I I I I <| Z13 I I I I I I I <| Z17 I I I I (Z20 (v := (.bool false)) I I I) I <| Z2 I (Z20 (v := (.bool false)) I I I) I <| Z2 I (Zq (v := (.bool false)) I I) I <| Zi ?_
    exact Z11 (st' := ⟨[(8, (.bool false))], []⟩) ⟨rfl, trivial⟩ trivial (J2 false h)
def Z96 (K : Nat) (v3 : Int) (a0 : Ze) (a1 : Zk) (v9 : (List Zk)) : Option (Ze) :=
 if (0 : Int) ≤ 0 ∧ 0 ≤ v3 ∧ v3 ≤ a0.Calls.length then
  if ([] : List Zk).length + (a0.Calls.take v3.toNat).length ≤ 1073741824 then
   if (a0.Calls.take v3.toNat).length + [a1].length ≤ 1073741824 then
    if ((a0.Calls.take v3.toNat) ++ [a1]).length + v9.length ≤ 1073741824 then
     some (⟨a0.Services, (((a0.Calls.take v3.toNat) ++ [a1]) ++ v9)⟩ : Ze)
    else none
   else none
  else none
 else none
def Z7u (K : Nat) (a0 : Ze) (v3 : Int) (a1 : Zk) (v7 : Bool) : Option (Ze) :=
 if v7 = true then
  if (0 : Int) ≤ 1 ∧ 1 ≤ ((a0.Calls.drop v3.toNat).length : Int) ∧ ((a0.Calls.drop v3.toNat).length : Int) ≤ (a0.Calls.drop v3.toNat).length then
   Z96 K v3 a0 a1 ((a0.Calls.drop v3.toNat).drop (1 : Int).toNat)
  else none
 else
  Z96 K v3 a0 a1 (a0.Calls.drop v3.toNat)
def Zbl (K : Nat) (a0 : Ze) (a1 : Zk) (v3 : Int) : Option (Ze) :=
 if (0 : Int) ≤ v3 ∧ v3 ≤ (a0.Calls.length : Int) ∧ (a0.Calls.length : Int) ≤ a0.Calls.length then
  if (decide (((a0.Calls.drop v3.toNat).length : Int) > 0)) = true then
   if (0 : Int) ≤ 0 ∧ (0 : Int) < (a0.Calls.drop v3.toNat).length then
    if (((a0.Calls.drop v3.toNat).getD (0 : Int).toNat Zf).Caller == a1.Caller) = true then
     if (0 : Int) ≤ 0 ∧ (0 : Int) < (a0.Calls.drop v3.toNat).length then
      Z7u K a0 v3 a1 (((a0.Calls.drop v3.toNat).getD (0 : Int).toNat Zf).Callee == a1.Callee)
     else none
    else
     Z7u K a0 v3 a1 false
   else none
  else
   Z7u K a0 v3 a1 false
 else none
def Zab (K : Nat) (a0 : Ze) (a1 : Zk) (c5 : Int → Option (Ze)) : Nat → Int → Option (Ze)
 | 0, _ => none
 | k2 + 1, v1 =>
  if (decide (v1 < (a0.Calls.length : Int))) = true then
   if (0 : Int) ≤ v1 ∧ v1 < a0.Calls.length then
    if (0 : Int) ≤ v1 ∧ v1 < a0.Calls.length then
     (F71 K (a0.Calls.getD v1.toNat Zf).Caller (a0.Calls.getD v1.toNat Zf).Callee a1.Caller a1.Callee).bind fun v22 =>
      if v22 = true then
       (Zab K a0 a1 c5 k2) (IntKind.i64.wrap (v1 + 1))
      else
       c5 v1
    else none
   else none
  else
   c5 v1
def F55 (K : Nat) (a0 : Ze) (a1 : Zk) : Option (Ze) :=
 Zab K a0 a1 (Zbl K a0 a1) K 0
theorem F55_ok (K : Nat) (a0 : Ze) (a1 : Zk) (r : Ze) (h : F55 K a0 a1 = some r) : ACall P 55 ⟨[(Za a0), (Z6 a1)], [], (Za r), [], []⟩ := by
 refine Z1v Tryz.func55 Tryz.results55 rfl Tryz.ntmps55 rfl rfl rfl ?_
 intro E Q hP hN hro hret
 obtain ⟨P', nt', w0, F0, p0, S0, β0, ro0⟩ := E
 simp only at hP hN
 subst hP hN
 dsimp only [argT]
 unfold F55 at h
 refine Zl <| Zd <| Z2 I (Z2s (v := (Za a0)) (cs := (Za a0).cells) I I I I I) I <| Z2 I (Z2s (v := (Z6 a1)) (cs := (Z6 a1).cells) I I I I I) I <| Z2 I (Z1x (cs := [(.sl 4 [] false), (.sl 5 [] false)]) I z44 I I I) I <| Zi <| Zj <| Zl ?_
 refine Zd <| Z2 I (Zq (v := (.int .i64 0)) I I) I <| Zi <| Zj <| Zl <| AWp.weaken (st' := ⟨[(2, (.ptr 2 0)), (3, (.ptr 3 0)), (4, (.ptr 4 0)), (5, (.int .i64 0))], [(2, (.box (Za a0).cells)), (3, (.box (Z6 a1).cells)), (4, (.box [(.sl 4 [] false), (.sl 5 [] false)]))]⟩) ⟨rfl, rfl, rfl, rfl, trivial⟩ ⟨rfl, rfl, rfl, trivial⟩ ?_
 refine Z1l (V := Int) (X := Int) (lp := fun k v => Zab K a0 a1 (Zbl K a0 a1) k v = some r) (sh := fun v => ⟨[(2, (.ptr 2 0)), (3, (.ptr 3 0)), (4, (.ptr 4 0)), (5, (.int .i64 v))], [(2, (.box (Za a0).cells)), (3, (.box (Z6 a1).cells)), (4, (.box [(.sl 4 [] false), (.sl 5 [] false)]))]⟩) (x := fun v => Zbl K a0 a1 v = some r) (shx := fun v => ⟨[(2, (.ptr 2 0)), (3, (.ptr 3 0)), (4, (.ptr 4 0)), (5, (.int .i64 v))], [(2, (.box (Za a0).cells)), (3, (.box (Z6 a1).cells)), (4, (.box [(.sl 4 [] false), (.sl 5 [] false)]))]⟩) (k := K) (v := 0) h ?_ ?_
 ·intro v h
  revert h
  revert v
  intro v3 h
  try dsimp only at h ⊢
  unfold Zbl at h
  refine Zj <| Zl <| Zd <| Z2 I (Zu (m := 2) (o := 0) I Z5r I I) I <| Z2 I (Zz (cs := (Za a0).cells) (v := (.sl 5 (a0.Calls.map Z6) false)) I o42 I I I) I <| Z2 I (Zn (v := (.int .i64 v3)) I I) I ?_
  have ⟨hg6, h⟩ := Z14 h
  refine Z2 I (Z7f (l := a0.Calls) (enc := Z6) (kl := .i64) (lo := v3) I s42 I I hg6) I <| Z2 I (Zq (v := (.sl 5 ((a0.Calls.drop v3.toNat).map Z6) false)) I I) I <| Zi <| Zj <| Zl <| Zl ?_
  refine AWp.join (V := Bool) (lp := fun v => Z7u K a0 v3 a1 v = some r) (sh := fun v => ⟨[(2, (.ptr 2 0)), (3, (.ptr 3 0)), (4, (.ptr 4 0)), (5, (.int .i64 v3)), (6, (.sl 5 ((a0.Calls.drop v3.toNat).map Z6) false)), (57, (.bool v))], [(2, (.box (Za a0).cells)), (3, (.box (Z6 a1).cells)), (4, (.box [(.sl 4 [] false), (.sl 5 [] false)]))]⟩) ?_ ?_
  ·intro v h
   revert h
   revert v
   intro v7 h
   try dsimp only at h ⊢
   unfold Z7u at h
   refine Zj ?_
   refine AWp.join (V := (List Zk)) (lp := fun v => Z96 K v3 a0 a1 v = some r) (sh := fun v => ⟨[(2, (.ptr 2 0)), (3, (.ptr 3 0)), (4, (.ptr 4 0)), (5, (.int .i64 v3)), (6, (.sl 5 (v.map Z6) false))], [(2, (.box (Za a0).cells)), (3, (.box (Z6 a1).cells)), (4, (.box [(.sl 4 [] false), (.sl 5 [] false)]))]⟩) ?_ ?_
   ·intro v h
    revert h
    revert v
    intro v9 h
    try dsimp only at h ⊢
    unfold Z96 at h
    refine Zj <| Zl <| Z1u mixed <| Z8 0 I (Z1j (vs := []) (enc := Z6) (l := ([] : List Zk)) I el42 I I trivial I Z2r I I I I) <| Z8 1 I (Zu (m := 2) (o := 0) I Z5r I I) <| Z8 2 I (Zz (cs := (Za a0).cells) (v := (.sl 5 (a0.Calls.map Z6) false)) I o42 I I I) <| Z8 3 I (Zn (v := (.int .i64 v3)) I I) ?_
    have ⟨hg11, h⟩ := Z14 h
    refine Z8 4 I (Z98 (l := a0.Calls) (enc := Z6) (kh := .i64) (hi := v3) I s42 I I hg11) ?_
    have ⟨hg12, h⟩ := Z14 h
    refine Z8 5 I (Z2l (m := 60) (enc := Z6) (l := ([] : List Zk)) (l' := (a0.Calls.take v3.toNat)) (src := (.sl 5 ((a0.Calls.take v3.toNat).map Z6) false)) (rd := []) I I el42 I u42 I I I ⟨rfl, rfl, rfl⟩ noReads Z2r hg12) <| Z8 6 I (Z1k (cs := (Z6 a1).cells) (vs := (Z6 a1).cells) I a88 I I I I) <| Z8 7 I (Z1j (vs := [(Z6 a1)]) (enc := Z6) (l := [a1]) I el42 I I ⟨rfl, trivial⟩ I Z2r I I I I) ?_
    have ⟨hg13, h⟩ := Z14 h
    refine Z8 8 I (Z2l (m := 60) (enc := Z6) (l := (a0.Calls.take v3.toNat)) (l' := [a1]) (src := (.vs 67)) (rd := [(67, (.vec 5 (List.map Z6 [a1])))]) I I el42 I u42 I I I I (oneRead I) Z2r hg13) <| Z8 9 I (Zn (v := (.sl 5 (v9.map Z6) false)) I I) ?_
    have ⟨hg14, h⟩ := Z14 h
    refine Z8 10 I (Z2l (m := 60) (enc := Z6) (l := ((a0.Calls.take v3.toNat) ++ [a1])) (l' := v9) (src := (.sl 5 (v9.map Z6) false)) (rd := []) I I el42 I u42 I I I ⟨rfl, rfl, rfl⟩ noReads Z2r hg14) <| Z8 11 I (Zu (m := 2) (o := 0) I Z5r I I) <| Z8 12 I (Z1a (cs := (Za a0).cells) (vs := [(.vs 60)]) (ds := [(.sl 4 (a0.Services.map Z3) false), (.vs 60)]) (v := (.vs 60)) sz42 I I I I I I I I) <| Z1q (by kernel_rfl) I <| Zj <| Zl <| Zd <| Z2 I (Z1k (cs := [(.sl 4 (a0.Services.map Z3) false), (.vs 60)]) (vs := [(.sl 4 (a0.Services.map Z3) false), (.vs 60)]) I a44 I I I I) I ?_
    refine Z2 I (Z1a (cs := [(.sl 4 [] false), (.sl 5 [] false)]) (vs := [(.sl 4 (a0.Services.map Z3) false), (.vs 60)]) (ds := [(.sl 4 (a0.Services.map Z3) false), (.vs 60)]) (v := (.ag [(.sl 4 (a0.Services.map Z3) false), (.vs 60)])) sz44 I I I I I I I I) I <| Zi <| Zj <| Z1g <| At.ghost (st' := ⟨[(4, (.ptr 4 0))], [(4, (.box [(.sl 4 (a0.Services.map Z3) false), (.sl 5 ((((a0.Calls.take v3.toNat) ++ [a1]) ++ v9).map Z6) false)]))]⟩) (fun a w h => (Z1d ⟨[(4, (.ptr 4 0))], [(4, (.box [(.sl 4 (a0.Services.map Z3) false), (.sl 5 ((((a0.Calls.take v3.toNat) ++ [a1]) ++ v9).map Z6) false)]))]⟩ (Z2c (m := 60) (sz := 5) (es := (List.map Z6 (((a0.Calls.take v3.toNat) ++ [a1]) ++ v9))) a w (Z1d ⟨[(4, (.ptr 4 0))], [(60, (.vec 5 (List.map Z6 (((a0.Calls.take v3.toNat) ++ [a1]) ++ v9)))), (4, (.box [(.sl 4 (a0.Services.map Z3) false), (.vs 60)]))]⟩ h ⟨rfl, trivial⟩ ⟨rfl, rfl, trivial⟩)) ⟨rfl, trivial⟩ ⟨rfl, trivial⟩)) ?_
    have h := Option.some.inj h
    subst h
    refine (hret _ ?_).1
    exact ⟨[(.ag [(.sl 4 (a0.Services.map Z3) false), (.sl 5 ((((a0.Calls.take v3.toNat) ++ [a1]) ++ v9).map Z6) false)])], ⟨⟨4, _, rfl, rfl, .inr ⟨_, a44, rfl, rfl⟩⟩, trivial⟩, rfl, trivial⟩
   ·intro J10
    have hif := Z21 h
    refine Z18 I (fun hc => ?_) (fun hc => ?_)
    ·have h := hif.1 hc
     refine Zd <| Z2 I (Zn (v := (.sl 5 ((a0.Calls.drop v3.toNat).map Z6) false)) I I) I ?_
     have ⟨hg15, h⟩ := Z14 h
     refine Z2 I (Z7f (l := (a0.Calls.drop v3.toNat)) (enc := Z6) (kl := .i64) (lo := 1) I s42 I I hg15) I <| Z2 I (Zq (v := (.sl 5 (((a0.Calls.drop v3.toNat).drop (1 : Int).toNat).map Z6) false)) I I) I <| Zi ?_
     exact Z11 (st' := ⟨[(2, (.ptr 2 0)), (3, (.ptr 3 0)), (4, (.ptr 4 0)), (5, (.int .i64 v3)), (6, (.sl 5 (((a0.Calls.drop v3.toNat).drop (1 : Int).toNat).map Z6) false))], [(2, (.box (Za a0).cells)), (3, (.box (Z6 a1).cells)), (4, (.box [(.sl 4 [] false), (.sl 5 [] false)]))]⟩) ⟨rfl, rfl, rfl, rfl, rfl, trivial⟩ ⟨rfl, rfl, rfl, trivial⟩ (J10 ((a0.Calls.drop v3.toNat).drop (1 : Int).toNat) h)
    ·have h := hif.2 hc
     refine Z1b ?_
     exact Z11 (st' := ⟨[(2, (.ptr 2 0)), (3, (.ptr 3 0)), (4, (.ptr 4 0)), (5, (.int .i64 v3)), (6, (.sl 5 ((a0.Calls.drop v3.toNat).map Z6) false))], [(2, (.box (Za a0).cells)), (3, (.box (Z6 a1).cells)), (4, (.box [(.sl 4 [] false), (.sl 5 [] false)]))]⟩) ⟨rfl, rfl, rfl, rfl, rfl, trivial⟩ ⟨rfl, rfl, rfl, trivial⟩ (J10 (a0.Calls.drop v3.toNat) h)
  ·intro J8
   refine Z1u mixed <| Z8 0 I (Zn (v := (.sl 5 ((a0.Calls.drop v3.toNat).map Z6) false)) I I) <| Z8 1 I (Z23 (l := (a0.Calls.drop v3.toNat)) (enc := Z6) I s42 I) <| Z8 2 I (Z1y (k := .i64) (a := ((a0.Calls.drop v3.toNat).length : Int)) (b := 0) (c := (decide (((a0.Calls.drop v3.toNat).length : Int) > 0))) I I I I) <| Z8 3 I (Zn (v := (.bool (decide (((a0.Calls.drop v3.toNat).length : Int) > 0)))) I I) ?_
   have hif := Z21 h
   refine AOpsD.split (fun hc => ?_) (fun hc => ?_)
   ·have h := hif.1 hc
    refine Zx 4 I I I I (Zn (v := (.sl 5 ((a0.Calls.drop v3.toNat).map Z6) false)) I I) ?_
    have ⟨hg16, h⟩ := Z14 h
    refine Zx 5 I I I I (Z1s (k := .i64) (l := (a0.Calls.drop v3.toNat)) (enc := Z6) (z := Zf) (n := 0) (cs := (Z6 ((a0.Calls.drop v3.toNat).getD (0 : Int).toNat Zf)).cells) (full := false) I s42 I I hg16 I) <| Zx 6 I I I I (Z2d (cs := (Z6 ((a0.Calls.drop v3.toNat).getD (0 : Int).toNat Zf)).cells) (ds := (Z6 ((a0.Calls.drop v3.toNat).getD (0 : Int).toNat Zf)).cells) I f88_0 I I I) <| Zx 7 I I I I (Z24 (cs := (Z6 ((a0.Calls.drop v3.toNat).getD (0 : Int).toNat Zf)).cells) (v := (.str ((a0.Calls.drop v3.toNat).getD (0 : Int).toNat Zf).Caller)) I o9 I I) <| Zx 8 I I I I (Zu (m := 3) (o := 0) I f88_0 I I) <| Zx 9 I I I I (Zz (cs := (Z6 a1).cells) (v := (.str a1.Caller)) I o9 I I I) <| Zx 10 I I I I (Z3n (a := ((a0.Calls.drop v3.toNat).getD (0 : Int).toNat Zf).Caller) (b := a1.Caller) (c := (((a0.Calls.drop v3.toNat).getD (0 : Int).toNat Zf).Caller == a1.Caller)) I I I I) <| Z8 11 I (Z2f (v := (.bool (((a0.Calls.drop v3.toNat).getD (0 : Int).toNat Zf).Caller == a1.Caller))) I I I) <| Z8 12 I (Zn (v := (.bool (((a0.Calls.drop v3.toNat).getD (0 : Int).toNat Zf).Caller == a1.Caller))) I I) ?_
    have hif := Z21 h
    refine AOpsD.split (fun hc => ?_) (fun hc => ?_)
    ·have h := hif.1 hc
     refine Zx 13 I I I I (Zn (v := (.sl 5 ((a0.Calls.drop v3.toNat).map Z6) false)) I I) ?_
     have ⟨hg17, h⟩ := Z14 h
     refine Zx 14 I I I I (Z1s (k := .i64) (l := (a0.Calls.drop v3.toNat)) (enc := Z6) (z := Zf) (n := 0) (cs := (Z6 ((a0.Calls.drop v3.toNat).getD (0 : Int).toNat Zf)).cells) (full := false) I s42 I I hg17 I) <| Zx 15 I I I I (Z2d (cs := (Z6 ((a0.Calls.drop v3.toNat).getD (0 : Int).toNat Zf)).cells) (ds := [(.str ((a0.Calls.drop v3.toNat).getD (0 : Int).toNat Zf).Callee), (.int .i64 ((a0.Calls.drop v3.toNat).getD (0 : Int).toNat Zf).Count), (.int .i64 ((a0.Calls.drop v3.toNat).getD (0 : Int).toNat Zf).Errors), (.int .i64 ((a0.Calls.drop v3.toNat).getD (0 : Int).toNat Zf).Time)]) I f88_1 I I I) <| Zx 16 I I I I (Z24 (cs := [(.str ((a0.Calls.drop v3.toNat).getD (0 : Int).toNat Zf).Callee), (.int .i64 ((a0.Calls.drop v3.toNat).getD (0 : Int).toNat Zf).Count), (.int .i64 ((a0.Calls.drop v3.toNat).getD (0 : Int).toNat Zf).Errors), (.int .i64 ((a0.Calls.drop v3.toNat).getD (0 : Int).toNat Zf).Time)]) (v := (.str ((a0.Calls.drop v3.toNat).getD (0 : Int).toNat Zf).Callee)) I o9 I I) <| Zx 17 I I I I (Zu (m := 3) (o := 0) I f88_1 I I) <| Zx 18 I I I I (Zz (cs := (Z6 a1).cells) (v := (.str a1.Callee)) I o9 I I I) <| Zx 19 I I I I (Z3n (a := ((a0.Calls.drop v3.toNat).getD (0 : Int).toNat Zf).Callee) (b := a1.Callee) (c := (((a0.Calls.drop v3.toNat).getD (0 : Int).toNat Zf).Callee == a1.Callee)) I I I I) <| Z8 20 I (Z2f (v := (.bool (((a0.Calls.drop v3.toNat).getD (0 : Int).toNat Zf).Callee == a1.Callee))) I I I) <| Z1q (by kernel_rfl) I ?_
     exact Z11 (st' := ⟨[(2, (.ptr 2 0)), (3, (.ptr 3 0)), (4, (.ptr 4 0)), (5, (.int .i64 v3)), (6, (.sl 5 ((a0.Calls.drop v3.toNat).map Z6) false)), (57, (.bool (((a0.Calls.drop v3.toNat).getD (0 : Int).toNat Zf).Callee == a1.Callee)))], [(2, (.box (Za a0).cells)), (3, (.box (Z6 a1).cells)), (4, (.box [(.sl 4 [] false), (.sl 5 [] false)]))]⟩) ⟨rfl, rfl, rfl, rfl, rfl, rfl, trivial⟩ ⟨rfl, rfl, rfl, trivial⟩ (J8 (((a0.Calls.drop v3.toNat).getD (0 : Int).toNat Zf).Callee == a1.Callee) h)
    ·have h := hif.2 hc
     refine Zr 13 I I I I I I I <| Zr 14 I I I I I I I <| Zr 15 I I I I I I I <| Zr 16 I I I I I I I <| Zr 17 I I I I I I I <| Zr 18 I I I I I I I <| Zr 19 I I I I I I I <| Z8 20 I (Z20 (v := (.bool false)) I I I) ?_
     refine Z1q (by kernel_rfl) I ?_
     exact Z11 (st' := ⟨[(2, (.ptr 2 0)), (3, (.ptr 3 0)), (4, (.ptr 4 0)), (5, (.int .i64 v3)), (6, (.sl 5 ((a0.Calls.drop v3.toNat).map Z6) false)), (57, (.bool false))], [(2, (.box (Za a0).cells)), (3, (.box (Z6 a1).cells)), (4, (.box [(.sl 4 [] false), (.sl 5 [] false)]))]⟩) ⟨rfl, rfl, rfl, rfl, rfl, rfl, trivial⟩ ⟨rfl, rfl, rfl, trivial⟩ (J8 false h)
   ·have h := hif.2 hc
    refine Zr 4 I I I I I I I <| Zr 5 I I I I I I I <| Zr 6 I I I I I I I <| Zr 7 I I I I I I I <| Zr 8 I I I I I I I <| Zr 9 I I I I I I I <| Zr 10 I I I I I I I <| Z8 11 I (Z20 (v := (.bool false)) I I I) ?_
    refine Z8 12 I (Zn (v := (.bool false)) I I) <| Zr 13 I I I I I I I <| Zr 14 I I I I I I I <| Zr 15 I I I I I I I <| Zr 16 I I I I I I I <| Zr 17 I I I I I I I <| Zr 18 I I I I I I I <| Zr 19 I I I I I I I ?_
    refine Z8 20 I (Z20 (v := (.bool false)) I I I) <| Z1q (by kernel_rfl) I ?_
    exact Z11 (st' := ⟨[(2, (.ptr 2 0)), (3, (.ptr 3 0)), (4, (.ptr 4 0)), (5, (.int .i64 v3)), (6, (.sl 5 ((a0.Calls.drop v3.toNat).map Z6) false)), (57, (.bool false))], [(2, (.box (Za a0).cells)), (3, (.box (Z6 a1).cells)), (4, (.box [(.sl 4 [] false), (.sl 5 [] false)]))]⟩) ⟨rfl, rfl, rfl, rfl, rfl, rfl, trivial⟩ ⟨rfl, rfl, rfl, trivial⟩ (J8 false h)
 ·intro N k2 v h IH2 J2
  revert h
  revert v
  intro v1 h
  try dsimp only at h IH2 J2 ⊢
  cases k2 with
  | zero => cases h
  | succ k2 =>
   rw [Zab] at h
   refine Zl <| Zl <| Z1u mixed <| Z8 0 I (Zn (v := (.int .i64 v1)) I I) <| Z8 1 I (Zu (m := 2) (o := 0) I Z5r I I) <| Z8 2 I (Zz (cs := (Za a0).cells) (v := (.sl 5 (a0.Calls.map Z6) false)) I o42 I I I) <| Z8 3 I (Z23 (l := a0.Calls) (enc := Z6) I s42 I) <| Z8 4 I (Z1y (k := .i64) (a := v1) (b := (a0.Calls.length : Int)) (c := (decide (v1 < (a0.Calls.length : Int)))) I I I I) ?_
   refine Z8 5 I (Zn (v := (.bool (decide (v1 < (a0.Calls.length : Int))))) I I) ?_
   have hif := Z21 h
   refine AOpsD.split (fun hc => ?_) (fun hc => ?_)
   ·have h := hif.1 hc
    refine Zx 6 I I I I (Zu (m := 2) (o := 0) I Z5r I I) <| Zx 7 I I I I (Zz (cs := (Za a0).cells) (v := (.sl 5 (a0.Calls.map Z6) false)) I o42 I I I) <| Zx 8 I I I I (Zn (v := (.int .i64 v1)) I I) ?_
    have ⟨hg19, h⟩ := Z14 h
    refine Zx 9 I I I I (Z1s (k := .i64) (l := a0.Calls) (enc := Z6) (z := Zf) (n := v1) (cs := (Z6 (a0.Calls.getD v1.toNat Zf)).cells) (full := false) I s42 I I hg19 I) <| Zx 10 I I I I (Z2d (cs := (Z6 (a0.Calls.getD v1.toNat Zf)).cells) (ds := (Z6 (a0.Calls.getD v1.toNat Zf)).cells) I f88_0 I I I) <| Zx 11 I I I I (Z24 (cs := (Z6 (a0.Calls.getD v1.toNat Zf)).cells) (v := (.str (a0.Calls.getD v1.toNat Zf).Caller)) I o9 I I) <| Zx 12 I I I I (Zu (m := 2) (o := 0) I Z5r I I) <| Zx 13 I I I I (Zz (cs := (Za a0).cells) (v := (.sl 5 (a0.Calls.map Z6) false)) I o42 I I I) <| Zx 14 I I I I (Zn (v := (.int .i64 v1)) I I) ?_
    have ⟨hg20, h⟩ := Z14 h
    refine Zx 15 I I I I (Z1s (k := .i64) (l := a0.Calls) (enc := Z6) (z := Zf) (n := v1) (cs := (Z6 (a0.Calls.getD v1.toNat Zf)).cells) (full := false) I s42 I I hg20 I) <| Zx 16 I I I I (Z2d (cs := (Z6 (a0.Calls.getD v1.toNat Zf)).cells) (ds := [(.str (a0.Calls.getD v1.toNat Zf).Callee), (.int .i64 (a0.Calls.getD v1.toNat Zf).Count), (.int .i64 (a0.Calls.getD v1.toNat Zf).Errors), (.int .i64 (a0.Calls.getD v1.toNat Zf).Time)]) I f88_1 I I I) <| Zx 17 I I I I (Z24 (cs := [(.str (a0.Calls.getD v1.toNat Zf).Callee), (.int .i64 (a0.Calls.getD v1.toNat Zf).Count), (.int .i64 (a0.Calls.getD v1.toNat Zf).Errors), (.int .i64 (a0.Calls.getD v1.toNat Zf).Time)]) (v := (.str (a0.Calls.getD v1.toNat Zf).Callee)) I o9 I I) <| Zx 18 I I I I (Zu (m := 3) (o := 0) I f88_0 I I) <| Zx 19 I I I I (Zz (cs := (Z6 a1).cells) (v := (.str a1.Caller)) I o9 I I I) <| Zx 20 I I I I (Zu (m := 3) (o := 0) I f88_1 I I) <| Zx 21 I I I I (Zz (cs := (Z6 a1).cells) (v := (.str a1.Callee)) I o9 I I I) ?_
    have ⟨v22, hv22, h⟩ := Z1c h
    refine Zx 22 I I I I (Z1e (ar := [(.str (a0.Calls.getD v1.toNat Zf).Caller), (.str (a0.Calls.getD v1.toNat Zf).Callee), (.str a1.Caller), (.str a1.Callee)]) (caps := []) Tryz.call71 (F71_ok K (a0.Calls.getD v1.toNat Zf).Caller (a0.Calls.getD v1.toNat Zf).Callee a1.Caller a1.Callee v22 hv22) I I ⟨rfl, rfl, rfl, rfl, trivial⟩ I) <| Z8 23 I (Z2f (v := (.bool v22)) I I I) <| Z1q (by kernel_rfl) I <| Zj ?_
    have hif := Z21 h
    refine Z18 I (fun hc => ?_) (fun hc => ?_)
    ·have h := hif.1 hc
     refine Z1b <| Zj <| AWp.block <| Zd <| Z2 I (Zn (v := (.int .i64 v1)) I I) I <| Z2 I (Z1m (k := .i64) (a := v1) (b := 1) (c := (IntKind.i64.wrap (v1 + 1))) I I I I) I <| Z2 I (Zq (v := (.int .i64 (IntKind.i64.wrap (v1 + 1)))) I I) I <| Zi ?_
     refine At.end ?_
     exact Z11 (st' := ⟨[(2, (.ptr 2 0)), (3, (.ptr 3 0)), (4, (.ptr 4 0)), (5, (.int .i64 (IntKind.i64.wrap (v1 + 1))))], [(2, (.box (Za a0).cells)), (3, (.box (Z6 a1).cells)), (4, (.box [(.sl 4 [] false), (.sl 5 [] false)]))]⟩) ⟨rfl, rfl, rfl, rfl, trivial⟩ ⟨rfl, rfl, rfl, trivial⟩ (IH2 _ (IntKind.i64.wrap (v1 + 1)) (Nat.lt_succ_self _) h)
    ·have h := hif.2 hc
     refine AWp.exit <| At.thru ?_
     exact Z11 (st' := ⟨[(2, (.ptr 2 0)), (3, (.ptr 3 0)), (4, (.ptr 4 0)), (5, (.int .i64 v1))], [(2, (.box (Za a0).cells)), (3, (.box (Z6 a1).cells)), (4, (.box [(.sl 4 [] false), (.sl 5 [] false)]))]⟩) ⟨rfl, rfl, rfl, rfl, trivial⟩ ⟨rfl, rfl, rfl, trivial⟩ (J2 v1 h)
   ·have h := hif.2 hc
    refine Zr 6 I I I I I I I <| Zr 7 I I I I I I I <| Zr 8 I I I I I I I <| Zr 9 I I I I I I I <| Zr 10 I I I I I I I <| Zr 11 I I I I I I I <| Zr 12 I I I I I I I <| Zr 13 I I I I I I I ?_
    refine Zr 14 I I I I I I I <| Zr 15 I I I I I I I <| Zr 16 I I I I I I I <| Zr 17 I I I I I I I <| Zr 18 I I I I I I I <| Zr 19 I I I I I I I <| Zr 20 I I I I I I I <| Zr 21 I I I I I I I ?_
    refine Zr 22 I I I I I I I <| Z8 23 I (Z20 (v := (.bool false)) I I I) <| Z1q (by kernel_rfl) I <| Zj ?_
    refine Z18 (b := false) I (fun hc => ?_) (fun hc => ?_)
    ·cases hc
    refine AWp.exit <| At.thru ?_
    exact Z11 (st' := ⟨[(2, (.ptr 2 0)), (3, (.ptr 3 0)), (4, (.ptr 4 0)), (5, (.int .i64 v1))], [(2, (.box (Za a0).cells)), (3, (.box (Z6 a1).cells)), (4, (.box [(.sl 4 [] false), (.sl 5 [] false)]))]⟩) ⟨rfl, rfl, rfl, rfl, trivial⟩ ⟨rfl, rfl, rfl, trivial⟩ (J2 v1 h)
end Go.AM.TopZ
