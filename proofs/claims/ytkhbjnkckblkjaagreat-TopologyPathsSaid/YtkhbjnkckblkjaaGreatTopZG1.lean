/- What these functions compute, each with its walk: F17, F19, F11, F31, F53, F54, F71, F55. -/
import Derived.Test.YtkhbjnkckblkjaaGreatTopZT
import Derived.Test.YtkhbjnkckblkjaaGreatTopZG0
namespace Go.AM.TopZ
open Go Go.AM Go.Proofs
set_option maxRecDepth 100000
set_option maxHeartbeats 2000000
noncomputable def Z4n (K : Nat) (v10 : Bool) (v11 : (List (Str × Zd))) (v12 : (List (Zq × Zl))) : Option (Int × Zb) :=
 (F52 K v10 v11 v12).bind fun v16 =>
  some (v16.1, v16.2)
def Z8d (K : Nat) (b17 : Int → Bool → (List (Str × Zd)) → (List (Zq × Zl)) → Option (Int × Zb)) (v5 : Int) (v33 : Bool) (v34 : (List (Str × Zd))) (v35 : (List (Zq × Zl))) : Option (Int × Zb) :=
 b17 (IntKind.i64.wrap (v5 + 1)) v33 v34 v35
def F17_j42 (K : Nat) (b38 : Int → Bool → (List (Str × Zd)) → (List (Zq × Zl)) → Option (Int × Zb)) (v28 : Int) (v39 : Bool) (v40 : (List (Str × Zd))) (v41 : (List (Zq × Zl))) : Option (Int × Zb) :=
 b38 (IntKind.i64.wrap (v28 + 1)) v39 v40 v41
def F17_j52 (K : Nat) (b38 : Int → Bool → (List (Str × Zd)) → (List (Zq × Zl)) → Option (Int × Zb)) (v28 : Int) (v49 : Bool × (List (Str × Zd))) (v50 : Bool) (v51 : (List (Zq × Zl))) : Option (Int × Zb) :=
 F17_j42 K b38 v28 v50 v49.2 v51
def Z61 (K : Nat) (v21 : (List Zn)) (a0 : (List Zz)) (v5 : Int) (v25 : (List (Int × Zn))) (c37 : Bool → (List (Str × Zd)) → (List (Zq × Zl)) → Option (Int × Zb)) : Nat → Int → Bool → (List (Str × Zd)) → (List (Zq × Zl)) → Option (Int × Zb)
 | 0, _, _, _, _ => none
 | k32 + 1, v28, v29, v30, v31 =>
  if (decide (v28 < (v21.length : Int))) = true then
   if (0 : Int) ≤ v28 ∧ v28 < v21.length then
    (F49 K (v21.getD v28.toNat Z6).Error (a0.getD v5.toNat Zo).Weight).bind fun v45 =>
     (F49 K ((v21.getD v28.toNat Z6).Parent == 0) (a0.getD v5.toNat Zo).Weight).bind fun v47 =>
      (F48 K (⟨(v21.getD v28.toNat Z6).Service, (a0.getD v5.toNat Zo).Weight, v45, v47⟩ : Zd) v29 v30 v31).bind fun v49 =>
       if (mget Z38 (v21.getD v28.toNat Z6).Parent v25).isSome = true then
        if (!(((mget Z38 (v21.getD v28.toNat Z6).Parent v25).getD Z6).Service == (v21.getD v28.toNat Z6).Service)) = true then
         (F49 K (v21.getD v28.toNat Z6).Error (a0.getD v5.toNat Zo).Weight).bind fun v54 =>
          (F51 K (v21.getD v28.toNat Z6)).bind fun v56 =>
           (F50 K (⟨((mget Z38 (v21.getD v28.toNat Z6).Parent v25).getD Z6).Service, (v21.getD v28.toNat Z6).Service, (a0.getD v5.toNat Zo).Weight, v54, (IntKind.i64.wrap (v56 * (a0.getD v5.toNat Zo).Weight))⟩ : Zl) v49.1 v49.2 v31).bind fun v58 =>
            F17_j52 K (Z61 K v21 a0 v5 v25 c37 k32) v28 v49 v58.1 v58.2
        else
         F17_j52 K (Z61 K v21 a0 v5 v25 c37 k32) v28 v49 v49.1 v31
       else
        F17_j42 K (Z61 K v21 a0 v5 v25 c37 k32) v28 v49.1 v49.2 v31
   else none
  else
   c37 v29 v30 v31
def F17_c26 (K : Nat) (v21 : (List Zn)) (a0 : (List Zz)) (v5 : Int) (b17 : Int → Bool → (List (Str × Zd)) → (List (Zq × Zl)) → Option (Int × Zb)) (v6 : Bool) (v7 : (List (Str × Zd))) (v8 : (List (Zq × Zl))) (v25 : (List (Int × Zn))) : Option (Int × Zb) :=
 Z61 K v21 a0 v5 v25 (Z8d K b17 v5) K 0 v6 v7 v8
def F17_l24 (K : Nat) (v21 : (List Zn)) (c27 : (List (Int × Zn)) → Option (Int × Zb)) : Nat → Int → (List (Int × Zn)) → Option (Int × Zb)
 | 0, _, _ => none
 | k24 + 1, v22, v23 =>
  if (decide (v22 < (v21.length : Int))) = true then
   if (0 : Int) ≤ v22 ∧ v22 < v21.length then
    (F17_l24 K v21 c27 k24) (IntKind.i64.wrap (v22 + 1)) (mput Z38 (v21.getD v22.toNat Z6).Id (v21.getD v22.toNat Z6) v23)
   else none
  else
   c27 v23
def Z67 (K : Nat) (a0 : (List Zz)) (c14 : Bool → (List (Str × Zd)) → (List (Zq × Zl)) → Option (Int × Zb)) : Nat → Int → Bool → (List (Str × Zd)) → (List (Zq × Zl)) → Option (Int × Zb)
 | 0, _, _, _, _ => none
 | k9 + 1, v5, v6, v7, v8 =>
  if (decide (v5 < (a0.length : Int))) = true then
   if (0 : Int) ≤ v5 ∧ v5 < (a0.length : Nat) then
    if v5.toNat < a0.length then
     (F47 K (a0.getD v5.toNat Zo).Spans).bind fun v21 =>
      F17_l24 K v21 (F17_c26 K v21 a0 v5 (Z67 K a0 c14 k9) v6 v7 v8) K 0 ([] : List (Int × Zn))
    else none
   else none
  else
   c14 v6 v7 v8
noncomputable def F17 (K : Nat) (a0 : (List Zz)) : Option (Int × Zb) :=
 (F46 K).bind fun v4 =>
  Z67 K a0 (Z4n K) K 0 false ([] : List (Str × Zd)) ([] : List (Zq × Zl))
theorem F17_ok (K : Nat) (a0 : (List Zz)) (r : Int × Zb) (h : F17 K a0 = some r) : ACall P 17 ⟨[(.vs 2000)], [(2000, (.vec 3 (List.map Z1o a0)))], (.tup [(Z5 r.2), (.int .i64 r.1)]), [(2000, (.vec 3 (List.map Z1o a0)))], []⟩ := by
 refine Z1p Tryz.func17 Tryz.results17 rfl Tryz.ntmps17 rfl rfl rfl ?_
 intro E Q hP hN hro hret
 obtain ⟨P', nt', w0, F0, p0, S0, β0, ro0⟩ := E
 simp only at hP hN
 subst hP hN
 dsimp only [argT]
 unfold F17 at h
 refine Zg <| Za <| Z1 I (Z22 (cs := [(.sl 4 [] false), (.sl 5 [] false)]) I z44 I I I) I <| Z1 I (Zi (v := (.int .i64 0)) I I) I <| Ze <| Zf <| Zg <| Za ?_
 have ⟨v4, hv4, h⟩ := Z1g h
 refine Z1 I (Z33 (d := some 16) (c := ⟨[] ++ [], [], (.ptr 96 0), [(16, (.map (Z19 Z1f Z2 ([] : List (Str × Zd))))), (97, (.map (Z19 Zm Z3 ([] : List (Zq × Zl))))), (96, (.box [(.map 16), (.map 97), (.bool false)]))], [16, 97, 96]⟩) (ar := []) (caps := []) (news := [16, 97, 96]) (forg := []) Tryz.call46 ((((F46_ok K v4 hv4).sw 1 16).sw 2 97).sw 4 96) I I trivial I trivial I) I <| Z1 I (Zi (v := (.ptr 96 0)) I I) I <| Ze <| Zf <| Zg <| Zg <| Za <| Z1 I (Zh (v := (.vs 2000)) I I) I ?_
 refine Z1 I (Z3u (l := a0) (enc := Z1o) I u31 I I) I <| Z1 I (Zh (v := (.int .i64 0)) I I) I <| Ze <| Zf <| Z1t (st' := ⟨[(2, (.ptr 2 0)), (4, (.ptr 96 0)), (17, (.vs 2000)), (18, (.int .i64 (a0.length : Int))), (19, (.int .i64 0))], [(2, (.box [(.sl 4 [] false), (.sl 5 [] false)])), (16, (.map (Z19 Z1f Z2 ([] : List (Str × Zd))))), (96, (.box [(.map 16), (.map 97), (.bool false)])), (97, (.map (Z19 Zm Z3 ([] : List (Zq × Zl))))), (2000, (.vec 3 (List.map Z1o a0)))]⟩) ⟨rfl, rfl, rfl, rfl, rfl, trivial⟩ ⟨rfl, rfl, rfl, rfl, rfl, trivial⟩ ?_
 refine Z1h (V := Int × Bool × (List (Str × Zd)) × (List (Zq × Zl))) (X := Bool × (List (Str × Zd)) × (List (Zq × Zl))) (lp := fun k v => Z67 K a0 (Z4n K) k v.1 v.2.1 v.2.2.1 v.2.2.2 = some r) (sh := fun v => ⟨[(2, (.ptr 2 0)), (4, (.ptr 96 0)), (17, (.vs 2000)), (18, (.int .i64 (a0.length : Int))), (19, (.int .i64 v.1))], [(2, (.box [(.sl 4 [] false), (.sl 5 [] false)])), (16, (.map (Z19 Z1f Z2 v.2.2.1))), (96, (.box [(.map 16), (.map 97), (.bool v.2.1)])), (97, (.map (Z19 Zm Z3 v.2.2.2))), (2000, (.vec 3 (List.map Z1o a0)))]⟩) (x := fun v => Z4n K v.1 v.2.1 v.2.2 = some r) (shx := fun v => ⟨[(2, (.ptr 2 0)), (4, (.ptr 96 0))], [(2, (.box [(.sl 4 [] false), (.sl 5 [] false)])), (16, (.map (Z19 Z1f Z2 v.2.1))), (96, (.box [(.map 16), (.map 97), (.bool v.1)])), (97, (.map (Z19 Zm Z3 v.2.2))), (2000, (.vec 3 (List.map Z1o a0)))]⟩) (k := K) (v := (0, false, ([] : List (Str × Zd)), ([] : List (Zq × Zl)))) h ?_ ?_
 ·intro v h
  obtain ⟨v10, v11, v12⟩ := v
  try dsimp only at h ⊢
  unfold Z4n at h
  refine Zf <| Zg <| Za <| Z1 I (Zh (v := (.ptr 96 0)) I I) I ?_
  have ⟨v16, hv16, h⟩ := Z1g h
  refine Z1 I (Z33 (d := some 95) (c := ⟨[(.ptr 96 0)] ++ [], [(96, (.box [(.map 16), (.map 97), (.bool v10)])), (16, (.map (Z19 Z1f Z2 v11))), (97, (.map (Z19 Zm Z3 v12)))], (.tup [(Z5 v16.2), (.int .i64 v16.1)]), [(96, (.box [(.map 16), (.map 97), (.bool v10)])), (16, (.fmap (Z19 Z1f Z2 v11))), (97, (.fmap (Z19 Zm Z3 v12)))], [16, 97]⟩) (ar := [(.ptr 96 0)]) (caps := []) (news := []) (forg := [16, 97]) Tryz.call52 ((((F52_ok K v10 v11 v12 v16 hv16).sw 2000 96).sw 59 16).sw 57 97) I I ⟨rfl, trivial⟩ I ⟨rfl, rfl, rfl, trivial⟩ I) I <| Z1 I (Z21 (vs := [(Z5 v16.2), (.int .i64 v16.1)]) (v := (Z5 v16.2)) I I I) I <| Z1 I (Z21 (vs := [(Z5 v16.2), (.int .i64 v16.1)]) (v := (.int .i64 v16.1)) I I I) I <| Z1 I (Z1j (cs := [(.sl 4 [] false), (.sl 5 [] false)]) (vs := (Z5 v16.2).cells) (ds := (Z5 v16.2).cells) (v := (Z5 v16.2)) sz44 I I I I I I I I) I <| Z1 I (Zi (v := (.int .i64 v16.1)) I I) I <| Ze <| Zf <| Z1a ?_
  have h := Option.some.inj h
  subst h
  refine (hret _ ?_).1
  exact ⟨[(Z5 v16.2), (.int .i64 v16.1)], ⟨⟨2, _, rfl, rfl, .inr ⟨_, a44, rfl, rfl⟩⟩, rfl, trivial⟩, rfl, ⟨rfl, trivial⟩⟩
 ·intro N k9 v h IH9 J9
  obtain ⟨v5, v6, v7, v8⟩ := v
  try dsimp only at h IH9 J9 ⊢
  cases k9 with
  | zero => cases h
  | succ k9 =>
   rw [Z67] at h
   refine Zg <| Za <| Z1 I (Z1w (k := .i64) (a := v5) (b := (a0.length : Int)) (c := (decide (v5 < (a0.length : Int)))) I I I I) I <| Ze <| Zf <| Zg ?_
   have hif := Z1y h
   refine Z13 I (fun hc => ?_) (fun hc => ?_)
   ·have h := hif.1 hc
    refine Z16 <| Zf <| Zg <| AWp.block <| Zg <| Za ?_
    have ⟨hg18, h⟩ := Zv h
    refine Z1 I (Z2h (k := .i64) (v := (.vs 2000)) (n := 2000) (off := 0) (len := a0.length) (es := (List.map Z1o a0)) (j := v5) (m := v5.toNat) I s31 I I (Z2o _ _ _) I hg18 (Nat.zero_add _)) I ?_
    have ⟨hg19, h⟩ := Zv h
    refine Z1 I (Z3a (l := a0) (enc := Z1o) (z := Zo) (vs := (Z1o (a0.getD v5.toNat Zo)).cells) I a39 I I hg19 I I) I <| Z1 I (Z22 (cs := [(.int .i64 0), (.int .i64 0), (.sl 14 [] false)]) I z39 I I I) I <| Z1 I (Z1j (cs := [(.int .i64 0), (.int .i64 0), (.sl 14 [] false)]) (vs := (Z1o (a0.getD v5.toNat Zo)).cells) (ds := (Z1o (a0.getD v5.toNat Zo)).cells) (v := (Z1o (a0.getD v5.toNat Zo))) sz39 I I I I I I I I) I <| Ze <| Zf <| Zg <| Za <| Z1 I (Zp (m := 6) (o := 0) I f39_2 I I) I ?_
    refine Z1 I (Zu (cs := (Z1o (a0.getD v5.toNat Zo)).cells) (v := (.sl 14 ((a0.getD v5.toNat Zo).Spans.map Zc) false)) I o37 I I I) I ?_
    have ⟨v21, hv21, h⟩ := Z1g h
    refine Z1 I (Z1i (ar := [(.sl 14 ((a0.getD v5.toNat Zo).Spans.map Zc) false)]) (caps := []) Tryz.call47 (F47_ok K (a0.getD v5.toNat Zo).Spans v21 hv21) I I ⟨rfl, trivial⟩ I) I <| Z1 I (Zi (v := (.sl 14 (v21.map Zc) false)) I I) I <| Ze <| Zf <| Zg <| Za <| Z1 I (Z8u I) I <| Z1 I (Zi (v := (.map 26)) I I) I ?_
    refine Ze <| Zf <| Zg <| Zg <| Za <| Z1 I (Zh (v := (.sl 14 (v21.map Zc) false)) I I) I <| Z1 I (Z24 (l := v21) (enc := Zc) I s37 I) I <| Z1 I (Zh (v := (.int .i64 0)) I I) I ?_
    refine Ze <| Zf <| Z1t (st' := ⟨[(2, (.ptr 2 0)), (4, (.ptr 96 0)), (6, (.ptr 6 0)), (7, (.sl 14 (v21.map Zc) false)), (8, (.map 26)), (17, (.vs 2000)), (18, (.int .i64 (a0.length : Int))), (19, (.int .i64 v5)), (27, (.sl 14 (v21.map Zc) false)), (28, (.int .i64 (v21.length : Int))), (29, (.int .i64 0))], [(2, (.box [(.sl 4 [] false), (.sl 5 [] false)])), (6, (.box (Z1o (a0.getD v5.toNat Zo)).cells)), (16, (.map (Z19 Z1f Z2 v7))), (26, (.map (Z19 Z15 Zc ([] : List (Int × Zn))))), (96, (.box [(.map 16), (.map 97), (.bool v6)])), (97, (.map (Z19 Zm Z3 v8))), (2000, (.vec 3 (List.map Z1o a0)))]⟩) ⟨rfl, rfl, rfl, rfl, rfl, rfl, rfl, rfl, rfl, rfl, rfl, trivial⟩ ⟨rfl, rfl, rfl, rfl, rfl, rfl, rfl, trivial⟩ ?_
    refine Z1h (V := Int × (List (Int × Zn))) (X := (List (Int × Zn))) (lp := fun k v => F17_l24 K v21 (F17_c26 K v21 a0 v5 (Z67 K a0 (Z4n K) k9) v6 v7 v8) k v.1 v.2 = some r) (sh := fun v => ⟨[(2, (.ptr 2 0)), (4, (.ptr 96 0)), (6, (.ptr 6 0)), (7, (.sl 14 (v21.map Zc) false)), (8, (.map 26)), (17, (.vs 2000)), (18, (.int .i64 (a0.length : Int))), (19, (.int .i64 v5)), (27, (.sl 14 (v21.map Zc) false)), (28, (.int .i64 (v21.length : Int))), (29, (.int .i64 v.1))], [(2, (.box [(.sl 4 [] false), (.sl 5 [] false)])), (6, (.box (Z1o (a0.getD v5.toNat Zo)).cells)), (16, (.map (Z19 Z1f Z2 v7))), (26, (.map (Z19 Z15 Zc v.2))), (96, (.box [(.map 16), (.map 97), (.bool v6)])), (97, (.map (Z19 Zm Z3 v8))), (2000, (.vec 3 (List.map Z1o a0)))]⟩) (x := fun v => F17_c26 K v21 a0 v5 (Z67 K a0 (Z4n K) k9) v6 v7 v8 v = some r) (shx := fun v => ⟨[(2, (.ptr 2 0)), (4, (.ptr 96 0)), (6, (.ptr 6 0)), (7, (.sl 14 (v21.map Zc) false)), (8, (.map 26)), (17, (.vs 2000)), (18, (.int .i64 (a0.length : Int))), (19, (.int .i64 v5))], [(2, (.box [(.sl 4 [] false), (.sl 5 [] false)])), (6, (.box (Z1o (a0.getD v5.toNat Zo)).cells)), (16, (.map (Z19 Z1f Z2 v7))), (26, (.map (Z19 Z15 Zc v))), (96, (.box [(.map 16), (.map 97), (.bool v6)])), (97, (.map (Z19 Zm Z3 v8))), (2000, (.vec 3 (List.map Z1o a0)))]⟩) (k := K) (v := (0, ([] : List (Int × Zn)))) h ?_ ?_
    ·intro v h
     revert h
     revert v
     intro v25 h
     try dsimp only at h ⊢
     unfold F17_c26 at h
     refine Zf <| Zg <| Za <| Z1 I (Zp (m := 6) (o := 0) I f39_1 I I) I <| Z1 I (Zu (cs := (Z1o (a0.getD v5.toNat Zo)).cells) (v := (.int .i64 (a0.getD v5.toNat Zo).Weight)) I o3 I I I) I <| Z1 I (Zi (v := (.int .i64 (a0.getD v5.toNat Zo).Weight)) I I) I <| Ze <| Zf ?_
     refine Zg <| Za <| Z1 I (Zh (v := (.sl 14 (v21.map Zc) false)) I I) I <| Z1 I (Z24 (l := v21) (enc := Zc) I s37 I) I <| Z1 I (Zh (v := (.int .i64 0)) I I) I <| Ze <| Zf <| Z1t (st' := ⟨[(2, (.ptr 2 0)), (4, (.ptr 96 0)), (8, (.map 26)), (11, (.int .i64 (a0.getD v5.toNat Zo).Weight)), (17, (.vs 2000)), (18, (.int .i64 (a0.length : Int))), (19, (.int .i64 v5)), (40, (.sl 14 (v21.map Zc) false)), (41, (.int .i64 (v21.length : Int))), (42, (.int .i64 0))], [(2, (.box [(.sl 4 [] false), (.sl 5 [] false)])), (16, (.map (Z19 Z1f Z2 v7))), (26, (.map (Z19 Z15 Zc v25))), (96, (.box [(.map 16), (.map 97), (.bool v6)])), (97, (.map (Z19 Zm Z3 v8))), (2000, (.vec 3 (List.map Z1o a0)))]⟩) ⟨rfl, rfl, rfl, rfl, rfl, rfl, rfl, rfl, rfl, rfl, trivial⟩ ⟨rfl, rfl, rfl, rfl, rfl, rfl, trivial⟩ ?_
     refine Z1h (V := Int × Bool × (List (Str × Zd)) × (List (Zq × Zl))) (X := Bool × (List (Str × Zd)) × (List (Zq × Zl))) (lp := fun k v => Z61 K v21 a0 v5 v25 (Z8d K (Z67 K a0 (Z4n K) k9) v5) k v.1 v.2.1 v.2.2.1 v.2.2.2 = some r) (sh := fun v => ⟨[(2, (.ptr 2 0)), (4, (.ptr 96 0)), (8, (.map 26)), (11, (.int .i64 (a0.getD v5.toNat Zo).Weight)), (17, (.vs 2000)), (18, (.int .i64 (a0.length : Int))), (19, (.int .i64 v5)), (40, (.sl 14 (v21.map Zc) false)), (41, (.int .i64 (v21.length : Int))), (42, (.int .i64 v.1))], [(2, (.box [(.sl 4 [] false), (.sl 5 [] false)])), (16, (.map (Z19 Z1f Z2 v.2.2.1))), (26, (.map (Z19 Z15 Zc v25))), (96, (.box [(.map 16), (.map 97), (.bool v.2.1)])), (97, (.map (Z19 Zm Z3 v.2.2.2))), (2000, (.vec 3 (List.map Z1o a0)))]⟩) (x := fun v => Z8d K (Z67 K a0 (Z4n K) k9) v5 v.1 v.2.1 v.2.2 = some r) (shx := fun v => ⟨[(2, (.ptr 2 0)), (4, (.ptr 96 0)), (17, (.vs 2000)), (18, (.int .i64 (a0.length : Int))), (19, (.int .i64 v5))], [(2, (.box [(.sl 4 [] false), (.sl 5 [] false)])), (16, (.map (Z19 Z1f Z2 v.2.1))), (96, (.box [(.map 16), (.map 97), (.bool v.1)])), (97, (.map (Z19 Zm Z3 v.2.2))), (2000, (.vec 3 (List.map Z1o a0)))]⟩) (k := K) (v := (0, v6, v7, v8)) h ?_ ?_
     ·intro v h
      obtain ⟨v33, v34, v35⟩ := v
      try dsimp only at h ⊢
      unfold Z8d at h
      refine At.end <| Zf <| Za <| Z1 I (Z1n (k := .i64) (a := v5) (b := 1) (c := (IntKind.i64.wrap (v5 + 1))) I I I I) I <| Z1 I (Zh (v := (.int .i64 (IntKind.i64.wrap (v5 + 1)))) I I) I <| Ze ?_
      exact Zw (st' := ⟨[(2, (.ptr 2 0)), (4, (.ptr 96 0)), (17, (.vs 2000)), (18, (.int .i64 (a0.length : Int))), (19, (.int .i64 (IntKind.i64.wrap (v5 + 1))))], [(2, (.box [(.sl 4 [] false), (.sl 5 [] false)])), (16, (.map (Z19 Z1f Z2 v34))), (96, (.box [(.map 16), (.map 97), (.bool v33)])), (97, (.map (Z19 Zm Z3 v35))), (2000, (.vec 3 (List.map Z1o a0)))]⟩) ⟨rfl, rfl, rfl, rfl, rfl, trivial⟩ ⟨rfl, rfl, rfl, rfl, rfl, trivial⟩ (IH9 _ ((IntKind.i64.wrap (v5 + 1)), v33, v34, v35) (Nat.lt_succ_self _) h)
     ·intro N k32 v h IH32 J32
      obtain ⟨v28, v29, v30, v31⟩ := v
      try dsimp only at h IH32 J32 ⊢
      cases k32 with
      | zero => cases h
      | succ k32 =>
       rw [Z61] at h
       refine Zg <| Za <| Z1 I (Z1w (k := .i64) (a := v28) (b := (v21.length : Int)) (c := (decide (v28 < (v21.length : Int)))) I I I I) I <| Ze <| Zf <| Zg ?_
       have hif := Z1y h
       refine Z13 I (fun hc => ?_) (fun hc => ?_)
       ·have h := hif.1 hc
        refine Z16 <| Zf <| Zg ?_
        refine AWp.blockJoin (V := Bool × (List (Str × Zd)) × (List (Zq × Zl))) (lp := fun v => F17_j42 K (Z61 K v21 a0 v5 v25 (Z8d K (Z67 K a0 (Z4n K) k9) v5) k32) v28 v.1 v.2.1 v.2.2 = some r) (sh := fun v => ⟨[(2, (.ptr 2 0)), (4, (.ptr 96 0)), (8, (.map 26)), (11, (.int .i64 (a0.getD v5.toNat Zo).Weight)), (17, (.vs 2000)), (18, (.int .i64 (a0.length : Int))), (19, (.int .i64 v5)), (40, (.sl 14 (v21.map Zc) false)), (41, (.int .i64 (v21.length : Int))), (42, (.int .i64 v28))], [(2, (.box [(.sl 4 [] false), (.sl 5 [] false)])), (16, (.map (Z19 Z1f Z2 v.2.1))), (26, (.map (Z19 Z15 Zc v25))), (96, (.box [(.map 16), (.map 97), (.bool v.1)])), (97, (.map (Z19 Zm Z3 v.2.2))), (2000, (.vec 3 (List.map Z1o a0)))]⟩) ?_ ?_
        ·intro v h
         obtain ⟨v39, v40, v41⟩ := v
         try dsimp only at h ⊢
         unfold F17_j42 at h
         refine Zf <| Za <| Z1 I (Z1n (k := .i64) (a := v28) (b := 1) (c := (IntKind.i64.wrap (v28 + 1))) I I I I) I <| Z1 I (Zh (v := (.int .i64 (IntKind.i64.wrap (v28 + 1)))) I I) I <| Ze ?_
         exact Zw (st' := ⟨[(2, (.ptr 2 0)), (4, (.ptr 96 0)), (8, (.map 26)), (11, (.int .i64 (a0.getD v5.toNat Zo).Weight)), (17, (.vs 2000)), (18, (.int .i64 (a0.length : Int))), (19, (.int .i64 v5)), (40, (.sl 14 (v21.map Zc) false)), (41, (.int .i64 (v21.length : Int))), (42, (.int .i64 (IntKind.i64.wrap (v28 + 1))))], [(2, (.box [(.sl 4 [] false), (.sl 5 [] false)])), (16, (.map (Z19 Z1f Z2 v40))), (26, (.map (Z19 Z15 Zc v25))), (96, (.box [(.map 16), (.map 97), (.bool v39)])), (97, (.map (Z19 Zm Z3 v41))), (2000, (.vec 3 (List.map Z1o a0)))]⟩) ⟨rfl, rfl, rfl, rfl, rfl, rfl, rfl, rfl, rfl, rfl, trivial⟩ ⟨rfl, rfl, rfl, rfl, rfl, rfl, trivial⟩ (IH32 _ ((IntKind.i64.wrap (v28 + 1)), v39, v40, v41) (Nat.lt_succ_self _) h)
        ·intro J42
         refine Zg <| Za ?_
         have ⟨hg43, h⟩ := Zv h
         refine Z1 I (Z1s (k := .i64) (l := v21) (enc := Zc) (z := Z6) (n := v28) (cs := (Zc (v21.getD v28.toNat Z6)).cells) (full := false) I s37 I I hg43 I) I <| Z1 I (Z2k (cs := (Zc (v21.getD v28.toNat Z6)).cells) (vs := (Zc (v21.getD v28.toNat Z6)).cells) I a56 I I I) I <| Z1 I (Z22 (cs := [(.int .i64 0), (.int .i64 0), (.int .i64 0), (.int .i64 0), (.int .i64 0), (.int .i64 0), (.str []), (.str []), (.str []), (.int .i64 0), (.int .i64 0), (.bool false), (.sl 4 [] false), (.sl 2 [] false)]) I z56 I I I) I <| Z1 I (Z1j (cs := [(.int .i64 0), (.int .i64 0), (.int .i64 0), (.int .i64 0), (.int .i64 0), (.int .i64 0), (.str []), (.str []), (.str []), (.int .i64 0), (.int .i64 0), (.bool false), (.sl 4 [] false), (.sl 2 [] false)]) (vs := (Zc (v21.getD v28.toNat Z6)).cells) (ds := (Zc (v21.getD v28.toNat Z6)).cells) (v := (Zc (v21.getD v28.toNat Z6))) sz56 I I I I I I I I) I <| Ze <| Zf <| Zg <| AWp.regionD mixed ?_
         refine Z9 0 I (Zh (v := (.ptr 96 0)) I I) <| Z9 1 I (Zp (m := 13) (o := 0) I f56_6 I I) <| Z9 2 I (Zu (cs := (Zc (v21.getD v28.toNat Z6)).cells) (v := (.str (v21.getD v28.toNat Z6).Service)) I o9 I I I) <| Z9 3 I (Zh (v := (.int .i64 (a0.getD v5.toNat Zo).Weight)) I I) <| Z9 4 I (Zp (m := 13) (o := 0) I f56_11 I I) <| Z9 5 I (Zu (cs := (Zc (v21.getD v28.toNat Z6)).cells) (v := (.bool (v21.getD v28.toNat Z6).Error)) I o4 I I I) <| Z9 6 I (Zh (v := (.int .i64 (a0.getD v5.toNat Zo).Weight)) I I) ?_
         have ⟨v45, hv45, h⟩ := Z1g h
         refine Z9 7 I (Z1i (ar := [(.bool (v21.getD v28.toNat Z6).Error), (.int .i64 (a0.getD v5.toNat Zo).Weight)]) (caps := []) Tryz.call49 (F49_ok K (v21.getD v28.toNat Z6).Error (a0.getD v5.toNat Zo).Weight v45 hv45) I I ⟨rfl, rfl, trivial⟩ I) <| Z9 8 I (Zp (m := 13) (o := 0) I f56_2 I I) <| Z9 9 I (Zu (cs := (Zc (v21.getD v28.toNat Z6)).cells) (v := (.int .i64 (v21.getD v28.toNat Z6).Parent)) I o3 I I I) <| Z9 10 I (Z1w (k := .i64) (a := (v21.getD v28.toNat Z6).Parent) (b := 0) (c := ((v21.getD v28.toNat Z6).Parent == 0)) I I I I) <| Z9 11 I (Zh (v := (.int .i64 (a0.getD v5.toNat Zo).Weight)) I I) ?_
         have ⟨v47, hv47, h⟩ := Z1g h
         refine Z9 12 I (Z1i (ar := [(.bool ((v21.getD v28.toNat Z6).Parent == 0)), (.int .i64 (a0.getD v5.toNat Zo).Weight)]) (caps := []) Tryz.call49 (F49_ok K ((v21.getD v28.toNat Z6).Parent == 0) (a0.getD v5.toNat Zo).Weight v47 hv47) I I ⟨rfl, rfl, trivial⟩ I) <| Z9 13 I (Z29 (vs := [(0, (.str (v21.getD v28.toNat Z6).Service)), (1, (.int .i64 (a0.getD v5.toNat Zo).Weight)), (2, (.int .i64 v45)), (3, (.int .i64 v47))]) (cs := [(.str (v21.getD v28.toNat Z6).Service), (.int .i64 (a0.getD v5.toNat Zo).Weight), (.int .i64 v45), (.int .i64 v47)]) I st68 ⟨rfl, rfl, rfl, rfl, rfl, rfl, rfl, rfl, trivial⟩ I) ?_
         have ⟨v49, hv49, h⟩ := Z1g h
         refine Z9 14 I (Z33 (d := some 60) (c := ⟨[(.ptr 96 0), (.ag [(.str (v21.getD v28.toNat Z6).Service), (.int .i64 (a0.getD v5.toNat Zo).Weight), (.int .i64 v45), (.int .i64 v47)])] ++ [], [(96, (.box [(.map 16), (.map 97), (.bool v29)])), (16, (.map (Z19 Z1f Z2 v30))), (97, (.map (Z19 Zm Z3 v31)))], (.tup []), [(96, (.box [(.map 16), (.map 97), (.bool v49.1)])), (16, (.map (Z19 Z1f Z2 v49.2))), (97, (.map (Z19 Zm Z3 v31)))], []⟩) (ar := [(.ptr 96 0), (.ag [(.str (v21.getD v28.toNat Z6).Service), (.int .i64 (a0.getD v5.toNat Zo).Weight), (.int .i64 v45), (.int .i64 v47)])]) (caps := []) (news := []) (forg := []) Tryz.call48 ((((F48_ok K (⟨(v21.getD v28.toNat Z6).Service, (a0.getD v5.toNat Zo).Weight, v45, v47⟩ : Zd) v29 v30 v31 v49 hv49).sw 2000 96).sw 2001 16).sw 2002 97) I I ⟨rfl, rfl, trivial⟩ I ⟨rfl, rfl, rfl, trivial⟩ I) <| AOpsD.nil (by kernel_rfl) I <| Zf <| Zg <| Za <| Z1 I (Zh (v := (.map 26)) I I) I <| Z1 I (Zp (m := 13) (o := 0) I f56_2 I I) I <| Z1 I (Zu (cs := (Zc (v21.getD v28.toNat Z6)).cells) (v := (.int .i64 (v21.getD v28.toNat Z6).Parent)) I o3 I I I) I ?_
         refine Z1 I (st_mlookupOk (l := v25) (a := (v21.getD v28.toNat Z6).Parent) (kv := (.int .i64 (v21.getD v28.toNat Z6).Parent)) I mt110 I I (.inl I) I I) I <| Z1 I (Zh (v := (.tup [(Zc ((mget Z38 (v21.getD v28.toNat Z6).Parent v25).getD Z6)), (.bool (mget Z38 (v21.getD v28.toNat Z6).Parent v25).isSome)])) I I) I <| Z1 I (Z21 (vs := [(Zc ((mget Z38 (v21.getD v28.toNat Z6).Parent v25).getD Z6)), (.bool (mget Z38 (v21.getD v28.toNat Z6).Parent v25).isSome)]) (v := (Zc ((mget Z38 (v21.getD v28.toNat Z6).Parent v25).getD Z6))) I I I) I <| Z1 I (Z21 (vs := [(Zc ((mget Z38 (v21.getD v28.toNat Z6).Parent v25).getD Z6)), (.bool (mget Z38 (v21.getD v28.toNat Z6).Parent v25).isSome)]) (v := (.bool (mget Z38 (v21.getD v28.toNat Z6).Parent v25).isSome)) I I I) I <| Z1 I (Z22 (cs := [(.int .i64 0), (.int .i64 0), (.int .i64 0), (.int .i64 0), (.int .i64 0), (.int .i64 0), (.str []), (.str []), (.str []), (.int .i64 0), (.int .i64 0), (.bool false), (.sl 4 [] false), (.sl 2 [] false)]) I z56 I I I) I <| Z1 I (Z1j (cs := [(.int .i64 0), (.int .i64 0), (.int .i64 0), (.int .i64 0), (.int .i64 0), (.int .i64 0), (.str []), (.str []), (.str []), (.int .i64 0), (.int .i64 0), (.bool false), (.sl 4 [] false), (.sl 2 [] false)]) (vs := (Zc ((mget Z38 (v21.getD v28.toNat Z6).Parent v25).getD Z6)).cells) (ds := (Zc ((mget Z38 (v21.getD v28.toNat Z6).Parent v25).getD Z6)).cells) (v := (Zc ((mget Z38 (v21.getD v28.toNat Z6).Parent v25).getD Z6))) sz56 I I I I I I I I) I <| Z1 I (Zi (v := (.bool (mget Z38 (v21.getD v28.toNat Z6).Parent v25).isSome)) I I) I <| Ze ?_
         refine Zf <| Zg <| Za <| Z1 I (Zh (v := (.bool (mget Z38 (v21.getD v28.toNat Z6).Parent v25).isSome)) I I) I <| Z1 I (Zh (v := (.bool (mget Z38 (v21.getD v28.toNat Z6).Parent v25).isSome)) I I) I ?_
         have hif := Z1y h
         refine AOps.split (fun hc => ?_) (fun hc => ?_)
         ·have h := hif.1 hc
          refine Zy I I I I (Zp (m := 14) (o := 0) I f56_6 I I) I <| Zy I I I I (Zu (cs := (Zc ((mget Z38 (v21.getD v28.toNat Z6).Parent v25).getD Z6)).cells) (v := (.str ((mget Z38 (v21.getD v28.toNat Z6).Parent v25).getD Z6).Service)) I o9 I I I) I <| Zy I I I I (Zp (m := 13) (o := 0) I f56_6 I I) I <| Zy I I I I (Zu (cs := (Zc (v21.getD v28.toNat Z6)).cells) (v := (.str (v21.getD v28.toNat Z6).Service)) I o9 I I I) I <| Zy I I I I (Z2z (a := ((mget Z38 (v21.getD v28.toNat Z6).Parent v25).getD Z6).Service) (b := (v21.getD v28.toNat Z6).Service) (c := (!(((mget Z38 (v21.getD v28.toNat Z6).Parent v25).getD Z6).Service == (v21.getD v28.toNat Z6).Service))) I I I I) I <| Z1 I (Z2d (v := (.bool (!(((mget Z38 (v21.getD v28.toNat Z6).Parent v25).getD Z6).Service == (v21.getD v28.toNat Z6).Service)))) I I I) I <| Ze <| Zf ?_
          refine AWp.join (V := Bool × (List (Zq × Zl))) (lp := fun v => F17_j52 K (Z61 K v21 a0 v5 v25 (Z8d K (Z67 K a0 (Z4n K) k9) v5) k32) v28 v49 v.1 v.2 = some r) (sh := fun v => ⟨[(2, (.ptr 2 0)), (4, (.ptr 96 0)), (8, (.map 26)), (11, (.int .i64 (a0.getD v5.toNat Zo).Weight)), (17, (.vs 2000)), (18, (.int .i64 (a0.length : Int))), (19, (.int .i64 v5)), (40, (.sl 14 (v21.map Zc) false)), (41, (.int .i64 (v21.length : Int))), (42, (.int .i64 v28))], [(2, (.box [(.sl 4 [] false), (.sl 5 [] false)])), (16, (.map (Z19 Z1f Z2 v49.2))), (26, (.map (Z19 Z15 Zc v25))), (96, (.box [(.map 16), (.map 97), (.bool v.1)])), (97, (.map (Z19 Zm Z3 v.2))), (2000, (.vec 3 (List.map Z1o a0)))]⟩) ?_ ?_
          ·intro v h
           obtain ⟨v50, v51⟩ := v
           try dsimp only at h ⊢
           unfold F17_j52 at h
           refine At.end ?_
           exact Zw (st' := ⟨[(2, (.ptr 2 0)), (4, (.ptr 96 0)), (8, (.map 26)), (11, (.int .i64 (a0.getD v5.toNat Zo).Weight)), (17, (.vs 2000)), (18, (.int .i64 (a0.length : Int))), (19, (.int .i64 v5)), (40, (.sl 14 (v21.map Zc) false)), (41, (.int .i64 (v21.length : Int))), (42, (.int .i64 v28))], [(2, (.box [(.sl 4 [] false), (.sl 5 [] false)])), (16, (.map (Z19 Z1f Z2 v49.2))), (26, (.map (Z19 Z15 Zc v25))), (96, (.box [(.map 16), (.map 97), (.bool v50)])), (97, (.map (Z19 Zm Z3 v51))), (2000, (.vec 3 (List.map Z1o a0)))]⟩) ⟨rfl, rfl, rfl, rfl, rfl, rfl, rfl, rfl, rfl, rfl, trivial⟩ ⟨rfl, rfl, rfl, rfl, rfl, rfl, trivial⟩ (J42 (v50, v49.2, v51) h)
          ·intro J52
           have hif := Z1y h
           refine Z13 I (fun hc => ?_) (fun hc => ?_)
           ·have h := hif.1 hc
            refine AWp.regionD mixed <| Z9 0 I (Zh (v := (.ptr 96 0)) I I) <| Z9 1 I (Zp (m := 14) (o := 0) I f56_6 I I) <| Z9 2 I (Zu (cs := (Zc ((mget Z38 (v21.getD v28.toNat Z6).Parent v25).getD Z6)).cells) (v := (.str ((mget Z38 (v21.getD v28.toNat Z6).Parent v25).getD Z6).Service)) I o9 I I I) <| Z9 3 I (Zp (m := 13) (o := 0) I f56_6 I I) <| Z9 4 I (Zu (cs := (Zc (v21.getD v28.toNat Z6)).cells) (v := (.str (v21.getD v28.toNat Z6).Service)) I o9 I I I) <| Z9 5 I (Zh (v := (.int .i64 (a0.getD v5.toNat Zo).Weight)) I I) <| Z9 6 I (Zp (m := 13) (o := 0) I f56_11 I I) ?_
            refine Z9 7 I (Zu (cs := (Zc (v21.getD v28.toNat Z6)).cells) (v := (.bool (v21.getD v28.toNat Z6).Error)) I o4 I I I) <| Z9 8 I (Zh (v := (.int .i64 (a0.getD v5.toNat Zo).Weight)) I I) ?_
            have ⟨v54, hv54, h⟩ := Z1g h
            refine Z9 9 I (Z1i (ar := [(.bool (v21.getD v28.toNat Z6).Error), (.int .i64 (a0.getD v5.toNat Zo).Weight)]) (caps := []) Tryz.call49 (F49_ok K (v21.getD v28.toNat Z6).Error (a0.getD v5.toNat Zo).Weight v54 hv54) I I ⟨rfl, rfl, trivial⟩ I) <| Z9 10 I (Z1q (cs := (Zc (v21.getD v28.toNat Z6)).cells) (vs := (Zc (v21.getD v28.toNat Z6)).cells) I a56 I I I I) ?_
            have ⟨v56, hv56, h⟩ := Z1g h
            refine Z9 11 I (Z1i (ar := [(Zc (v21.getD v28.toNat Z6))]) (caps := []) Tryz.call51 (F51_ok K (v21.getD v28.toNat Z6) v56 hv56) I I ⟨rfl, trivial⟩ I) <| Z9 12 I (Zh (v := (.int .i64 (a0.getD v5.toNat Zo).Weight)) I I) <| Z9 13 I (Z1n (k := .i64) (a := v56) (b := (a0.getD v5.toNat Zo).Weight) (c := (IntKind.i64.wrap (v56 * (a0.getD v5.toNat Zo).Weight))) I I I I) <| Z9 14 I (Z29 (vs := [(0, (.str ((mget Z38 (v21.getD v28.toNat Z6).Parent v25).getD Z6).Service)), (1, (.str (v21.getD v28.toNat Z6).Service)), (2, (.int .i64 (a0.getD v5.toNat Zo).Weight)), (3, (.int .i64 v54)), (4, (.int .i64 (IntKind.i64.wrap (v56 * (a0.getD v5.toNat Zo).Weight))))]) (cs := [(.str ((mget Z38 (v21.getD v28.toNat Z6).Parent v25).getD Z6).Service), (.str (v21.getD v28.toNat Z6).Service), (.int .i64 (a0.getD v5.toNat Zo).Weight), (.int .i64 v54), (.int .i64 (IntKind.i64.wrap (v56 * (a0.getD v5.toNat Zo).Weight)))]) I st88 ⟨rfl, rfl, rfl, rfl, rfl, rfl, rfl, rfl, rfl, rfl, trivial⟩ I) ?_
            have ⟨v58, hv58, h⟩ := Z1g h
            refine Z9 15 I (Z33 (d := some 91) (c := ⟨[(.ptr 96 0), (.ag [(.str ((mget Z38 (v21.getD v28.toNat Z6).Parent v25).getD Z6).Service), (.str (v21.getD v28.toNat Z6).Service), (.int .i64 (a0.getD v5.toNat Zo).Weight), (.int .i64 v54), (.int .i64 (IntKind.i64.wrap (v56 * (a0.getD v5.toNat Zo).Weight)))])] ++ [], [(96, (.box [(.map 16), (.map 97), (.bool v49.1)])), (16, (.map (Z19 Z1f Z2 v49.2))), (97, (.map (Z19 Zm Z3 v31)))], (.tup []), [(96, (.box [(.map 16), (.map 97), (.bool v58.1)])), (16, (.map (Z19 Z1f Z2 v49.2))), (97, (.map (Z19 Zm Z3 v58.2)))], []⟩) (ar := [(.ptr 96 0), (.ag [(.str ((mget Z38 (v21.getD v28.toNat Z6).Parent v25).getD Z6).Service), (.str (v21.getD v28.toNat Z6).Service), (.int .i64 (a0.getD v5.toNat Zo).Weight), (.int .i64 v54), (.int .i64 (IntKind.i64.wrap (v56 * (a0.getD v5.toNat Zo).Weight)))])]) (caps := []) (news := []) (forg := []) Tryz.call50 ((((F50_ok K (⟨((mget Z38 (v21.getD v28.toNat Z6).Parent v25).getD Z6).Service, (v21.getD v28.toNat Z6).Service, (a0.getD v5.toNat Zo).Weight, v54, (IntKind.i64.wrap (v56 * (a0.getD v5.toNat Zo).Weight))⟩ : Zl) v49.1 v49.2 v31 v58 hv58).sw 2000 96).sw 2001 16).sw 2002 97) I I ⟨rfl, rfl, trivial⟩ I ⟨rfl, rfl, rfl, trivial⟩ I) <| AOpsD.nil (by kernel_rfl) I ?_
            exact Zw (st' := ⟨[(2, (.ptr 2 0)), (4, (.ptr 96 0)), (8, (.map 26)), (11, (.int .i64 (a0.getD v5.toNat Zo).Weight)), (17, (.vs 2000)), (18, (.int .i64 (a0.length : Int))), (19, (.int .i64 v5)), (40, (.sl 14 (v21.map Zc) false)), (41, (.int .i64 (v21.length : Int))), (42, (.int .i64 v28))], [(2, (.box [(.sl 4 [] false), (.sl 5 [] false)])), (16, (.map (Z19 Z1f Z2 v49.2))), (26, (.map (Z19 Z15 Zc v25))), (96, (.box [(.map 16), (.map 97), (.bool v58.1)])), (97, (.map (Z19 Zm Z3 v58.2))), (2000, (.vec 3 (List.map Z1o a0)))]⟩) ⟨rfl, rfl, rfl, rfl, rfl, rfl, rfl, rfl, rfl, rfl, trivial⟩ ⟨rfl, rfl, rfl, rfl, rfl, rfl, trivial⟩ (J52 (v58.1, v58.2) h)
           ·have h := hif.2 hc
            refine Z16 ?_
            exact Zw (st' := ⟨[(2, (.ptr 2 0)), (4, (.ptr 96 0)), (8, (.map 26)), (11, (.int .i64 (a0.getD v5.toNat Zo).Weight)), (17, (.vs 2000)), (18, (.int .i64 (a0.length : Int))), (19, (.int .i64 v5)), (40, (.sl 14 (v21.map Zc) false)), (41, (.int .i64 (v21.length : Int))), (42, (.int .i64 v28))], [(2, (.box [(.sl 4 [] false), (.sl 5 [] false)])), (16, (.map (Z19 Z1f Z2 v49.2))), (26, (.map (Z19 Z15 Zc v25))), (96, (.box [(.map 16), (.map 97), (.bool v49.1)])), (97, (.map (Z19 Zm Z3 v31))), (2000, (.vec 3 (List.map Z1o a0)))]⟩) ⟨rfl, rfl, rfl, rfl, rfl, rfl, rfl, rfl, rfl, rfl, trivial⟩ ⟨rfl, rfl, rfl, rfl, rfl, rfl, trivial⟩ (J52 (v49.1, v31) h)
         ·have h := hif.2 hc
          refine Zt I I I I I I I <| Zt I I I I I I I <| Zt I I I I I I I <| Zt I I I I I I I <| Zt I I I I I I I <| Z1 I (Z2a (v := (.bool false)) I I I) I <| Ze <| Zf ?_
          refine Z13 (b := false) I (fun hc => ?_) (fun hc => ?_)
          ·cases hc
          refine Z16 <| At.end ?_
          exact Zw (st' := ⟨[(2, (.ptr 2 0)), (4, (.ptr 96 0)), (8, (.map 26)), (11, (.int .i64 (a0.getD v5.toNat Zo).Weight)), (17, (.vs 2000)), (18, (.int .i64 (a0.length : Int))), (19, (.int .i64 v5)), (40, (.sl 14 (v21.map Zc) false)), (41, (.int .i64 (v21.length : Int))), (42, (.int .i64 v28))], [(2, (.box [(.sl 4 [] false), (.sl 5 [] false)])), (16, (.map (Z19 Z1f Z2 v49.2))), (26, (.map (Z19 Z15 Zc v25))), (96, (.box [(.map 16), (.map 97), (.bool v49.1)])), (97, (.map (Z19 Zm Z3 v31))), (2000, (.vec 3 (List.map Z1o a0)))]⟩) ⟨rfl, rfl, rfl, rfl, rfl, rfl, rfl, rfl, rfl, rfl, trivial⟩ ⟨rfl, rfl, rfl, rfl, rfl, rfl, trivial⟩ (J42 (v49.1, v49.2, v31) h)
       ·have h := hif.2 hc
        refine AWp.exit <| At.thru ?_
        exact Zw (st' := ⟨[(2, (.ptr 2 0)), (4, (.ptr 96 0)), (17, (.vs 2000)), (18, (.int .i64 (a0.length : Int))), (19, (.int .i64 v5))], [(2, (.box [(.sl 4 [] false), (.sl 5 [] false)])), (16, (.map (Z19 Z1f Z2 v30))), (96, (.box [(.map 16), (.map 97), (.bool v29)])), (97, (.map (Z19 Zm Z3 v31))), (2000, (.vec 3 (List.map Z1o a0)))]⟩) ⟨rfl, rfl, rfl, rfl, rfl, trivial⟩ ⟨rfl, rfl, rfl, rfl, rfl, trivial⟩ (J32 (v29, v30, v31) h)
    ·intro N k24 v h IH24 J24
     obtain ⟨v22, v23⟩ := v
     try dsimp only at h IH24 J24 ⊢
     cases k24 with
     | zero => cases h
     | succ k24 =>
      rw [F17_l24] at h
      refine Zg <| Za <| Z1 I (Z1w (k := .i64) (a := v22) (b := (v21.length : Int)) (c := (decide (v22 < (v21.length : Int)))) I I I I) I <| Ze <| Zf <| Zg ?_
      have hif := Z1y h
      refine Z13 I (fun hc => ?_) (fun hc => ?_)
      ·have h := hif.1 hc
       refine Z16 <| Zf <| Zg <| AWp.block <| Zg <| Za ?_
       have ⟨hg60, h⟩ := Zv h
       refine Z1 I (Z1s (k := .i64) (l := v21) (enc := Zc) (z := Z6) (n := v22) (cs := (Zc (v21.getD v22.toNat Z6)).cells) (full := false) I s37 I I hg60 I) I <| Z1 I (Z2k (cs := (Zc (v21.getD v22.toNat Z6)).cells) (vs := (Zc (v21.getD v22.toNat Z6)).cells) I a56 I I I) I <| Z1 I (Z22 (cs := [(.int .i64 0), (.int .i64 0), (.int .i64 0), (.int .i64 0), (.int .i64 0), (.int .i64 0), (.str []), (.str []), (.str []), (.int .i64 0), (.int .i64 0), (.bool false), (.sl 4 [] false), (.sl 2 [] false)]) I z56 I I I) I <| Z1 I (Z1j (cs := [(.int .i64 0), (.int .i64 0), (.int .i64 0), (.int .i64 0), (.int .i64 0), (.int .i64 0), (.str []), (.str []), (.str []), (.int .i64 0), (.int .i64 0), (.bool false), (.sl 4 [] false), (.sl 2 [] false)]) (vs := (Zc (v21.getD v22.toNat Z6)).cells) (ds := (Zc (v21.getD v22.toNat Z6)).cells) (v := (Zc (v21.getD v22.toNat Z6))) sz56 I I I I I I I I) I <| Ze <| Zf <| Za <| Z1 I (Zh (v := (.map 26)) I I) I ?_
       refine Z1 I (Zp (m := 10) (o := 0) I f56_1 I I) I <| Z1 I (Zu (cs := (Zc (v21.getD v22.toNat Z6)).cells) (v := (.int .i64 (v21.getD v22.toNat Z6).Id)) I o3 I I I) I <| Z1 I (Z1q (cs := (Zc (v21.getD v22.toNat Z6)).cells) (vs := (Zc (v21.getD v22.toNat Z6)).cells) I a56 I I I I) I <| Z1 I (Z5w (l := v23) (a := (v21.getD v22.toNat Z6).Id) (b := (v21.getD v22.toNat Z6)) (kv := (.int .i64 (v21.getD v22.toNat Z6).Id)) (vv := (Zc (v21.getD v22.toNat Z6))) mt110 I I I I I I) I <| Ze <| At.end <| Zf <| Za ?_
       refine Z1 I (Z1n (k := .i64) (a := v22) (b := 1) (c := (IntKind.i64.wrap (v22 + 1))) I I I I) I <| Z1 I (Zh (v := (.int .i64 (IntKind.i64.wrap (v22 + 1)))) I I) I <| Ze ?_
       exact Zw (st' := ⟨[(2, (.ptr 2 0)), (4, (.ptr 96 0)), (6, (.ptr 6 0)), (7, (.sl 14 (v21.map Zc) false)), (8, (.map 26)), (17, (.vs 2000)), (18, (.int .i64 (a0.length : Int))), (19, (.int .i64 v5)), (27, (.sl 14 (v21.map Zc) false)), (28, (.int .i64 (v21.length : Int))), (29, (.int .i64 (IntKind.i64.wrap (v22 + 1))))], [(2, (.box [(.sl 4 [] false), (.sl 5 [] false)])), (6, (.box (Z1o (a0.getD v5.toNat Zo)).cells)), (16, (.map (Z19 Z1f Z2 v7))), (26, (.map (Z19 Z15 Zc (mput Z38 (v21.getD v22.toNat Z6).Id (v21.getD v22.toNat Z6) v23)))), (96, (.box [(.map 16), (.map 97), (.bool v6)])), (97, (.map (Z19 Zm Z3 v8))), (2000, (.vec 3 (List.map Z1o a0)))]⟩) ⟨rfl, rfl, rfl, rfl, rfl, rfl, rfl, rfl, rfl, rfl, rfl, trivial⟩ ⟨rfl, rfl, rfl, rfl, rfl, rfl, rfl, trivial⟩ (IH24 _ ((IntKind.i64.wrap (v22 + 1)), (mput Z38 (v21.getD v22.toNat Z6).Id (v21.getD v22.toNat Z6) v23)) (Nat.lt_succ_self _) h)
      ·have h := hif.2 hc
       refine AWp.exit <| At.thru ?_
       exact Zw (st' := ⟨[(2, (.ptr 2 0)), (4, (.ptr 96 0)), (6, (.ptr 6 0)), (7, (.sl 14 (v21.map Zc) false)), (8, (.map 26)), (17, (.vs 2000)), (18, (.int .i64 (a0.length : Int))), (19, (.int .i64 v5))], [(2, (.box [(.sl 4 [] false), (.sl 5 [] false)])), (6, (.box (Z1o (a0.getD v5.toNat Zo)).cells)), (16, (.map (Z19 Z1f Z2 v7))), (26, (.map (Z19 Z15 Zc v23))), (96, (.box [(.map 16), (.map 97), (.bool v6)])), (97, (.map (Z19 Zm Z3 v8))), (2000, (.vec 3 (List.map Z1o a0)))]⟩) ⟨rfl, rfl, rfl, rfl, rfl, rfl, rfl, rfl, trivial⟩ ⟨rfl, rfl, rfl, rfl, rfl, rfl, rfl, trivial⟩ (J24 v23 h)
   ·have h := hif.2 hc
    refine AWp.exit <| At.thru ?_
    exact Zw (st' := ⟨[(2, (.ptr 2 0)), (4, (.ptr 96 0))], [(2, (.box [(.sl 4 [] false), (.sl 5 [] false)])), (16, (.map (Z19 Z1f Z2 v7))), (96, (.box [(.map 16), (.map 97), (.bool v6)])), (97, (.map (Z19 Zm Z3 v8))), (2000, (.vec 3 (List.map Z1o a0)))]⟩) ⟨rfl, rfl, trivial⟩ ⟨rfl, rfl, rfl, rfl, rfl, trivial⟩ (J9 (v6, v7, v8) h)
def Zbq (K : Nat) : Option (Bool) :=
 some true
def Z9s (K : Nat) (a0 : Zb) (a1 : Zb) (c8 : Option (Bool)) : Nat → Int → Option (Bool)
 | 0, _ => none
 | k6 + 1, v5 =>
  if (decide (v5 < (a0.Calls.length : Int))) = true then
   if (0 : Int) ≤ v5 ∧ v5 < a0.Calls.length then
    if (0 : Int) ≤ v5 ∧ v5 < a1.Calls.length then
     if (!(((a0.Calls.getD v5.toNat Z4).Caller == (a1.Calls.getD v5.toNat Z4).Caller) && (((a0.Calls.getD v5.toNat Z4).Callee == (a1.Calls.getD v5.toNat Z4).Callee) && (((a0.Calls.getD v5.toNat Z4).Count == (a1.Calls.getD v5.toNat Z4).Count) && (((a0.Calls.getD v5.toNat Z4).Errors == (a1.Calls.getD v5.toNat Z4).Errors) && (((a0.Calls.getD v5.toNat Z4).Time == (a1.Calls.getD v5.toNat Z4).Time) && true)))))) = true then
      some false
     else
      (Z9s K a0 a1 c8 k6) (IntKind.i64.wrap (v5 + 1))
    else none
   else none
  else
   c8
def Zbl (K : Nat) (a0 : Zb) (a1 : Zb) : Option (Bool) :=
 Z9s K a0 a1 (Zbq K) K 0
def Zb0 (K : Nat) (a0 : Zb) (a1 : Zb) (c4 : Option (Bool)) : Nat → Int → Option (Bool)
 | 0, _ => none
 | k2 + 1, v1 =>
  if (decide (v1 < (a0.Services.length : Int))) = true then
   if (0 : Int) ≤ v1 ∧ v1 < a0.Services.length then
    if (0 : Int) ≤ v1 ∧ v1 < a1.Services.length then
     if (!(((a0.Services.getD v1.toNat Z7).Name == (a1.Services.getD v1.toNat Z7).Name) && (((a0.Services.getD v1.toNat Z7).Spans == (a1.Services.getD v1.toNat Z7).Spans) && (((a0.Services.getD v1.toNat Z7).Errors == (a1.Services.getD v1.toNat Z7).Errors) && (((a0.Services.getD v1.toNat Z7).Roots == (a1.Services.getD v1.toNat Z7).Roots) && true))))) = true then
      some false
     else
      (Zb0 K a0 a1 c4 k2) (IntKind.i64.wrap (v1 + 1))
    else none
   else none
  else
   c4
def F19 (K : Nat) (a0 : Zb) (a1 : Zb) : Option (Bool) :=
 if ((a0.Services.length : Int) != (a1.Services.length : Int)) = true then
  some false
 else
  if ((a0.Calls.length : Int) != (a1.Calls.length : Int)) = true then
   some false
  else
   Zb0 K a0 a1 (Zbl K a0 a1) K 0
theorem F19_ok (K : Nat) (a0 : Zb) (a1 : Zb) (r : Bool) (h : F19 K a0 a1 = some r) : ACall P 19 ⟨[(Z5 a0), (Z5 a1)], [], (.bool r), [], []⟩ := by
 refine Z1p Tryz.func19 Tryz.results19 rfl Tryz.ntmps19 rfl rfl rfl ?_
 intro E Q hP hN hro hret
 obtain ⟨P', nt', w0, F0, p0, S0, β0, ro0⟩ := E
 simp only at hP hN
 subst hP hN
 dsimp only [argT]
 unfold F19 at h
 refine Zg <| Za <| Z1 I (Z2l (v := (Z5 a0)) (cs := (Z5 a0).cells) I I I I I) I <| Z1 I (Z2l (v := (Z5 a1)) (cs := (Z5 a1).cells) I I I I I) I <| Z1 I (Zi (v := (.bool false)) I I) I <| Ze <| Zf <| Zg ?_
 refine Zg <| Za <| Z1 I (Zp (m := 2) (o := 0) I Z4a I I) I <| Z1 I (Zu (cs := (Z5 a0).cells) (v := (.sl 4 (a0.Services.map Z2) false)) I o41 I I I) I <| Z1 I (Z24 (l := a0.Services) (enc := Z2) I s41 I) I <| Z1 I (Zp (m := 3) (o := 0) I Z4a I I) I <| Z1 I (Zu (cs := (Z5 a1).cells) (v := (.sl 4 (a1.Services.map Z2) false)) I o41 I I I) I <| Z1 I (Z24 (l := a1.Services) (enc := Z2) I s41 I) I ?_
 refine Z1 I (Z1w (k := .i64) (a := (a0.Services.length : Int)) (b := (a1.Services.length : Int)) (c := ((a0.Services.length : Int) != (a1.Services.length : Int))) I I I I) I <| Z1 I (Zh (v := (.bool ((a0.Services.length : Int) != (a1.Services.length : Int)))) I I) I ?_
 have hif := Z1y h
 refine AOps.split (fun hc => ?_) (fun hc => ?_)
 ·have h := hif.1 hc
  refine Zt I I I I I I I <| Zt I I I I I I I <| Zt I I I I I I I <| Zt I I I I I I I <| Zt I I I I I I I <| Zt I I I I I I I <| Zt I I I I I I I <| Z1 I (Z2d (v := (.bool true)) I I I) I ?_
  refine Ze <| Zf ?_
  refine Z13 (b := true) I (fun hc => ?_) (fun hc => ?_)
  rotate_left
  ·cases hc
  refine Zg <| Za <| Z1 I (Zi (v := (.bool false)) I I) I <| Ze <| Zf <| Z1a <| Z1b ?_
  have h := Option.some.inj h
  subst h
  refine (hret _ ?_).1
  exact ⟨[(.bool false)], ⟨rfl, trivial⟩, rfl, trivial⟩
 ·have h := hif.2 hc
  refine Zy I I I I (Zp (m := 2) (o := 0) I Z3y I I) I <| Zy I I I I (Zu (cs := (Z5 a0).cells) (v := (.sl 5 (a0.Calls.map Z3) false)) I o42 I I I) I <| Zy I I I I (Z24 (l := a0.Calls) (enc := Z3) I s42 I) I <| Zy I I I I (Zp (m := 3) (o := 0) I Z3y I I) I <| Zy I I I I (Zu (cs := (Z5 a1).cells) (v := (.sl 5 (a1.Calls.map Z3) false)) I o42 I I I) I <| Zy I I I I (Z24 (l := a1.Calls) (enc := Z3) I s42 I) I <| Zy I I I I (Z1w (k := .i64) (a := (a0.Calls.length : Int)) (b := (a1.Calls.length : Int)) (c := ((a0.Calls.length : Int) != (a1.Calls.length : Int))) I I I I) I <| Z1 I (Z2a (v := (.bool ((a0.Calls.length : Int) != (a1.Calls.length : Int)))) I I I) I ?_
  refine Ze <| Zf ?_
  have hif := Z1y h
  refine Z13 I (fun hc => ?_) (fun hc => ?_)
  ·have h := hif.1 hc
   refine Zg <| Za <| Z1 I (Zi (v := (.bool false)) I I) I <| Ze <| Zf <| Z1a <| Z1b ?_
   have h := Option.some.inj h
   subst h
   refine (hret _ ?_).1
   exact ⟨[(.bool false)], ⟨rfl, trivial⟩, rfl, trivial⟩
  ·have h := hif.2 hc
   refine Z16 <| Zf <| Zg <| Zg <| Za <| Z1 I (Zi (v := (.int .i64 0)) I I) I <| Ze <| Zf ?_
   refine Z1t (st' := ⟨[(2, (.ptr 2 0)), (3, (.ptr 3 0)), (5, (.int .i64 0))], [(2, (.box (Z5 a0).cells)), (3, (.box (Z5 a1).cells))]⟩) ⟨rfl, rfl, rfl, trivial⟩ ⟨rfl, rfl, trivial⟩ ?_
   refine Z1h (V := Int) (X := Unit) (lp := fun k v => Zb0 K a0 a1 (Zbl K a0 a1) k v = some r) (sh := fun v => ⟨[(2, (.ptr 2 0)), (3, (.ptr 3 0)), (5, (.int .i64 v))], [(2, (.box (Z5 a0).cells)), (3, (.box (Z5 a1).cells))]⟩) (x := fun v => Zbl K a0 a1 = some r) (shx := fun v => ⟨[(2, (.ptr 2 0)), (3, (.ptr 3 0))], [(2, (.box (Z5 a0).cells)), (3, (.box (Z5 a1).cells))]⟩) (k := K) (v := 0) h ?_ ?_
   ·intro v h
    try dsimp only at h ⊢
    unfold Zbl at h
    refine Zf <| Zg <| Zg <| Za <| Z1 I (Zi (v := (.int .i64 0)) I I) I <| Ze <| Zf <| Z1t (st' := ⟨[(2, (.ptr 2 0)), (3, (.ptr 3 0)), (6, (.int .i64 0))], [(2, (.box (Z5 a0).cells)), (3, (.box (Z5 a1).cells))]⟩) ⟨rfl, rfl, rfl, trivial⟩ ⟨rfl, rfl, trivial⟩ ?_
    refine Z1h (V := Int) (X := Unit) (lp := fun k v => Z9s K a0 a1 (Zbq K) k v = some r) (sh := fun v => ⟨[(2, (.ptr 2 0)), (3, (.ptr 3 0)), (6, (.int .i64 v))], [(2, (.box (Z5 a0).cells)), (3, (.box (Z5 a1).cells))]⟩) (x := fun v => Zbq K = some r) (shx := fun v => ⟨[], []⟩) (k := K) (v := 0) h ?_ ?_
    ·intro v h
     try dsimp only at h ⊢
     unfold Zbq at h
     refine Zf <| Zg <| Za <| Z1 I (Zi (v := (.bool true)) I I) I <| Ze <| Zf <| Z1a ?_
     have h := Option.some.inj h
     subst h
     refine (hret _ ?_).1
     exact ⟨[(.bool true)], ⟨rfl, trivial⟩, rfl, trivial⟩
    ·intro N k6 v h IH6 J6
     revert h
     revert v
     intro v5 h
     try dsimp only at h IH6 J6 ⊢
     cases k6 with
     | zero => cases h
     | succ k6 =>
      rw [Z9s] at h
      refine Zg <| Zg <| Za <| Z1 I (Zh (v := (.int .i64 v5)) I I) I <| Z1 I (Zp (m := 2) (o := 0) I Z3y I I) I <| Z1 I (Zu (cs := (Z5 a0).cells) (v := (.sl 5 (a0.Calls.map Z3) false)) I o42 I I I) I <| Z1 I (Z24 (l := a0.Calls) (enc := Z3) I s42 I) I <| Z1 I (Z1w (k := .i64) (a := v5) (b := (a0.Calls.length : Int)) (c := (decide (v5 < (a0.Calls.length : Int)))) I I I I) I ?_
      refine Ze <| Zf ?_
      have hif := Z1y h
      refine Z13 I (fun hc => ?_) (fun hc => ?_)
      ·have h := hif.1 hc
       refine Z16 <| Zf <| Zg <| AWp.block <| Zg <| AWp.regionD mixed <| Z9 0 I (Zp (m := 2) (o := 0) I Z3y I I) <| Z9 1 I (Zu (cs := (Z5 a0).cells) (v := (.sl 5 (a0.Calls.map Z3) false)) I o42 I I I) ?_
       refine Z9 2 I (Zh (v := (.int .i64 v5)) I I) ?_
       have ⟨hg10, h⟩ := Zv h
       refine Z9 3 I (Z1s (k := .i64) (l := a0.Calls) (enc := Z3) (z := Z4) (n := v5) (cs := (Z3 (a0.Calls.getD v5.toNat Z4)).cells) (full := false) I s42 I I hg10 I) <| Z9 4 I (Z2k (cs := (Z3 (a0.Calls.getD v5.toNat Z4)).cells) (vs := (Z3 (a0.Calls.getD v5.toNat Z4)).cells) I a88 I I I) <| Z9 5 I (Zp (m := 3) (o := 0) I Z3y I I) <| Z9 6 I (Zu (cs := (Z5 a1).cells) (v := (.sl 5 (a1.Calls.map Z3) false)) I o42 I I I) <| Z9 7 I (Zh (v := (.int .i64 v5)) I I) ?_
       have ⟨hg11, h⟩ := Zv h
       refine Z9 8 I (Z1s (k := .i64) (l := a1.Calls) (enc := Z3) (z := Z4) (n := v5) (cs := (Z3 (a1.Calls.getD v5.toNat Z4)).cells) (full := false) I s42 I I hg11 I) <| Z9 9 I (Z2k (cs := (Z3 (a1.Calls.getD v5.toNat Z4)).cells) (vs := (Z3 (a1.Calls.getD v5.toNat Z4)).cells) I a88 I I I) <| Z9 10 I (Zac (xs := (Z3 (a0.Calls.getD v5.toNat Z4)).cells) (ys := (Z3 (a1.Calls.getD v5.toNat Z4)).cells) (b := (((a0.Calls.getD v5.toNat Z4).Caller == (a1.Calls.getD v5.toNat Z4).Caller) && (((a0.Calls.getD v5.toNat Z4).Callee == (a1.Calls.getD v5.toNat Z4).Callee) && (((a0.Calls.getD v5.toNat Z4).Count == (a1.Calls.getD v5.toNat Z4).Count) && (((a0.Calls.getD v5.toNat Z4).Errors == (a1.Calls.getD v5.toNat Z4).Errors) && (((a0.Calls.getD v5.toNat Z4).Time == (a1.Calls.getD v5.toNat Z4).Time) && true)))))) (c := (!(((a0.Calls.getD v5.toNat Z4).Caller == (a1.Calls.getD v5.toNat Z4).Caller) && (((a0.Calls.getD v5.toNat Z4).Callee == (a1.Calls.getD v5.toNat Z4).Callee) && (((a0.Calls.getD v5.toNat Z4).Count == (a1.Calls.getD v5.toNat Z4).Count) && (((a0.Calls.getD v5.toNat Z4).Errors == (a1.Calls.getD v5.toNat Z4).Errors) && (((a0.Calls.getD v5.toNat Z4).Time == (a1.Calls.getD v5.toNat Z4).Time) && true))))))) I eq88 I I I I) <| AOpsD.nil (by kernel_rfl) I <| Zf ?_
       have hif := Z1y h
       refine Z13 I (fun hc => ?_) (fun hc => ?_)
       ·have h := hif.1 hc
        refine Zg <| Za <| Z1 I (Zi (v := (.bool false)) I I) I <| Ze <| Zf <| Z1a <| At.overR <| Z1b ?_
        refine Z1b (At.overR ?_)
        refine Z1b ?_
        have h := Option.some.inj h
        subst h
        refine (hret _ ?_).1
        exact ⟨[(.bool false)], ⟨rfl, trivial⟩, rfl, trivial⟩
       ·have h := hif.2 hc
        refine Z16 <| At.end <| Zf <| Za <| Z1 I (Zh (v := (.int .i64 v5)) I I) I <| Z1 I (Z1n (k := .i64) (a := v5) (b := 1) (c := (IntKind.i64.wrap (v5 + 1))) I I I I) I <| Z1 I (Zi (v := (.int .i64 (IntKind.i64.wrap (v5 + 1)))) I I) I <| Ze ?_
        exact Zw (st' := ⟨[(2, (.ptr 2 0)), (3, (.ptr 3 0)), (6, (.int .i64 (IntKind.i64.wrap (v5 + 1))))], [(2, (.box (Z5 a0).cells)), (3, (.box (Z5 a1).cells))]⟩) ⟨rfl, rfl, rfl, trivial⟩ ⟨rfl, rfl, trivial⟩ (IH6 _ (IntKind.i64.wrap (v5 + 1)) (Nat.lt_succ_self _) h)
      ·have h := hif.2 hc
       refine AWp.exit <| At.thru ?_
       exact Zw (st' := ⟨[], []⟩) trivial trivial (J6 () h)
   ·intro N k2 v h IH2 J2
    revert h
    revert v
    intro v1 h
    try dsimp only at h IH2 J2 ⊢
    cases k2 with
    | zero => cases h
    | succ k2 =>
     rw [Zb0] at h
     refine Zg <| Zg <| Za <| Z1 I (Zh (v := (.int .i64 v1)) I I) I <| Z1 I (Zp (m := 2) (o := 0) I Z4a I I) I <| Z1 I (Zu (cs := (Z5 a0).cells) (v := (.sl 4 (a0.Services.map Z2) false)) I o41 I I I) I <| Z1 I (Z24 (l := a0.Services) (enc := Z2) I s41 I) I <| Z1 I (Z1w (k := .i64) (a := v1) (b := (a0.Services.length : Int)) (c := (decide (v1 < (a0.Services.length : Int)))) I I I I) I ?_
     refine Ze <| Zf ?_
     have hif := Z1y h
     refine Z13 I (fun hc => ?_) (fun hc => ?_)
     ·have h := hif.1 hc
      refine Z16 <| Zf <| Zg <| AWp.block <| Zg <| AWp.regionD mixed <| Z9 0 I (Zp (m := 2) (o := 0) I Z4a I I) <| Z9 1 I (Zu (cs := (Z5 a0).cells) (v := (.sl 4 (a0.Services.map Z2) false)) I o41 I I I) ?_
      refine Z9 2 I (Zh (v := (.int .i64 v1)) I I) ?_
      have ⟨hg13, h⟩ := Zv h
      refine Z9 3 I (Z1s (k := .i64) (l := a0.Services) (enc := Z2) (z := Z7) (n := v1) (cs := (Z2 (a0.Services.getD v1.toNat Z7)).cells) (full := false) I s41 I I hg13 I) <| Z9 4 I (Z2k (cs := (Z2 (a0.Services.getD v1.toNat Z7)).cells) (vs := (Z2 (a0.Services.getD v1.toNat Z7)).cells) I a68 I I I) <| Z9 5 I (Zp (m := 3) (o := 0) I Z4a I I) <| Z9 6 I (Zu (cs := (Z5 a1).cells) (v := (.sl 4 (a1.Services.map Z2) false)) I o41 I I I) <| Z9 7 I (Zh (v := (.int .i64 v1)) I I) ?_
      have ⟨hg14, h⟩ := Zv h
      refine Z9 8 I (Z1s (k := .i64) (l := a1.Services) (enc := Z2) (z := Z7) (n := v1) (cs := (Z2 (a1.Services.getD v1.toNat Z7)).cells) (full := false) I s41 I I hg14 I) <| Z9 9 I (Z2k (cs := (Z2 (a1.Services.getD v1.toNat Z7)).cells) (vs := (Z2 (a1.Services.getD v1.toNat Z7)).cells) I a68 I I I) <| Z9 10 I (Zac (xs := (Z2 (a0.Services.getD v1.toNat Z7)).cells) (ys := (Z2 (a1.Services.getD v1.toNat Z7)).cells) (b := (((a0.Services.getD v1.toNat Z7).Name == (a1.Services.getD v1.toNat Z7).Name) && (((a0.Services.getD v1.toNat Z7).Spans == (a1.Services.getD v1.toNat Z7).Spans) && (((a0.Services.getD v1.toNat Z7).Errors == (a1.Services.getD v1.toNat Z7).Errors) && (((a0.Services.getD v1.toNat Z7).Roots == (a1.Services.getD v1.toNat Z7).Roots) && true))))) (c := (!(((a0.Services.getD v1.toNat Z7).Name == (a1.Services.getD v1.toNat Z7).Name) && (((a0.Services.getD v1.toNat Z7).Spans == (a1.Services.getD v1.toNat Z7).Spans) && (((a0.Services.getD v1.toNat Z7).Errors == (a1.Services.getD v1.toNat Z7).Errors) && (((a0.Services.getD v1.toNat Z7).Roots == (a1.Services.getD v1.toNat Z7).Roots) && true)))))) I eq68 I I I I) <| AOpsD.nil (by kernel_rfl) I <| Zf ?_
      have hif := Z1y h
      refine Z13 I (fun hc => ?_) (fun hc => ?_)
      ·have h := hif.1 hc
       refine Zg <| Za <| Z1 I (Zi (v := (.bool false)) I I) I <| Ze <| Zf <| Z1a <| At.overR <| Z1b ?_
       refine Z1b (At.overR ?_)
       refine Z1b ?_
       have h := Option.some.inj h
       subst h
       refine (hret _ ?_).1
       exact ⟨[(.bool false)], ⟨rfl, trivial⟩, rfl, trivial⟩
      ·have h := hif.2 hc
       refine Z16 <| At.end <| Zf <| Za <| Z1 I (Zh (v := (.int .i64 v1)) I I) I <| Z1 I (Z1n (k := .i64) (a := v1) (b := 1) (c := (IntKind.i64.wrap (v1 + 1))) I I I I) I <| Z1 I (Zi (v := (.int .i64 (IntKind.i64.wrap (v1 + 1)))) I I) I <| Ze ?_
       exact Zw (st' := ⟨[(2, (.ptr 2 0)), (3, (.ptr 3 0)), (5, (.int .i64 (IntKind.i64.wrap (v1 + 1))))], [(2, (.box (Z5 a0).cells)), (3, (.box (Z5 a1).cells))]⟩) ⟨rfl, rfl, rfl, trivial⟩ ⟨rfl, rfl, trivial⟩ (IH2 _ (IntKind.i64.wrap (v1 + 1)) (Nat.lt_succ_self _) h)
     ·have h := hif.2 hc
      refine AWp.exit <| At.thru ?_
      exact Zw (st' := ⟨[(2, (.ptr 2 0)), (3, (.ptr 3 0))], [(2, (.box (Z5 a0).cells)), (3, (.box (Z5 a1).cells))]⟩) ⟨rfl, rfl, trivial⟩ ⟨rfl, rfl, trivial⟩ (J2 () h)
noncomputable def F11 (K : Nat) : Option (Bool) :=
 (F17 K ([(⟨9, 2, [(⟨9, 1, 0, 0, 1, 1, [119, 101, 98], [], [111], 0, 30, false, [], []⟩ : Zn), (⟨9, 2, 1, 0, 1, 1, [97, 112, 105], [], [111], 0, 10, true, [], []⟩ : Zn), (⟨9, 3, 2, 0, 1, 1, [97, 112, 105], [], [111], 0, 5, false, [], []⟩ : Zn)]⟩ : Zz)])).bind fun v2 =>
  if (v2.1 == 0) = true then
   (F19 K v2.2 (⟨[(⟨[97, 112, 105], 4, 2, 0⟩ : Zd), (⟨[119, 101, 98], 2, 0, 2⟩ : Zd)], [(⟨[119, 101, 98], [97, 112, 105], 2, 2, 20⟩ : Zl)]⟩ : Zb)).bind fun v4 =>
    some v4
  else
   some false
theorem F11_ok (K : Nat) (r : Bool) (h : F11 K = some r) : ACall P 11 ⟨[], [], (.bool r), [], []⟩ := by
 refine Z1p Tryz.func11 Tryz.results11 rfl Tryz.ntmps11 rfl rfl rfl ?_
 intro E Q hP hN hro hret
 obtain ⟨P', nt', w0, F0, p0, S0, β0, ro0⟩ := E
 simp only at hP hN
 subst hP hN
 dsimp only [argT]
 unfold F11 at h
 refine Zg <| Za <| Z1 I (Zi (v := (.bool false)) I I) I <| Ze <| Zf <| Zg <| Za <| Z1 I (Z29 (vs := [(0, (.int .i64 9)), (1, (.int .i64 1)), (4, (.int .i64 1)), (5, (.int .i64 1)), (6, (.str [119, 101, 98])), (8, (.str [111])), (10, (.int .i64 30))]) (cs := [(.int .i64 9), (.int .i64 1), (.int .i64 0), (.int .i64 0), (.int .i64 1), (.int .i64 1), (.str [119, 101, 98]), (.str []), (.str [111]), (.int .i64 0), (.int .i64 30), (.bool false), (.sl 4 [] false), (.sl 2 [] false)]) I st56 ⟨rfl, rfl, rfl, rfl, rfl, rfl, rfl, rfl, rfl, rfl, rfl, rfl, rfl, rfl, trivial⟩ I) I ?_
 refine Z1 I (Z22 (cs := [(.int .i64 0), (.int .i64 0), (.int .i64 0), (.int .i64 0), (.int .i64 0), (.int .i64 0), (.str []), (.str []), (.str []), (.int .i64 0), (.int .i64 0), (.bool false), (.sl 4 [] false), (.sl 2 [] false)]) I z56 I I I) I <| Z1 I (Z1j (cs := [(.int .i64 0), (.int .i64 0), (.int .i64 0), (.int .i64 0), (.int .i64 0), (.int .i64 0), (.str []), (.str []), (.str []), (.int .i64 0), (.int .i64 0), (.bool false), (.sl 4 [] false), (.sl 2 [] false)]) (vs := [(.int .i64 9), (.int .i64 1), (.int .i64 0), (.int .i64 0), (.int .i64 1), (.int .i64 1), (.str [119, 101, 98]), (.str []), (.str [111]), (.int .i64 0), (.int .i64 30), (.bool false), (.sl 4 [] false), (.sl 2 [] false)]) (ds := [(.int .i64 9), (.int .i64 1), (.int .i64 0), (.int .i64 0), (.int .i64 1), (.int .i64 1), (.str [119, 101, 98]), (.str []), (.str [111]), (.int .i64 0), (.int .i64 30), (.bool false), (.sl 4 [] false), (.sl 2 [] false)]) (v := (.ag [(.int .i64 9), (.int .i64 1), (.int .i64 0), (.int .i64 0), (.int .i64 1), (.int .i64 1), (.str [119, 101, 98]), (.str []), (.str [111]), (.int .i64 0), (.int .i64 30), (.bool false), (.sl 4 [] false), (.sl 2 [] false)])) sz56 I I I I I I I I) I <| Ze <| Zf <| Zg <| Za <| Z1 I (Z29 (vs := [(0, (.int .i64 9)), (1, (.int .i64 2)), (2, (.int .i64 1)), (4, (.int .i64 1)), (5, (.int .i64 1)), (6, (.str [97, 112, 105])), (8, (.str [111])), (10, (.int .i64 10)), (11, (.bool true))]) (cs := [(.int .i64 9), (.int .i64 2), (.int .i64 1), (.int .i64 0), (.int .i64 1), (.int .i64 1), (.str [97, 112, 105]), (.str []), (.str [111]), (.int .i64 0), (.int .i64 10), (.bool true), (.sl 4 [] false), (.sl 2 [] false)]) I st56 ⟨rfl, rfl, rfl, rfl, rfl, rfl, rfl, rfl, rfl, rfl, rfl, rfl, rfl, rfl, rfl, rfl, rfl, rfl, trivial⟩ I) I <| Z1 I (Z22 (cs := [(.int .i64 0), (.int .i64 0), (.int .i64 0), (.int .i64 0), (.int .i64 0), (.int .i64 0), (.str []), (.str []), (.str []), (.int .i64 0), (.int .i64 0), (.bool false), (.sl 4 [] false), (.sl 2 [] false)]) I z56 I I I) I ?_
 refine Z1 I (Z1j (cs := [(.int .i64 0), (.int .i64 0), (.int .i64 0), (.int .i64 0), (.int .i64 0), (.int .i64 0), (.str []), (.str []), (.str []), (.int .i64 0), (.int .i64 0), (.bool false), (.sl 4 [] false), (.sl 2 [] false)]) (vs := [(.int .i64 9), (.int .i64 2), (.int .i64 1), (.int .i64 0), (.int .i64 1), (.int .i64 1), (.str [97, 112, 105]), (.str []), (.str [111]), (.int .i64 0), (.int .i64 10), (.bool true), (.sl 4 [] false), (.sl 2 [] false)]) (ds := [(.int .i64 9), (.int .i64 2), (.int .i64 1), (.int .i64 0), (.int .i64 1), (.int .i64 1), (.str [97, 112, 105]), (.str []), (.str [111]), (.int .i64 0), (.int .i64 10), (.bool true), (.sl 4 [] false), (.sl 2 [] false)]) (v := (.ag [(.int .i64 9), (.int .i64 2), (.int .i64 1), (.int .i64 0), (.int .i64 1), (.int .i64 1), (.str [97, 112, 105]), (.str []), (.str [111]), (.int .i64 0), (.int .i64 10), (.bool true), (.sl 4 [] false), (.sl 2 [] false)])) sz56 I I I I I I I I) I <| Ze <| Zf <| Zg <| Za <| Z1 I (Z29 (vs := [(0, (.int .i64 9)), (1, (.int .i64 3)), (2, (.int .i64 2)), (4, (.int .i64 1)), (5, (.int .i64 1)), (6, (.str [97, 112, 105])), (8, (.str [111])), (10, (.int .i64 5))]) (cs := [(.int .i64 9), (.int .i64 3), (.int .i64 2), (.int .i64 0), (.int .i64 1), (.int .i64 1), (.str [97, 112, 105]), (.str []), (.str [111]), (.int .i64 0), (.int .i64 5), (.bool false), (.sl 4 [] false), (.sl 2 [] false)]) I st56 ⟨rfl, rfl, rfl, rfl, rfl, rfl, rfl, rfl, rfl, rfl, rfl, rfl, rfl, rfl, rfl, rfl, trivial⟩ I) I <| Z1 I (Z22 (cs := [(.int .i64 0), (.int .i64 0), (.int .i64 0), (.int .i64 0), (.int .i64 0), (.int .i64 0), (.str []), (.str []), (.str []), (.int .i64 0), (.int .i64 0), (.bool false), (.sl 4 [] false), (.sl 2 [] false)]) I z56 I I I) I <| Z1 I (Z1j (cs := [(.int .i64 0), (.int .i64 0), (.int .i64 0), (.int .i64 0), (.int .i64 0), (.int .i64 0), (.str []), (.str []), (.str []), (.int .i64 0), (.int .i64 0), (.bool false), (.sl 4 [] false), (.sl 2 [] false)]) (vs := [(.int .i64 9), (.int .i64 3), (.int .i64 2), (.int .i64 0), (.int .i64 1), (.int .i64 1), (.str [97, 112, 105]), (.str []), (.str [111]), (.int .i64 0), (.int .i64 5), (.bool false), (.sl 4 [] false), (.sl 2 [] false)]) (ds := [(.int .i64 9), (.int .i64 3), (.int .i64 2), (.int .i64 0), (.int .i64 1), (.int .i64 1), (.str [97, 112, 105]), (.str []), (.str [111]), (.int .i64 0), (.int .i64 5), (.bool false), (.sl 4 [] false), (.sl 2 [] false)]) (v := (.ag [(.int .i64 9), (.int .i64 3), (.int .i64 2), (.int .i64 0), (.int .i64 1), (.int .i64 1), (.str [97, 112, 105]), (.str []), (.str [111]), (.int .i64 0), (.int .i64 5), (.bool false), (.sl 4 [] false), (.sl 2 [] false)])) sz56 I I I I I I I I) I ?_
 refine Ze <| Zf <| Zg <| Za <| Z1 I (Z1q (cs := [(.int .i64 9), (.int .i64 1), (.int .i64 0), (.int .i64 0), (.int .i64 1), (.int .i64 1), (.str [119, 101, 98]), (.str []), (.str [111]), (.int .i64 0), (.int .i64 30), (.bool false), (.sl 4 [] false), (.sl 2 [] false)]) (vs := [(.int .i64 9), (.int .i64 1), (.int .i64 0), (.int .i64 0), (.int .i64 1), (.int .i64 1), (.str [119, 101, 98]), (.str []), (.str [111]), (.int .i64 0), (.int .i64 30), (.bool false), (.sl 4 [] false), (.sl 2 [] false)]) I a56 I I I I) I <| Z1 I (Z1q (cs := [(.int .i64 9), (.int .i64 2), (.int .i64 1), (.int .i64 0), (.int .i64 1), (.int .i64 1), (.str [97, 112, 105]), (.str []), (.str [111]), (.int .i64 0), (.int .i64 10), (.bool true), (.sl 4 [] false), (.sl 2 [] false)]) (vs := [(.int .i64 9), (.int .i64 2), (.int .i64 1), (.int .i64 0), (.int .i64 1), (.int .i64 1), (.str [97, 112, 105]), (.str []), (.str [111]), (.int .i64 0), (.int .i64 10), (.bool true), (.sl 4 [] false), (.sl 2 [] false)]) I a56 I I I I) I <| Z1 I (Z1q (cs := [(.int .i64 9), (.int .i64 3), (.int .i64 2), (.int .i64 0), (.int .i64 1), (.int .i64 1), (.str [97, 112, 105]), (.str []), (.str [111]), (.int .i64 0), (.int .i64 5), (.bool false), (.sl 4 [] false), (.sl 2 [] false)]) (vs := [(.int .i64 9), (.int .i64 3), (.int .i64 2), (.int .i64 0), (.int .i64 1), (.int .i64 1), (.str [97, 112, 105]), (.str []), (.str [111]), (.int .i64 0), (.int .i64 5), (.bool false), (.sl 4 [] false), (.sl 2 [] false)]) I a56 I I I I) I <| Z1 I (Z1d (vs := [(.ag [(.int .i64 9), (.int .i64 1), (.int .i64 0), (.int .i64 0), (.int .i64 1), (.int .i64 1), (.str [119, 101, 98]), (.str []), (.str [111]), (.int .i64 0), (.int .i64 30), (.bool false), (.sl 4 [] false), (.sl 2 [] false)]), (.ag [(.int .i64 9), (.int .i64 2), (.int .i64 1), (.int .i64 0), (.int .i64 1), (.int .i64 1), (.str [97, 112, 105]), (.str []), (.str [111]), (.int .i64 0), (.int .i64 10), (.bool true), (.sl 4 [] false), (.sl 2 [] false)]), (.ag [(.int .i64 9), (.int .i64 3), (.int .i64 2), (.int .i64 0), (.int .i64 1), (.int .i64 1), (.str [97, 112, 105]), (.str []), (.str [111]), (.int .i64 0), (.int .i64 5), (.bool false), (.sl 4 [] false), (.sl 2 [] false)])]) (enc := Zc) (l := [(⟨9, 1, 0, 0, 1, 1, [119, 101, 98], [], [111], 0, 30, false, [], []⟩ : Zn), (⟨9, 2, 1, 0, 1, 1, [97, 112, 105], [], [111], 0, 10, true, [], []⟩ : Zn), (⟨9, 3, 2, 0, 1, 1, [97, 112, 105], [], [111], 0, 5, false, [], []⟩ : Zn)]) I el37 I I ⟨rfl, rfl, rfl, trivial⟩ I Z2x I I I I) I ?_
 refine Z1 I (Z29 (vs := [(0, (.int .i64 9)), (1, (.int .i64 2)), (2, (.vs 13))]) (cs := [(.int .i64 9), (.int .i64 2), (.vs 13)]) I st39 ⟨rfl, rfl, rfl, rfl, rfl, rfl, trivial⟩ I) I <| AOps.ghost (st' := ⟨[(14, (.ag [(.int .i64 9), (.int .i64 2), (.sl 14 (([(⟨9, 1, 0, 0, 1, 1, [119, 101, 98], [], [111], 0, 30, false, [], []⟩ : Zn), (⟨9, 2, 1, 0, 1, 1, [97, 112, 105], [], [111], 0, 10, true, [], []⟩ : Zn), (⟨9, 3, 2, 0, 1, 1, [97, 112, 105], [], [111], 0, 5, false, [], []⟩ : Zn)]).map Zc) false)]))], []⟩) (fun a w h => (Z1c ⟨[(14, (.ag [(.int .i64 9), (.int .i64 2), (.sl 14 (([(⟨9, 1, 0, 0, 1, 1, [119, 101, 98], [], [111], 0, 30, false, [], []⟩ : Zn), (⟨9, 2, 1, 0, 1, 1, [97, 112, 105], [], [111], 0, 10, true, [], []⟩ : Zn), (⟨9, 3, 2, 0, 1, 1, [97, 112, 105], [], [111], 0, 5, false, [], []⟩ : Zn)]).map Zc) false)]))], []⟩ (Z27 (m := 13) (sz := 14) (es := (List.map Zc ([(⟨9, 1, 0, 0, 1, 1, [119, 101, 98], [], [111], 0, 30, false, [], []⟩ : Zn), (⟨9, 2, 1, 0, 1, 1, [97, 112, 105], [], [111], 0, 10, true, [], []⟩ : Zn), (⟨9, 3, 2, 0, 1, 1, [97, 112, 105], [], [111], 0, 5, false, [], []⟩ : Zn)]))) a w (Z1c ⟨[(14, (.ag [(.int .i64 9), (.int .i64 2), (.vs 13)]))], [(13, (.vec 14 (List.map Zc ([(⟨9, 1, 0, 0, 1, 1, [119, 101, 98], [], [111], 0, 30, false, [], []⟩ : Zn), (⟨9, 2, 1, 0, 1, 1, [97, 112, 105], [], [111], 0, 10, true, [], []⟩ : Zn), (⟨9, 3, 2, 0, 1, 1, [97, 112, 105], [], [111], 0, 5, false, [], []⟩ : Zn)]))))]⟩ h ⟨rfl, trivial⟩ ⟨rfl, trivial⟩)) ⟨rfl, trivial⟩ trivial)) <| Z1 I (Z1d (vs := [(.ag [(.int .i64 9), (.int .i64 2), (.sl 14 (([(⟨9, 1, 0, 0, 1, 1, [119, 101, 98], [], [111], 0, 30, false, [], []⟩ : Zn), (⟨9, 2, 1, 0, 1, 1, [97, 112, 105], [], [111], 0, 10, true, [], []⟩ : Zn), (⟨9, 3, 2, 0, 1, 1, [97, 112, 105], [], [111], 0, 5, false, [], []⟩ : Zn)]).map Zc) false)])]) (enc := Z1o) (l := [(⟨9, 2, [(⟨9, 1, 0, 0, 1, 1, [119, 101, 98], [], [111], 0, 30, false, [], []⟩ : Zn), (⟨9, 2, 1, 0, 1, 1, [97, 112, 105], [], [111], 0, 10, true, [], []⟩ : Zn), (⟨9, 3, 2, 0, 1, 1, [97, 112, 105], [], [111], 0, 5, false, [], []⟩ : Zn)]⟩ : Zz)]) I el31 I I ⟨rfl, trivial⟩ I Zb7 I I I I) I ?_
 have ⟨v2, hv2, h⟩ := Z1g h
 refine Z1 I (Z33 (d := some 16) (c := ⟨[(.vs 15)] ++ [], [(15, (.vec 3 (List.map Z1o ([(⟨9, 2, [(⟨9, 1, 0, 0, 1, 1, [119, 101, 98], [], [111], 0, 30, false, [], []⟩ : Zn), (⟨9, 2, 1, 0, 1, 1, [97, 112, 105], [], [111], 0, 10, true, [], []⟩ : Zn), (⟨9, 3, 2, 0, 1, 1, [97, 112, 105], [], [111], 0, 5, false, [], []⟩ : Zn)]⟩ : Zz)]))))], (.tup [(Z5 v2.2), (.int .i64 v2.1)]), [(15, (.vec 3 (List.map Z1o ([(⟨9, 2, [(⟨9, 1, 0, 0, 1, 1, [119, 101, 98], [], [111], 0, 30, false, [], []⟩ : Zn), (⟨9, 2, 1, 0, 1, 1, [97, 112, 105], [], [111], 0, 10, true, [], []⟩ : Zn), (⟨9, 3, 2, 0, 1, 1, [97, 112, 105], [], [111], 0, 5, false, [], []⟩ : Zn)]⟩ : Zz)]))))], []⟩) (ar := [(.vs 15)]) (caps := []) (news := []) (forg := []) Tryz.call17 ((F17_ok K ([(⟨9, 2, [(⟨9, 1, 0, 0, 1, 1, [119, 101, 98], [], [111], 0, 30, false, [], []⟩ : Zn), (⟨9, 2, 1, 0, 1, 1, [97, 112, 105], [], [111], 0, 10, true, [], []⟩ : Zn), (⟨9, 3, 2, 0, 1, 1, [97, 112, 105], [], [111], 0, 5, false, [], []⟩ : Zn)]⟩ : Zz)]) v2 hv2).sw 2000 15) I I ⟨rfl, trivial⟩ I ⟨rfl, trivial⟩ I) I <| Z1 I (Zh (v := (.tup [(Z5 v2.2), (.int .i64 v2.1)])) I I) I <| Z1 I (Z21 (vs := [(Z5 v2.2), (.int .i64 v2.1)]) (v := (Z5 v2.2)) I I I) I <| Z1 I (Z21 (vs := [(Z5 v2.2), (.int .i64 v2.1)]) (v := (.int .i64 v2.1)) I I I) I <| Z1 I (Z22 (cs := [(.sl 4 [] false), (.sl 5 [] false)]) I z44 I I I) I <| Z1 I (Z1j (cs := [(.sl 4 [] false), (.sl 5 [] false)]) (vs := (Z5 v2.2).cells) (ds := (Z5 v2.2).cells) (v := (Z5 v2.2)) sz44 I I I I I I I I) I <| Z1 I (Zi (v := (.int .i64 v2.1)) I I) I <| Ze ?_
 refine Zf <| Zg <| Za <| Z1 I (Zh (v := (.int .i64 v2.1)) I I) I <| Z1 I (Z1w (k := .i64) (a := v2.1) (b := 0) (c := (v2.1 == 0)) I I I I) I <| Z1 I (Zh (v := (.bool (v2.1 == 0))) I I) I ?_
 have hif := Z1y h
 refine AOps.split (fun hc => ?_) (fun hc => ?_)
 ·have h := hif.1 hc
  refine Zy I I I I (Z1q (cs := (Z5 v2.2).cells) (vs := (Z5 v2.2).cells) I a44 I I I I) I <| Zy I I I I (Z29 (vs := [(0, (.str [97, 112, 105])), (1, (.int .i64 4)), (2, (.int .i64 2))]) (cs := [(.str [97, 112, 105]), (.int .i64 4), (.int .i64 2), (.int .i64 0)]) I st68 ⟨rfl, rfl, rfl, rfl, rfl, rfl, trivial⟩ I) I <| Zy I I I I (Z29 (vs := [(0, (.str [119, 101, 98])), (1, (.int .i64 2)), (3, (.int .i64 2))]) (cs := [(.str [119, 101, 98]), (.int .i64 2), (.int .i64 0), (.int .i64 2)]) I st68 ⟨rfl, rfl, rfl, rfl, rfl, rfl, trivial⟩ I) I <| Zy I I I I (Z1d (vs := [(.ag [(.str [97, 112, 105]), (.int .i64 4), (.int .i64 2), (.int .i64 0)]), (.ag [(.str [119, 101, 98]), (.int .i64 2), (.int .i64 0), (.int .i64 2)])]) (enc := Z2) (l := [(⟨[97, 112, 105], 4, 2, 0⟩ : Zd), (⟨[119, 101, 98], 2, 0, 2⟩ : Zd)]) I el41 I I ⟨rfl, rfl, trivial⟩ I Z1v I I I I) I <| Zy I I I I (Z29 (vs := [(0, (.str [119, 101, 98])), (1, (.str [97, 112, 105])), (2, (.int .i64 2)), (3, (.int .i64 2)), (4, (.int .i64 20))]) (cs := [(.str [119, 101, 98]), (.str [97, 112, 105]), (.int .i64 2), (.int .i64 2), (.int .i64 20)]) I st88 ⟨rfl, rfl, rfl, rfl, rfl, rfl, rfl, rfl, rfl, rfl, trivial⟩ I) I <| Zy I I I I (Z1d (vs := [(.ag [(.str [119, 101, 98]), (.str [97, 112, 105]), (.int .i64 2), (.int .i64 2), (.int .i64 20)])]) (enc := Z3) (l := [(⟨[119, 101, 98], [97, 112, 105], 2, 2, 20⟩ : Zl)]) I el42 I I ⟨rfl, trivial⟩ I Z2e I I I I) I <| Zy I I I I (Z29 (vs := [(0, (.vs 25)), (1, (.vs 27))]) (cs := [(.vs 25), (.vs 27)]) I st44 ⟨rfl, rfl, rfl, rfl, trivial⟩ I) I <| AOps.ghost (st' := ⟨[(21, (.bool true)), (22, (Z5 v2.2)), (28, (.ag [(.sl 4 (([(⟨[97, 112, 105], 4, 2, 0⟩ : Zd), (⟨[119, 101, 98], 2, 0, 2⟩ : Zd)]).map Z2) false), (.vs 27)]))], [(27, (.vec 5 (List.map Z3 ([(⟨[119, 101, 98], [97, 112, 105], 2, 2, 20⟩ : Zl)]))))]⟩) (fun a w h => (Z1c ⟨[(21, (.bool true)), (22, (Z5 v2.2)), (28, (.ag [(.sl 4 (([(⟨[97, 112, 105], 4, 2, 0⟩ : Zd), (⟨[119, 101, 98], 2, 0, 2⟩ : Zd)]).map Z2) false), (.vs 27)]))], [(27, (.vec 5 (List.map Z3 ([(⟨[119, 101, 98], [97, 112, 105], 2, 2, 20⟩ : Zl)]))))]⟩ (Z27 (m := 25) (sz := 4) (es := (List.map Z2 ([(⟨[97, 112, 105], 4, 2, 0⟩ : Zd), (⟨[119, 101, 98], 2, 0, 2⟩ : Zd)]))) a w (Z1c ⟨[(21, (.bool true)), (22, (Z5 v2.2)), (28, (.ag [(.vs 25), (.vs 27)]))], [(25, (.vec 4 (List.map Z2 ([(⟨[97, 112, 105], 4, 2, 0⟩ : Zd), (⟨[119, 101, 98], 2, 0, 2⟩ : Zd)])))), (27, (.vec 5 (List.map Z3 ([(⟨[119, 101, 98], [97, 112, 105], 2, 2, 20⟩ : Zl)]))))]⟩ h ⟨rfl, rfl, rfl, trivial⟩ ⟨rfl, rfl, trivial⟩)) ⟨rfl, rfl, rfl, trivial⟩ ⟨rfl, trivial⟩)) ?_
  refine AOps.ghost (st' := ⟨[(21, (.bool true)), (22, (Z5 v2.2)), (28, (.ag [(.sl 4 (([(⟨[97, 112, 105], 4, 2, 0⟩ : Zd), (⟨[119, 101, 98], 2, 0, 2⟩ : Zd)]).map Z2) false), (.sl 5 (([(⟨[119, 101, 98], [97, 112, 105], 2, 2, 20⟩ : Zl)]).map Z3) false)]))], []⟩) (fun a w h => (Z1c ⟨[(21, (.bool true)), (22, (Z5 v2.2)), (28, (.ag [(.sl 4 (([(⟨[97, 112, 105], 4, 2, 0⟩ : Zd), (⟨[119, 101, 98], 2, 0, 2⟩ : Zd)]).map Z2) false), (.sl 5 (([(⟨[119, 101, 98], [97, 112, 105], 2, 2, 20⟩ : Zl)]).map Z3) false)]))], []⟩ (Z27 (m := 27) (sz := 5) (es := (List.map Z3 ([(⟨[119, 101, 98], [97, 112, 105], 2, 2, 20⟩ : Zl)]))) a w (Z1c ⟨[(21, (.bool true)), (22, (Z5 v2.2)), (28, (.ag [(.sl 4 (([(⟨[97, 112, 105], 4, 2, 0⟩ : Zd), (⟨[119, 101, 98], 2, 0, 2⟩ : Zd)]).map Z2) false), (.vs 27)]))], [(27, (.vec 5 (List.map Z3 ([(⟨[119, 101, 98], [97, 112, 105], 2, 2, 20⟩ : Zl)]))))]⟩ h ⟨rfl, rfl, rfl, trivial⟩ ⟨rfl, trivial⟩)) ⟨rfl, rfl, rfl, trivial⟩ trivial)) ?_
  have ⟨v4, hv4, h⟩ := Z1g h
  refine Zy I I I I (Z1i (ar := [(Z5 v2.2), (.ag [(.sl 4 (([(⟨[97, 112, 105], 4, 2, 0⟩ : Zd), (⟨[119, 101, 98], 2, 0, 2⟩ : Zd)]).map Z2) false), (.sl 5 (([(⟨[119, 101, 98], [97, 112, 105], 2, 2, 20⟩ : Zl)]).map Z3) false)])]) (caps := []) Tryz.call19 (F19_ok K v2.2 (⟨[(⟨[97, 112, 105], 4, 2, 0⟩ : Zd), (⟨[119, 101, 98], 2, 0, 2⟩ : Zd)], [(⟨[119, 101, 98], [97, 112, 105], 2, 2, 20⟩ : Zl)]⟩ : Zb) v4 hv4) I I ⟨rfl, rfl, trivial⟩ I) I <| Z1 I (Z2d (v := (.bool v4)) I I I) I <| Z1 I (Zi (v := (.bool v4)) I I) I <| Ze <| Zf <| Z1a ?_
  have h := Option.some.inj h
  subst h
  refine (hret _ ?_).1
  exact ⟨[(.bool v4)], ⟨rfl, trivial⟩, rfl, trivial⟩
 ·have h := hif.2 hc
  refine Zt I I I I I I I <| Zt I I I I I I I <| Zt I I I I I I I <| Zt I I I I I I I <| Zt I I I I I I I <| Zt I I I I I I I <| Zt I I I I I I I <| Zt I I I I I I I ?_
  refine Z1 I (Z2a (v := (.bool false)) I I I) I <| Z1 I (Zi (v := (.bool false)) I I) I <| Ze <| Zf <| Z1a ?_
  have h := Option.some.inj h
  subst h
  refine (hret _ ?_).1
  exact ⟨[(.bool false)], ⟨rfl, trivial⟩, rfl, trivial⟩
def Zbx (K : Nat) (a1 : Str) : Option (Zd) :=
 some (⟨a1, 0, 0, 0⟩ : Zd)
def Zaa (K : Nat) (a0 : Zb) (a1 : Str) (c4 : Option (Zd)) : Nat → Int → Option (Zd)
 | 0, _ => none
 | k2 + 1, v1 =>
  if (decide (v1 < (a0.Services.length : Int))) = true then
   if (0 : Int) ≤ v1 ∧ v1 < a0.Services.length then
    if ((a0.Services.getD v1.toNat Z7).Name == a1) = true then
     if (0 : Int) ≤ v1 ∧ v1 < a0.Services.length then
      some (a0.Services.getD v1.toNat Z7)
     else none
    else
     (Zaa K a0 a1 c4 k2) (IntKind.i64.wrap (v1 + 1))
   else none
  else
   c4
def F31 (K : Nat) (a0 : Zb) (a1 : Str) : Option (Zd) :=
 Zaa K a0 a1 (Zbx K a1) K 0
theorem F31_ok (K : Nat) (a0 : Zb) (a1 : Str) (r : Zd) (h : F31 K a0 a1 = some r) : ACall P 31 ⟨[(Z5 a0), (.str a1)], [], (Z2 r), [], []⟩ := by
 refine Z1p Tryz.func31 Tryz.results31 rfl Tryz.ntmps31 rfl rfl rfl ?_
 intro E Q hP hN hro hret
 obtain ⟨P', nt', w0, F0, p0, S0, β0, ro0⟩ := E
 simp only at hP hN
 subst hP hN
 dsimp only [argT]
 unfold F31 at h
 refine Zg <| Za <| Z1 I (Z2l (v := (Z5 a0)) (cs := (Z5 a0).cells) I I I I I) I <| Z1 I (Z22 (cs := [(.str []), (.int .i64 0), (.int .i64 0), (.int .i64 0)]) I z68 I I I) I <| Ze <| Zf <| Zg <| Zg ?_
 refine Za <| Z1 I (Zi (v := (.int .i64 0)) I I) I <| Ze <| Zf <| Z1t (st' := ⟨[(1, (.str a1)), (2, (.ptr 2 0)), (4, (.ptr 4 0)), (5, (.int .i64 0))], [(2, (.box (Z5 a0).cells)), (4, (.box [(.str []), (.int .i64 0), (.int .i64 0), (.int .i64 0)]))]⟩) ⟨rfl, rfl, rfl, rfl, trivial⟩ ⟨rfl, rfl, trivial⟩ ?_
 refine Z1h (V := Int) (X := Unit) (lp := fun k v => Zaa K a0 a1 (Zbx K a1) k v = some r) (sh := fun v => ⟨[(1, (.str a1)), (2, (.ptr 2 0)), (4, (.ptr 4 0)), (5, (.int .i64 v))], [(2, (.box (Z5 a0).cells)), (4, (.box [(.str []), (.int .i64 0), (.int .i64 0), (.int .i64 0)]))]⟩) (x := fun v => Zbx K a1 = some r) (shx := fun v => ⟨[(1, (.str a1)), (4, (.ptr 4 0))], [(4, (.box [(.str []), (.int .i64 0), (.int .i64 0), (.int .i64 0)]))]⟩) (k := K) (v := 0) h ?_ ?_
 ·intro v h
  try dsimp only at h ⊢
  unfold Zbx at h
  refine Zf <| Zg <| Za <| Z1 I (Zh (v := (.str a1)) I I) I <| Z1 I (Z29 (vs := [(0, (.str a1))]) (cs := [(.str a1), (.int .i64 0), (.int .i64 0), (.int .i64 0)]) I st68 ⟨rfl, rfl, trivial⟩ I) I <| Z1 I (Z1j (cs := [(.str []), (.int .i64 0), (.int .i64 0), (.int .i64 0)]) (vs := [(.str a1), (.int .i64 0), (.int .i64 0), (.int .i64 0)]) (ds := [(.str a1), (.int .i64 0), (.int .i64 0), (.int .i64 0)]) (v := (.ag [(.str a1), (.int .i64 0), (.int .i64 0), (.int .i64 0)])) sz68 I I I I I I I I) I <| Ze <| Zf ?_
  refine Z1a ?_
  have h := Option.some.inj h
  subst h
  refine (hret _ ?_).1
  exact ⟨[(.ag [(.str a1), (.int .i64 0), (.int .i64 0), (.int .i64 0)])], ⟨⟨4, _, rfl, rfl, .inr ⟨_, a68, rfl, rfl⟩⟩, trivial⟩, rfl, trivial⟩
 ·intro N k2 v h IH2 J2
  revert h
  revert v
  intro v1 h
  try dsimp only at h IH2 J2 ⊢
  cases k2 with
  | zero => cases h
  | succ k2 =>
   rw [Zaa] at h
   refine Zg <| Zg <| Za <| Z1 I (Zh (v := (.int .i64 v1)) I I) I <| Z1 I (Zp (m := 2) (o := 0) I Z4a I I) I <| Z1 I (Zu (cs := (Z5 a0).cells) (v := (.sl 4 (a0.Services.map Z2) false)) I o41 I I I) I <| Z1 I (Z24 (l := a0.Services) (enc := Z2) I s41 I) I <| Z1 I (Z1w (k := .i64) (a := v1) (b := (a0.Services.length : Int)) (c := (decide (v1 < (a0.Services.length : Int)))) I I I I) I ?_
   refine Ze <| Zf ?_
   have hif := Z1y h
   refine Z13 I (fun hc => ?_) (fun hc => ?_)
   ·have h := hif.1 hc
    refine Z16 <| Zf <| Zg <| AWp.block <| Zg <| Za <| Z1 I (Zp (m := 2) (o := 0) I Z4a I I) I <| Z1 I (Zu (cs := (Z5 a0).cells) (v := (.sl 4 (a0.Services.map Z2) false)) I o41 I I I) I ?_
    refine Z1 I (Zh (v := (.int .i64 v1)) I I) I ?_
    have ⟨hg6, h⟩ := Zv h
    refine Z1 I (Z1s (k := .i64) (l := a0.Services) (enc := Z2) (z := Z7) (n := v1) (cs := (Z2 (a0.Services.getD v1.toNat Z7)).cells) (full := false) I s41 I I hg6 I) I <| Z1 I (Z2r (cs := (Z2 (a0.Services.getD v1.toNat Z7)).cells) (ds := (Z2 (a0.Services.getD v1.toNat Z7)).cells) I Z7y I I I) I <| Z1 I (Z26 (cs := (Z2 (a0.Services.getD v1.toNat Z7)).cells) (v := (.str (a0.Services.getD v1.toNat Z7).Name)) I o9 I I) I <| Z1 I (Zh (v := (.str a1)) I I) I <| Z1 I (Z2z (a := (a0.Services.getD v1.toNat Z7).Name) (b := a1) (c := ((a0.Services.getD v1.toNat Z7).Name == a1)) I I I I) I <| Ze <| Zf ?_
    have hif := Z1y h
    refine Z13 I (fun hc => ?_) (fun hc => ?_)
    ·have h := hif.1 hc
     refine Zg <| Za <| Z1 I (Zp (m := 2) (o := 0) I Z4a I I) I <| Z1 I (Zu (cs := (Z5 a0).cells) (v := (.sl 4 (a0.Services.map Z2) false)) I o41 I I I) I <| Z1 I (Zh (v := (.int .i64 v1)) I I) I ?_
     have ⟨hg7, h⟩ := Zv h
     refine Z1 I (Z1s (k := .i64) (l := a0.Services) (enc := Z2) (z := Z7) (n := v1) (cs := (Z2 (a0.Services.getD v1.toNat Z7)).cells) (full := false) I s41 I I hg7 I) I <| Z1 I (Z2k (cs := (Z2 (a0.Services.getD v1.toNat Z7)).cells) (vs := (Z2 (a0.Services.getD v1.toNat Z7)).cells) I a68 I I I) I <| Z1 I (Z1j (cs := [(.str []), (.int .i64 0), (.int .i64 0), (.int .i64 0)]) (vs := (Z2 (a0.Services.getD v1.toNat Z7)).cells) (ds := (Z2 (a0.Services.getD v1.toNat Z7)).cells) (v := (Z2 (a0.Services.getD v1.toNat Z7))) sz68 I I I I I I I I) I <| Ze <| Zf <| Z1a <| At.overR <| Z1b ?_
     refine Z1b (At.overR ?_)
     refine Z1b ?_
     have h := Option.some.inj h
     subst h
     refine (hret _ ?_).1
     exact ⟨[(Z2 (a0.Services.getD v1.toNat Z7))], ⟨⟨4, _, rfl, rfl, .inr ⟨_, a68, rfl, rfl⟩⟩, trivial⟩, rfl, trivial⟩
    ·have h := hif.2 hc
     refine Z16 <| At.end <| Zf <| Za <| Z1 I (Zh (v := (.int .i64 v1)) I I) I <| Z1 I (Z1n (k := .i64) (a := v1) (b := 1) (c := (IntKind.i64.wrap (v1 + 1))) I I I I) I <| Z1 I (Zi (v := (.int .i64 (IntKind.i64.wrap (v1 + 1)))) I I) I <| Ze ?_
     exact Zw (st' := ⟨[(1, (.str a1)), (2, (.ptr 2 0)), (4, (.ptr 4 0)), (5, (.int .i64 (IntKind.i64.wrap (v1 + 1))))], [(2, (.box (Z5 a0).cells)), (4, (.box [(.str []), (.int .i64 0), (.int .i64 0), (.int .i64 0)]))]⟩) ⟨rfl, rfl, rfl, rfl, trivial⟩ ⟨rfl, rfl, trivial⟩ (IH2 _ (IntKind.i64.wrap (v1 + 1)) (Nat.lt_succ_self _) h)
   ·have h := hif.2 hc
    refine AWp.exit <| At.thru ?_
    exact Zw (st' := ⟨[(1, (.str a1)), (4, (.ptr 4 0))], [(4, (.box [(.str []), (.int .i64 0), (.int .i64 0), (.int .i64 0)]))]⟩) ⟨rfl, rfl, trivial⟩ ⟨rfl, trivial⟩ (J2 () h)
def Z9z (K : Nat) (v3 : Int) (a0 : Zb) (a1 : Zd) (v8 : (List Zd)) : Option (Zb) :=
 if (0 : Int) ≤ 0 ∧ 0 ≤ v3 ∧ v3 ≤ a0.Services.length then
  if ([] : List Zd).length + (a0.Services.take v3.toNat).length ≤ 1073741824 then
   if (a0.Services.take v3.toNat).length + [a1].length ≤ 1073741824 then
    if ((a0.Services.take v3.toNat) ++ [a1]).length + v8.length ≤ 1073741824 then
     some (⟨(((a0.Services.take v3.toNat) ++ [a1]) ++ v8), a0.Calls⟩ : Zb)
    else none
   else none
  else none
 else none
def Zb5 (K : Nat) (a0 : Zb) (a1 : Zd) (v3 : Int) : Option (Zb) :=
 if (0 : Int) ≤ v3 ∧ v3 ≤ (a0.Services.length : Int) ∧ (a0.Services.length : Int) ≤ a0.Services.length then
  if (decide (((a0.Services.drop v3.toNat).length : Int) > 0)) = true then
   if (0 : Int) ≤ 0 ∧ (0 : Int) < (a0.Services.drop v3.toNat).length then
    if (((a0.Services.drop v3.toNat).getD (0 : Int).toNat Z7).Name == a1.Name) = true then
     if (0 : Int) ≤ 1 ∧ 1 ≤ ((a0.Services.drop v3.toNat).length : Int) ∧ ((a0.Services.drop v3.toNat).length : Int) ≤ (a0.Services.drop v3.toNat).length then
      Z9z K v3 a0 a1 ((a0.Services.drop v3.toNat).drop (1 : Int).toNat)
     else none
    else
     Z9z K v3 a0 a1 (a0.Services.drop v3.toNat)
   else none
  else
   if (0 : Int) ≤ 0 ∧ 0 ≤ v3 ∧ v3 ≤ a0.Services.length then
    if ([] : List Zd).length + (a0.Services.take v3.toNat).length ≤ 1073741824 then
     if (a0.Services.take v3.toNat).length + [a1].length ≤ 1073741824 then
      if ((a0.Services.take v3.toNat) ++ [a1]).length + (a0.Services.drop v3.toNat).length ≤ 1073741824 then
       some (⟨(((a0.Services.take v3.toNat) ++ [a1]) ++ (a0.Services.drop v3.toNat)), a0.Calls⟩ : Zb)
      else none
     else none
    else none
   else none
 else none
def Z95 (K : Nat) (a0 : Zb) (a1 : Zd) (c5 : Int → Option (Zb)) : Nat → Int → Option (Zb)
 | 0, _ => none
 | k2 + 1, v1 =>
  if (decide (v1 < (a0.Services.length : Int))) = true then
   if (0 : Int) ≤ v1 ∧ v1 < a0.Services.length then
    if (slt (a0.Services.getD v1.toNat Z7).Name a1.Name) = true then
     (Z95 K a0 a1 c5 k2) (IntKind.i64.wrap (v1 + 1))
    else
     c5 v1
   else none
  else
   c5 v1
def F53 (K : Nat) (a0 : Zb) (a1 : Zd) : Option (Zb) :=
 Z95 K a0 a1 (Zb5 K a0 a1) K 0
theorem F53_ok (K : Nat) (a0 : Zb) (a1 : Zd) (r : Zb) (h : F53 K a0 a1 = some r) : ACall P 53 ⟨[(Z5 a0), (Z2 a1)], [], (Z5 r), [], []⟩ := by
 refine Z1p Tryz.func53 Tryz.results53 rfl Tryz.ntmps53 rfl rfl rfl ?_
 intro E Q hP hN hro hret
 obtain ⟨P', nt', w0, F0, p0, S0, β0, ro0⟩ := E
 simp only at hP hN
 subst hP hN
 dsimp only [argT]
 unfold F53 at h
 refine Zg <| Za <| Z1 I (Z2l (v := (Z5 a0)) (cs := (Z5 a0).cells) I I I I I) I <| Z1 I (Z2l (v := (Z2 a1)) (cs := (Z2 a1).cells) I I I I I) I <| Z1 I (Z22 (cs := [(.sl 4 [] false), (.sl 5 [] false)]) I z44 I I I) I <| Ze <| Zf <| Zg ?_
 refine Za <| Z1 I (Zi (v := (.int .i64 0)) I I) I <| Ze <| Zf <| Zg <| Z1t (st' := ⟨[(2, (.ptr 2 0)), (3, (.ptr 3 0)), (4, (.ptr 4 0)), (5, (.int .i64 0))], [(2, (.box (Z5 a0).cells)), (3, (.box (Z2 a1).cells)), (4, (.box [(.sl 4 [] false), (.sl 5 [] false)]))]⟩) ⟨rfl, rfl, rfl, rfl, trivial⟩ ⟨rfl, rfl, rfl, trivial⟩ ?_
 refine Z1h (V := Int) (X := Int) (lp := fun k v => Z95 K a0 a1 (Zb5 K a0 a1) k v = some r) (sh := fun v => ⟨[(2, (.ptr 2 0)), (3, (.ptr 3 0)), (4, (.ptr 4 0)), (5, (.int .i64 v))], [(2, (.box (Z5 a0).cells)), (3, (.box (Z2 a1).cells)), (4, (.box [(.sl 4 [] false), (.sl 5 [] false)]))]⟩) (x := fun v => Zb5 K a0 a1 v = some r) (shx := fun v => ⟨[(2, (.ptr 2 0)), (3, (.ptr 3 0)), (4, (.ptr 4 0)), (5, (.int .i64 v))], [(2, (.box (Z5 a0).cells)), (3, (.box (Z2 a1).cells)), (4, (.box [(.sl 4 [] false), (.sl 5 [] false)]))]⟩) (k := K) (v := 0) h ?_ ?_
 ·intro v h
  revert h
  revert v
  intro v3 h
  try dsimp only at h ⊢
  unfold Zb5 at h
  refine Zf <| Zg <| Za <| Z1 I (Zp (m := 2) (o := 0) I Z4a I I) I <| Z1 I (Zu (cs := (Z5 a0).cells) (v := (.sl 4 (a0.Services.map Z2) false)) I o41 I I I) I <| Z1 I (Zh (v := (.int .i64 v3)) I I) I ?_
  have ⟨hg6, h⟩ := Zv h
  refine Z1 I (Z6e (l := a0.Services) (enc := Z2) (kl := .i64) (lo := v3) I s41 I I hg6) I <| Z1 I (Zi (v := (.sl 4 ((a0.Services.drop v3.toNat).map Z2) false)) I I) I <| Ze <| Zf <| Zg <| Zg <| AWp.regionD mixed <| Z9 0 I (Zh (v := (.sl 4 ((a0.Services.drop v3.toNat).map Z2) false)) I I) ?_
  refine Z9 1 I (Z24 (l := (a0.Services.drop v3.toNat)) (enc := Z2) I s41 I) <| Z9 2 I (Z1w (k := .i64) (a := ((a0.Services.drop v3.toNat).length : Int)) (b := 0) (c := (decide (((a0.Services.drop v3.toNat).length : Int) > 0))) I I I I) <| Z9 3 I (Zh (v := (.bool (decide (((a0.Services.drop v3.toNat).length : Int) > 0)))) I I) ?_
  have hif := Z1y h
  refine AOpsD.split (fun hc => ?_) (fun hc => ?_)
  ·have h := hif.1 hc
   refine Z1e 4 I I I I (Zh (v := (.sl 4 ((a0.Services.drop v3.toNat).map Z2) false)) I I) ?_
   have ⟨hg7, h⟩ := Zv h
   refine Z1e 5 I I I I (Z1s (k := .i64) (l := (a0.Services.drop v3.toNat)) (enc := Z2) (z := Z7) (n := 0) (cs := (Z2 ((a0.Services.drop v3.toNat).getD (0 : Int).toNat Z7)).cells) (full := false) I s41 I I hg7 I) <| Z1e 6 I I I I (Z2r (cs := (Z2 ((a0.Services.drop v3.toNat).getD (0 : Int).toNat Z7)).cells) (ds := (Z2 ((a0.Services.drop v3.toNat).getD (0 : Int).toNat Z7)).cells) I Z7y I I I) <| Z1e 7 I I I I (Z26 (cs := (Z2 ((a0.Services.drop v3.toNat).getD (0 : Int).toNat Z7)).cells) (v := (.str ((a0.Services.drop v3.toNat).getD (0 : Int).toNat Z7).Name)) I o9 I I) <| Z1e 8 I I I I (Zp (m := 3) (o := 0) I Z7y I I) <| Z1e 9 I I I I (Zu (cs := (Z2 a1).cells) (v := (.str a1.Name)) I o9 I I I) <| Z1e 10 I I I I (Z2z (a := ((a0.Services.drop v3.toNat).getD (0 : Int).toNat Z7).Name) (b := a1.Name) (c := (((a0.Services.drop v3.toNat).getD (0 : Int).toNat Z7).Name == a1.Name)) I I I I) <| Z9 11 I (Z2d (v := (.bool (((a0.Services.drop v3.toNat).getD (0 : Int).toNat Z7).Name == a1.Name))) I I I) <| AOpsD.nil (by kernel_rfl) I ?_
   refine Zf ?_
   refine AWp.join (V := (List Zd)) (lp := fun v => Z9z K v3 a0 a1 v = some r) (sh := fun v => ⟨[(2, (.ptr 2 0)), (3, (.ptr 3 0)), (4, (.ptr 4 0)), (5, (.int .i64 v3)), (6, (.sl 4 (v.map Z2) false))], [(2, (.box (Z5 a0).cells)), (3, (.box (Z2 a1).cells)), (4, (.box [(.sl 4 [] false), (.sl 5 [] false)]))]⟩) ?_ ?_
   ·intro v h
    revert h
    revert v
    intro v8 h
    try dsimp only at h ⊢
    unfold Z9z at h
    refine Zf <| Zg <| AWp.regionD mixed <| Z9 0 I (Z1d (vs := []) (enc := Z2) (l := ([] : List Zd)) I el41 I I trivial I Z1v I I I I) <| Z9 1 I (Zp (m := 2) (o := 0) I Z4a I I) <| Z9 2 I (Zu (cs := (Z5 a0).cells) (v := (.sl 4 (a0.Services.map Z2) false)) I o41 I I I) <| Z9 3 I (Zh (v := (.int .i64 v3)) I I) ?_
    have ⟨hg10, h⟩ := Zv h
    refine Z9 4 I (Z8m (l := a0.Services) (enc := Z2) (kh := .i64) (hi := v3) I s41 I I hg10) ?_
    have ⟨hg11, h⟩ := Zv h
    refine Z9 5 I (Z2g (m := 43) (enc := Z2) (l := ([] : List Zd)) (l' := (a0.Services.take v3.toNat)) (src := (.sl 4 ((a0.Services.take v3.toNat).map Z2) false)) (rd := []) I I el41 I u41 I I I ⟨rfl, rfl, rfl⟩ noReads Z1v hg11) <| Z9 6 I (Z1q (cs := (Z2 a1).cells) (vs := (Z2 a1).cells) I a68 I I I I) <| Z9 7 I (Z1d (vs := [(Z2 a1)]) (enc := Z2) (l := [a1]) I el41 I I ⟨rfl, trivial⟩ I Z1v I I I I) ?_
    have ⟨hg12, h⟩ := Zv h
    refine Z9 8 I (Z2g (m := 43) (enc := Z2) (l := (a0.Services.take v3.toNat)) (l' := [a1]) (src := (.vs 50)) (rd := [(50, (.vec 4 (List.map Z2 [a1])))]) I I el41 I u41 I I I I (oneRead I) Z1v hg12) <| Z9 9 I (Zh (v := (.sl 4 (v8.map Z2) false)) I I) ?_
    have ⟨hg13, h⟩ := Zv h
    refine Z9 10 I (Z2g (m := 43) (enc := Z2) (l := ((a0.Services.take v3.toNat) ++ [a1])) (l' := v8) (src := (.sl 4 (v8.map Z2) false)) (rd := []) I I el41 I u41 I I I ⟨rfl, rfl, rfl⟩ noReads Z1v hg13) <| Z9 11 I (Zp (m := 2) (o := 0) I Z4a I I) <| Z9 12 I (Z1j (cs := (Z5 a0).cells) (vs := [(.vs 43)]) (ds := [(.vs 43), (.sl 5 (a0.Calls.map Z3) false)]) (v := (.vs 43)) sz41 I I I I I I I I) <| AOpsD.nil (by kernel_rfl) I <| Zf <| Zg <| Za <| Z1 I (Z1q (cs := [(.vs 43), (.sl 5 (a0.Calls.map Z3) false)]) (vs := [(.vs 43), (.sl 5 (a0.Calls.map Z3) false)]) I a44 I I I I) I ?_
    refine Z1 I (Z1j (cs := [(.sl 4 [] false), (.sl 5 [] false)]) (vs := [(.vs 43), (.sl 5 (a0.Calls.map Z3) false)]) (ds := [(.vs 43), (.sl 5 (a0.Calls.map Z3) false)]) (v := (.ag [(.vs 43), (.sl 5 (a0.Calls.map Z3) false)])) sz44 I I I I I I I I) I <| Ze <| Zf <| Z1a <| At.ghost (st' := ⟨[(4, (.ptr 4 0))], [(4, (.box [(.sl 4 ((((a0.Services.take v3.toNat) ++ [a1]) ++ v8).map Z2) false), (.sl 5 (a0.Calls.map Z3) false)]))]⟩) (fun a w h => (Z1c ⟨[(4, (.ptr 4 0))], [(4, (.box [(.sl 4 ((((a0.Services.take v3.toNat) ++ [a1]) ++ v8).map Z2) false), (.sl 5 (a0.Calls.map Z3) false)]))]⟩ (Z27 (m := 43) (sz := 4) (es := (List.map Z2 (((a0.Services.take v3.toNat) ++ [a1]) ++ v8))) a w (Z1c ⟨[(4, (.ptr 4 0))], [(43, (.vec 4 (List.map Z2 (((a0.Services.take v3.toNat) ++ [a1]) ++ v8)))), (4, (.box [(.vs 43), (.sl 5 (a0.Calls.map Z3) false)]))]⟩ h ⟨rfl, trivial⟩ ⟨rfl, rfl, trivial⟩)) ⟨rfl, trivial⟩ ⟨rfl, trivial⟩)) ?_
    have h := Option.some.inj h
    subst h
    refine (hret _ ?_).1
    exact ⟨[(.ag [(.sl 4 ((((a0.Services.take v3.toNat) ++ [a1]) ++ v8).map Z2) false), (.sl 5 (a0.Calls.map Z3) false)])], ⟨⟨4, _, rfl, rfl, .inr ⟨_, a44, rfl, rfl⟩⟩, trivial⟩, rfl, trivial⟩
   ·intro J9
    have hif := Z1y h
    refine Z13 I (fun hc => ?_) (fun hc => ?_)
    ·have h := hif.1 hc
     refine Za <| Z1 I (Zh (v := (.sl 4 ((a0.Services.drop v3.toNat).map Z2) false)) I I) I ?_
     have ⟨hg14, h⟩ := Zv h
     refine Z1 I (Z6e (l := (a0.Services.drop v3.toNat)) (enc := Z2) (kl := .i64) (lo := 1) I s41 I I hg14) I <| Z1 I (Zi (v := (.sl 4 (((a0.Services.drop v3.toNat).drop (1 : Int).toNat).map Z2) false)) I I) I <| Ze ?_
     exact Zw (st' := ⟨[(2, (.ptr 2 0)), (3, (.ptr 3 0)), (4, (.ptr 4 0)), (5, (.int .i64 v3)), (6, (.sl 4 (((a0.Services.drop v3.toNat).drop (1 : Int).toNat).map Z2) false))], [(2, (.box (Z5 a0).cells)), (3, (.box (Z2 a1).cells)), (4, (.box [(.sl 4 [] false), (.sl 5 [] false)]))]⟩) ⟨rfl, rfl, rfl, rfl, rfl, trivial⟩ ⟨rfl, rfl, rfl, trivial⟩ (J9 ((a0.Services.drop v3.toNat).drop (1 : Int).toNat) h)
    ·have h := hif.2 hc
     refine Z16 ?_
     exact Zw (st' := ⟨[(2, (.ptr 2 0)), (3, (.ptr 3 0)), (4, (.ptr 4 0)), (5, (.int .i64 v3)), (6, (.sl 4 ((a0.Services.drop v3.toNat).map Z2) false))], [(2, (.box (Z5 a0).cells)), (3, (.box (Z2 a1).cells)), (4, (.box [(.sl 4 [] false), (.sl 5 [] false)]))]⟩) ⟨rfl, rfl, rfl, rfl, rfl, trivial⟩ ⟨rfl, rfl, rfl, trivial⟩ (J9 (a0.Services.drop v3.toNat) h)
  ·have h := hif.2 hc
   refine Z17 4 I I I I I I I <| Z17 5 I I I I I I I <| Z17 6 I I I I I I I <| Z17 7 I I I I I I I <| Z17 8 I I I I I I I <| Z17 9 I I I I I I I <| Z17 10 I I I I I I I <| Z9 11 I (Z2a (v := (.bool false)) I I I) ?_
   refine AOpsD.nil (by kernel_rfl) I <| Zf ?_
   refine Z13 (b := false) I (fun hc => ?_) (fun hc => ?_)
   ·cases hc
   refine Z16 <| Zf <| Zg <| AWp.regionD mixed <| Z9 0 I (Z1d (vs := []) (enc := Z2) (l := ([] : List Zd)) I el41 I I trivial I Z1v I I I I) <| Z9 1 I (Zp (m := 2) (o := 0) I Z4a I I) <| Z9 2 I (Zu (cs := (Z5 a0).cells) (v := (.sl 4 (a0.Services.map Z2) false)) I o41 I I I) <| Z9 3 I (Zh (v := (.int .i64 v3)) I I) ?_
   have ⟨hg15, h⟩ := Zv h
   refine Z9 4 I (Z8m (l := a0.Services) (enc := Z2) (kh := .i64) (hi := v3) I s41 I I hg15) ?_
   have ⟨hg16, h⟩ := Zv h
   refine Z9 5 I (Z2g (m := 43) (enc := Z2) (l := ([] : List Zd)) (l' := (a0.Services.take v3.toNat)) (src := (.sl 4 ((a0.Services.take v3.toNat).map Z2) false)) (rd := []) I I el41 I u41 I I I ⟨rfl, rfl, rfl⟩ noReads Z1v hg16) <| Z9 6 I (Z1q (cs := (Z2 a1).cells) (vs := (Z2 a1).cells) I a68 I I I I) <| Z9 7 I (Z1d (vs := [(Z2 a1)]) (enc := Z2) (l := [a1]) I el41 I I ⟨rfl, trivial⟩ I Z1v I I I I) ?_
   have ⟨hg17, h⟩ := Zv h
   refine Z9 8 I (Z2g (m := 43) (enc := Z2) (l := (a0.Services.take v3.toNat)) (l' := [a1]) (src := (.vs 50)) (rd := [(50, (.vec 4 (List.map Z2 [a1])))]) I I el41 I u41 I I I I (oneRead I) Z1v hg17) <| Z9 9 I (Zh (v := (.sl 4 ((a0.Services.drop v3.toNat).map Z2) false)) I I) ?_
   have ⟨hg18, h⟩ := Zv h
   refine Z9 10 I (Z2g (m := 43) (enc := Z2) (l := ((a0.Services.take v3.toNat) ++ [a1])) (l' := (a0.Services.drop v3.toNat)) (src := (.sl 4 ((a0.Services.drop v3.toNat).map Z2) false)) (rd := []) I I el41 I u41 I I I ⟨rfl, rfl, rfl⟩ noReads Z1v hg18) <| Z9 11 I (Zp (m := 2) (o := 0) I Z4a I I) <| Z9 12 I (Z1j (cs := (Z5 a0).cells) (vs := [(.vs 43)]) (ds := [(.vs 43), (.sl 5 (a0.Calls.map Z3) false)]) (v := (.vs 43)) sz41 I I I I I I I I) <| AOpsD.nil (by kernel_rfl) I <| Zf <| Zg <| Za <| Z1 I (Z1q (cs := [(.vs 43), (.sl 5 (a0.Calls.map Z3) false)]) (vs := [(.vs 43), (.sl 5 (a0.Calls.map Z3) false)]) I a44 I I I I) I ?_
   refine Z1 I (Z1j (cs := [(.sl 4 [] false), (.sl 5 [] false)]) (vs := [(.vs 43), (.sl 5 (a0.Calls.map Z3) false)]) (ds := [(.vs 43), (.sl 5 (a0.Calls.map Z3) false)]) (v := (.ag [(.vs 43), (.sl 5 (a0.Calls.map Z3) false)])) sz44 I I I I I I I I) I <| Ze <| Zf <| Z1a <| At.ghost (st' := ⟨[(4, (.ptr 4 0))], [(4, (.box [(.sl 4 ((((a0.Services.take v3.toNat) ++ [a1]) ++ (a0.Services.drop v3.toNat)).map Z2) false), (.sl 5 (a0.Calls.map Z3) false)]))]⟩) (fun a w h => (Z1c ⟨[(4, (.ptr 4 0))], [(4, (.box [(.sl 4 ((((a0.Services.take v3.toNat) ++ [a1]) ++ (a0.Services.drop v3.toNat)).map Z2) false), (.sl 5 (a0.Calls.map Z3) false)]))]⟩ (Z27 (m := 43) (sz := 4) (es := (List.map Z2 (((a0.Services.take v3.toNat) ++ [a1]) ++ (a0.Services.drop v3.toNat)))) a w (Z1c ⟨[(4, (.ptr 4 0))], [(43, (.vec 4 (List.map Z2 (((a0.Services.take v3.toNat) ++ [a1]) ++ (a0.Services.drop v3.toNat))))), (4, (.box [(.vs 43), (.sl 5 (a0.Calls.map Z3) false)]))]⟩ h ⟨rfl, trivial⟩ ⟨rfl, rfl, trivial⟩)) ⟨rfl, trivial⟩ ⟨rfl, trivial⟩)) ?_
   have h := Option.some.inj h
   subst h
   refine (hret _ ?_).1
   exact ⟨[(.ag [(.sl 4 ((((a0.Services.take v3.toNat) ++ [a1]) ++ (a0.Services.drop v3.toNat)).map Z2) false), (.sl 5 (a0.Calls.map Z3) false)])], ⟨⟨4, _, rfl, rfl, .inr ⟨_, a44, rfl, rfl⟩⟩, trivial⟩, rfl, trivial⟩
 ·intro N k2 v h IH2 J2
  revert h
  revert v
  intro v1 h
  try dsimp only at h IH2 J2 ⊢
  cases k2 with
  | zero => cases h
  | succ k2 =>
   rw [Z95] at h
   refine Zg <| Zg <| AWp.regionD mixed <| Z9 0 I (Zh (v := (.int .i64 v1)) I I) <| Z9 1 I (Zp (m := 2) (o := 0) I Z4a I I) <| Z9 2 I (Zu (cs := (Z5 a0).cells) (v := (.sl 4 (a0.Services.map Z2) false)) I o41 I I I) <| Z9 3 I (Z24 (l := a0.Services) (enc := Z2) I s41 I) <| Z9 4 I (Z1w (k := .i64) (a := v1) (b := (a0.Services.length : Int)) (c := (decide (v1 < (a0.Services.length : Int)))) I I I I) ?_
   refine Z9 5 I (Zh (v := (.bool (decide (v1 < (a0.Services.length : Int))))) I I) ?_
   have hif := Z1y h
   refine AOpsD.split (fun hc => ?_) (fun hc => ?_)
   ·have h := hif.1 hc
    refine Z1e 6 I I I I (Zp (m := 2) (o := 0) I Z4a I I) <| Z1e 7 I I I I (Zu (cs := (Z5 a0).cells) (v := (.sl 4 (a0.Services.map Z2) false)) I o41 I I I) <| Z1e 8 I I I I (Zh (v := (.int .i64 v1)) I I) ?_
    have ⟨hg20, h⟩ := Zv h
    refine Z1e 9 I I I I (Z1s (k := .i64) (l := a0.Services) (enc := Z2) (z := Z7) (n := v1) (cs := (Z2 (a0.Services.getD v1.toNat Z7)).cells) (full := false) I s41 I I hg20 I) <| Z1e 10 I I I I (Z2r (cs := (Z2 (a0.Services.getD v1.toNat Z7)).cells) (ds := (Z2 (a0.Services.getD v1.toNat Z7)).cells) I Z7y I I I) <| Z1e 11 I I I I (Z26 (cs := (Z2 (a0.Services.getD v1.toNat Z7)).cells) (v := (.str (a0.Services.getD v1.toNat Z7).Name)) I o9 I I) <| Z1e 12 I I I I (Zp (m := 3) (o := 0) I Z7y I I) <| Z1e 13 I I I I (Zu (cs := (Z2 a1).cells) (v := (.str a1.Name)) I o9 I I I) <| Z1e 14 I I I I (Z2z (a := (a0.Services.getD v1.toNat Z7).Name) (b := a1.Name) (c := (slt (a0.Services.getD v1.toNat Z7).Name a1.Name)) I I I I) <| Z9 15 I (Z2d (v := (.bool (slt (a0.Services.getD v1.toNat Z7).Name a1.Name))) I I I) <| AOpsD.nil (by kernel_rfl) I ?_
    refine Zf ?_
    have hif := Z1y h
    refine Z13 I (fun hc => ?_) (fun hc => ?_)
    ·have h := hif.1 hc
     refine Z16 <| Zf <| AWp.block <| Za <| Z1 I (Zh (v := (.int .i64 v1)) I I) I <| Z1 I (Z1n (k := .i64) (a := v1) (b := 1) (c := (IntKind.i64.wrap (v1 + 1))) I I I I) I <| Z1 I (Zi (v := (.int .i64 (IntKind.i64.wrap (v1 + 1)))) I I) I <| Ze ?_
     refine At.end ?_
     exact Zw (st' := ⟨[(2, (.ptr 2 0)), (3, (.ptr 3 0)), (4, (.ptr 4 0)), (5, (.int .i64 (IntKind.i64.wrap (v1 + 1))))], [(2, (.box (Z5 a0).cells)), (3, (.box (Z2 a1).cells)), (4, (.box [(.sl 4 [] false), (.sl 5 [] false)]))]⟩) ⟨rfl, rfl, rfl, rfl, trivial⟩ ⟨rfl, rfl, rfl, trivial⟩ (IH2 _ (IntKind.i64.wrap (v1 + 1)) (Nat.lt_succ_self _) h)
    ·have h := hif.2 hc
     refine AWp.exit <| At.thru ?_
     exact Zw (st' := ⟨[(2, (.ptr 2 0)), (3, (.ptr 3 0)), (4, (.ptr 4 0)), (5, (.int .i64 v1))], [(2, (.box (Z5 a0).cells)), (3, (.box (Z2 a1).cells)), (4, (.box [(.sl 4 [] false), (.sl 5 [] false)]))]⟩) ⟨rfl, rfl, rfl, rfl, trivial⟩ ⟨rfl, rfl, rfl, trivial⟩ (J2 v1 h)
   ·have h := hif.2 hc
    refine Z17 6 I I I I I I I <| Z17 7 I I I I I I I <| Z17 8 I I I I I I I <| Z17 9 I I I I I I I <| Z17 10 I I I I I I I <| Z17 11 I I I I I I I <| Z17 12 I I I I I I I <| Z17 13 I I I I I I I ?_
    refine Z17 14 I I I I I I I <| Z9 15 I (Z2a (v := (.bool false)) I I I) <| AOpsD.nil (by kernel_rfl) I <| Zf ?_
    refine Z13 (b := false) I (fun hc => ?_) (fun hc => ?_)
    ·cases hc
    refine AWp.exit <| At.thru ?_
    exact Zw (st' := ⟨[(2, (.ptr 2 0)), (3, (.ptr 3 0)), (4, (.ptr 4 0)), (5, (.int .i64 v1))], [(2, (.box (Z5 a0).cells)), (3, (.box (Z2 a1).cells)), (4, (.box [(.sl 4 [] false), (.sl 5 [] false)]))]⟩) ⟨rfl, rfl, rfl, rfl, trivial⟩ ⟨rfl, rfl, rfl, trivial⟩ (J2 v1 h)
def Za1 (K : Nat) (a1 : Str) (a2 : Str) : Option (Zl) :=
 some (⟨a1, a2, 0, 0, 0⟩ : Zl)
def F54_j6 (K : Nat) (b5 : Int → Option (Zl)) (v1 : Int) : Option (Zl) :=
 b5 (IntKind.i64.wrap (v1 + 1))
def Z7s (K : Nat) (a0 : Zb) (a1 : Str) (a2 : Str) (c4 : Option (Zl)) : Nat → Int → Option (Zl)
 | 0, _ => none
 | k2 + 1, v1 =>
  if (decide (v1 < (a0.Calls.length : Int))) = true then
   if (0 : Int) ≤ v1 ∧ v1 < a0.Calls.length then
    if ((a0.Calls.getD v1.toNat Z4).Caller == a1) = true then
     if (0 : Int) ≤ v1 ∧ v1 < a0.Calls.length then
      if ((a0.Calls.getD v1.toNat Z4).Callee == a2) = true then
       if (0 : Int) ≤ v1 ∧ v1 < a0.Calls.length then
        some (a0.Calls.getD v1.toNat Z4)
       else none
      else
       F54_j6 K (Z7s K a0 a1 a2 c4 k2) v1
     else none
    else
     F54_j6 K (Z7s K a0 a1 a2 c4 k2) v1
   else none
  else
   c4
def F54 (K : Nat) (a0 : Zb) (a1 : Str) (a2 : Str) : Option (Zl) :=
 Z7s K a0 a1 a2 (Za1 K a1 a2) K 0
theorem F54_ok (K : Nat) (a0 : Zb) (a1 : Str) (a2 : Str) (r : Zl) (h : F54 K a0 a1 a2 = some r) : ACall P 54 ⟨[(Z5 a0), (.str a1), (.str a2)], [], (Z3 r), [], []⟩ := by
 refine Z1p Tryz.func54 Tryz.results54 rfl Tryz.ntmps54 rfl rfl rfl ?_
 intro E Q hP hN hro hret
 obtain ⟨P', nt', w0, F0, p0, S0, β0, ro0⟩ := E
 simp only at hP hN
 subst hP hN
 dsimp only [argT]
 unfold F54 at h
 refine Zg <| Za <| Z1 I (Z2l (v := (Z5 a0)) (cs := (Z5 a0).cells) I I I I I) I <| Z1 I (Z22 (cs := [(.str []), (.str []), (.int .i64 0), (.int .i64 0), (.int .i64 0)]) I z88 I I I) I <| Ze <| Zf <| Zg <| Zg ?_
 refine Za <| Z1 I (Zi (v := (.int .i64 0)) I I) I <| Ze <| Zf <| Z1t (st' := ⟨[(1, (.str a1)), (2, (.str a2)), (3, (.ptr 3 0)), (6, (.ptr 6 0)), (7, (.int .i64 0))], [(3, (.box (Z5 a0).cells)), (6, (.box [(.str []), (.str []), (.int .i64 0), (.int .i64 0), (.int .i64 0)]))]⟩) ⟨rfl, rfl, rfl, rfl, rfl, trivial⟩ ⟨rfl, rfl, trivial⟩ ?_
 refine Z1h (V := Int) (X := Unit) (lp := fun k v => Z7s K a0 a1 a2 (Za1 K a1 a2) k v = some r) (sh := fun v => ⟨[(1, (.str a1)), (2, (.str a2)), (3, (.ptr 3 0)), (6, (.ptr 6 0)), (7, (.int .i64 v))], [(3, (.box (Z5 a0).cells)), (6, (.box [(.str []), (.str []), (.int .i64 0), (.int .i64 0), (.int .i64 0)]))]⟩) (x := fun v => Za1 K a1 a2 = some r) (shx := fun v => ⟨[(1, (.str a1)), (2, (.str a2)), (6, (.ptr 6 0))], [(6, (.box [(.str []), (.str []), (.int .i64 0), (.int .i64 0), (.int .i64 0)]))]⟩) (k := K) (v := 0) h ?_ ?_
 ·intro v h
  try dsimp only at h ⊢
  unfold Za1 at h
  refine Zf <| Zg <| Za <| Z1 I (Zh (v := (.str a1)) I I) I <| Z1 I (Zh (v := (.str a2)) I I) I <| Z1 I (Z29 (vs := [(0, (.str a1)), (1, (.str a2))]) (cs := [(.str a1), (.str a2), (.int .i64 0), (.int .i64 0), (.int .i64 0)]) I st88 ⟨rfl, rfl, rfl, rfl, trivial⟩ I) I <| Z1 I (Z1j (cs := [(.str []), (.str []), (.int .i64 0), (.int .i64 0), (.int .i64 0)]) (vs := [(.str a1), (.str a2), (.int .i64 0), (.int .i64 0), (.int .i64 0)]) (ds := [(.str a1), (.str a2), (.int .i64 0), (.int .i64 0), (.int .i64 0)]) (v := (.ag [(.str a1), (.str a2), (.int .i64 0), (.int .i64 0), (.int .i64 0)])) sz88 I I I I I I I I) I <| Ze ?_
  refine Zf <| Z1a ?_
  have h := Option.some.inj h
  subst h
  refine (hret _ ?_).1
  exact ⟨[(.ag [(.str a1), (.str a2), (.int .i64 0), (.int .i64 0), (.int .i64 0)])], ⟨⟨6, _, rfl, rfl, .inr ⟨_, a88, rfl, rfl⟩⟩, trivial⟩, rfl, trivial⟩
 ·intro N k2 v h IH2 J2
  revert h
  revert v
  intro v1 h
  try dsimp only at h IH2 J2 ⊢
  cases k2 with
  | zero => cases h
  | succ k2 =>
   rw [Z7s] at h
   refine Zg <| Zg <| Za <| Z1 I (Zh (v := (.int .i64 v1)) I I) I <| Z1 I (Zp (m := 3) (o := 0) I Z3y I I) I <| Z1 I (Zu (cs := (Z5 a0).cells) (v := (.sl 5 (a0.Calls.map Z3) false)) I o42 I I I) I <| Z1 I (Z24 (l := a0.Calls) (enc := Z3) I s42 I) I <| Z1 I (Z1w (k := .i64) (a := v1) (b := (a0.Calls.length : Int)) (c := (decide (v1 < (a0.Calls.length : Int)))) I I I I) I ?_
   refine Ze <| Zf ?_
   have hif := Z1y h
   refine Z13 I (fun hc => ?_) (fun hc => ?_)
   ·have h := hif.1 hc
    refine Z16 <| Zf <| Zg ?_
    refine AWp.blockJoin (V := Unit) (lp := fun v => F54_j6 K (Z7s K a0 a1 a2 (Za1 K a1 a2) k2) v1 = some r) (sh := fun v => ⟨[(1, (.str a1)), (2, (.str a2)), (3, (.ptr 3 0)), (6, (.ptr 6 0)), (7, (.int .i64 v1))], [(3, (.box (Z5 a0).cells)), (6, (.box [(.str []), (.str []), (.int .i64 0), (.int .i64 0), (.int .i64 0)]))]⟩) ?_ ?_
    ·intro v h
     try dsimp only at h ⊢
     unfold F54_j6 at h
     refine Zf <| Za <| Z1 I (Zh (v := (.int .i64 v1)) I I) I <| Z1 I (Z1n (k := .i64) (a := v1) (b := 1) (c := (IntKind.i64.wrap (v1 + 1))) I I I I) I <| Z1 I (Zi (v := (.int .i64 (IntKind.i64.wrap (v1 + 1)))) I I) I <| Ze ?_
     exact Zw (st' := ⟨[(1, (.str a1)), (2, (.str a2)), (3, (.ptr 3 0)), (6, (.ptr 6 0)), (7, (.int .i64 (IntKind.i64.wrap (v1 + 1))))], [(3, (.box (Z5 a0).cells)), (6, (.box [(.str []), (.str []), (.int .i64 0), (.int .i64 0), (.int .i64 0)]))]⟩) ⟨rfl, rfl, rfl, rfl, rfl, trivial⟩ ⟨rfl, rfl, trivial⟩ (IH2 _ (IntKind.i64.wrap (v1 + 1)) (Nat.lt_succ_self _) h)
    ·intro J6
     refine Zg <| Za <| Z1 I (Zp (m := 3) (o := 0) I Z3y I I) I <| Z1 I (Zu (cs := (Z5 a0).cells) (v := (.sl 5 (a0.Calls.map Z3) false)) I o42 I I I) I <| Z1 I (Zh (v := (.int .i64 v1)) I I) I ?_
     have ⟨hg7, h⟩ := Zv h
     refine Z1 I (Z1s (k := .i64) (l := a0.Calls) (enc := Z3) (z := Z4) (n := v1) (cs := (Z3 (a0.Calls.getD v1.toNat Z4)).cells) (full := false) I s42 I I hg7 I) I <| Z1 I (Z2r (cs := (Z3 (a0.Calls.getD v1.toNat Z4)).cells) (ds := (Z3 (a0.Calls.getD v1.toNat Z4)).cells) I Z8p I I I) I <| Z1 I (Z26 (cs := (Z3 (a0.Calls.getD v1.toNat Z4)).cells) (v := (.str (a0.Calls.getD v1.toNat Z4).Caller)) I o9 I I) I <| Z1 I (Zh (v := (.str a1)) I I) I <| Z1 I (Z2z (a := (a0.Calls.getD v1.toNat Z4).Caller) (b := a1) (c := ((a0.Calls.getD v1.toNat Z4).Caller == a1)) I I I I) I <| Z1 I (Zh (v := (.bool ((a0.Calls.getD v1.toNat Z4).Caller == a1))) I I) I ?_
     have hif := Z1y h
     refine AOps.split (fun hc => ?_) (fun hc => ?_)
     ·have h := hif.1 hc
      refine Zy I I I I (Zp (m := 3) (o := 0) I Z3y I I) I <| Zy I I I I (Zu (cs := (Z5 a0).cells) (v := (.sl 5 (a0.Calls.map Z3) false)) I o42 I I I) I <| Zy I I I I (Zh (v := (.int .i64 v1)) I I) I ?_
      have ⟨hg8, h⟩ := Zv h
      refine Zy I I I I (Z1s (k := .i64) (l := a0.Calls) (enc := Z3) (z := Z4) (n := v1) (cs := (Z3 (a0.Calls.getD v1.toNat Z4)).cells) (full := false) I s42 I I hg8 I) I <| Zy I I I I (Z2r (cs := (Z3 (a0.Calls.getD v1.toNat Z4)).cells) (ds := [(.str (a0.Calls.getD v1.toNat Z4).Callee), (.int .i64 (a0.Calls.getD v1.toNat Z4).Count), (.int .i64 (a0.Calls.getD v1.toNat Z4).Errors), (.int .i64 (a0.Calls.getD v1.toNat Z4).Time)]) I Z7o I I I) I <| Zy I I I I (Z26 (cs := [(.str (a0.Calls.getD v1.toNat Z4).Callee), (.int .i64 (a0.Calls.getD v1.toNat Z4).Count), (.int .i64 (a0.Calls.getD v1.toNat Z4).Errors), (.int .i64 (a0.Calls.getD v1.toNat Z4).Time)]) (v := (.str (a0.Calls.getD v1.toNat Z4).Callee)) I o9 I I) I <| Zy I I I I (Zh (v := (.str a2)) I I) I <| Zy I I I I (Z2z (a := (a0.Calls.getD v1.toNat Z4).Callee) (b := a2) (c := ((a0.Calls.getD v1.toNat Z4).Callee == a2)) I I I I) I <| Z1 I (Z2d (v := (.bool ((a0.Calls.getD v1.toNat Z4).Callee == a2))) I I I) I <| Ze <| Zf ?_
      have hif := Z1y h
      refine Z13 I (fun hc => ?_) (fun hc => ?_)
      ·have h := hif.1 hc
       refine Zg <| Za <| Z1 I (Zp (m := 3) (o := 0) I Z3y I I) I <| Z1 I (Zu (cs := (Z5 a0).cells) (v := (.sl 5 (a0.Calls.map Z3) false)) I o42 I I I) I <| Z1 I (Zh (v := (.int .i64 v1)) I I) I ?_
       have ⟨hg9, h⟩ := Zv h
       refine Z1 I (Z1s (k := .i64) (l := a0.Calls) (enc := Z3) (z := Z4) (n := v1) (cs := (Z3 (a0.Calls.getD v1.toNat Z4)).cells) (full := false) I s42 I I hg9 I) I <| Z1 I (Z2k (cs := (Z3 (a0.Calls.getD v1.toNat Z4)).cells) (vs := (Z3 (a0.Calls.getD v1.toNat Z4)).cells) I a88 I I I) I <| Z1 I (Z1j (cs := [(.str []), (.str []), (.int .i64 0), (.int .i64 0), (.int .i64 0)]) (vs := (Z3 (a0.Calls.getD v1.toNat Z4)).cells) (ds := (Z3 (a0.Calls.getD v1.toNat Z4)).cells) (v := (Z3 (a0.Calls.getD v1.toNat Z4))) sz88 I I I I I I I I) I <| Ze <| Zf <| Z1a <| At.overR <| Z1b ?_
       refine Z1b (At.overR ?_)
       refine Z1b ?_
       have h := Option.some.inj h
       subst h
       refine (hret _ ?_).1
       exact ⟨[(Z3 (a0.Calls.getD v1.toNat Z4))], ⟨⟨6, _, rfl, rfl, .inr ⟨_, a88, rfl, rfl⟩⟩, trivial⟩, rfl, trivial⟩
      ·have h := hif.2 hc
       refine Z16 <| At.end ?_
       exact Zw (st' := ⟨[(1, (.str a1)), (2, (.str a2)), (3, (.ptr 3 0)), (6, (.ptr 6 0)), (7, (.int .i64 v1))], [(3, (.box (Z5 a0).cells)), (6, (.box [(.str []), (.str []), (.int .i64 0), (.int .i64 0), (.int .i64 0)]))]⟩) ⟨rfl, rfl, rfl, rfl, rfl, trivial⟩ ⟨rfl, rfl, trivial⟩ (J6 () h)
     ·have h := hif.2 hc
      refine Zt I I I I I I I <| Zt I I I I I I I <| Zt I I I I I I I <| Zt I I I I I I I <| Zt I I I I I I I <| Zt I I I I I I I <| Zt I I I I I I I <| Zt I I I I I I I ?_
      refine Z1 I (Z2a (v := (.bool false)) I I I) I <| Ze <| Zf ?_
      refine Z13 (b := false) I (fun hc => ?_) (fun hc => ?_)
      ·cases hc
      refine Z16 <| At.end ?_
      exact Zw (st' := ⟨[(1, (.str a1)), (2, (.str a2)), (3, (.ptr 3 0)), (6, (.ptr 6 0)), (7, (.int .i64 v1))], [(3, (.box (Z5 a0).cells)), (6, (.box [(.str []), (.str []), (.int .i64 0), (.int .i64 0), (.int .i64 0)]))]⟩) ⟨rfl, rfl, rfl, rfl, rfl, trivial⟩ ⟨rfl, rfl, trivial⟩ (J6 () h)
   ·have h := hif.2 hc
    refine AWp.exit <| At.thru ?_
    exact Zw (st' := ⟨[(1, (.str a1)), (2, (.str a2)), (6, (.ptr 6 0))], [(6, (.box [(.str []), (.str []), (.int .i64 0), (.int .i64 0), (.int .i64 0)]))]⟩) ⟨rfl, rfl, rfl, trivial⟩ ⟨rfl, trivial⟩ (J2 () h)
def Z93 (K : Nat) (v1 : Bool) : Option (Bool) :=
 some v1
def F71 (K : Nat) (a0 : Str) (a1 : Str) (a2 : Str) (a3 : Str) : Option (Bool) :=
 if (slt a0 a2) = true then
  Z93 K true
 else
  if (a0 == a2) = true then
   Z93 K (slt a1 a3)
  else
   Z93 K false
theorem F71_ok (K : Nat) (a0 : Str) (a1 : Str) (a2 : Str) (a3 : Str) (r : Bool) (h : F71 K a0 a1 a2 a3 = some r) : ACall P 71 ⟨[(.str a0), (.str a1), (.str a2), (.str a3)], [], (.bool r), [], []⟩ := by
 refine Z1p Tryz.func71 Tryz.results71 rfl Tryz.ntmps71 rfl rfl rfl ?_
 intro E Q hP hN hro hret
 obtain ⟨P', nt', w0, F0, p0, S0, β0, ro0⟩ := E
 simp only at hP hN
 subst hP hN
 dsimp only [argT]
 unfold F71 at h
 refine Zg <| Za <| Z1 I (Zi (v := (.bool false)) I I) I <| Ze <| Zf <| Zg ?_
 refine AWp.join (V := Bool) (lp := fun v => Z93 K v = some r) (sh := fun v => ⟨[(8, (.bool v))], []⟩) ?_ ?_
 ·intro v h
  revert h
  revert v
  intro v1 h
  try dsimp only at h ⊢
  unfold Z93 at h
  refine Zf <| Z1a ?_
  have h := Option.some.inj h
  subst h
  refine (hret _ ?_).1
  exact ⟨[(.bool v1)], ⟨rfl, trivial⟩, rfl, trivial⟩
 ·intro J2
  refine Za <| Z1 I (Zh (v := (.str a0)) I I) I <| Z1 I (Zh (v := (.str a2)) I I) I <| Z1 I (Z2z (a := a0) (b := a2) (c := (slt a0 a2)) I I I I) I <| Z1 I (Zh (v := (.bool (slt a0 a2))) I I) I ?_
  have hif := Z1y h
  refine AOps.split (fun hc => ?_) (fun hc => ?_)
  ·have h := hif.1 hc
   refine Zt I I I I I I I <| Zt I I I I I I I <| Zt I I I I I I I <| Zt I I I I I I I <| Zt (u := .tup []) I I I I I I I <| Zt (u := .tup []) I I I I I I I <| Zt (u := .tup []) I I I I I I I <| Zt I I I I I I I ?_
   refine Z1 I (Z2d (v := (.bool true)) I I I) I <| Z1 I (Zi (v := (.bool true)) I I) I <| Ze ?_
   exact Zw (st' := ⟨[(8, (.bool true))], []⟩) ⟨rfl, trivial⟩ trivial (J2 true h)
  ·have h := hif.2 hc
   refine Zy I I I I (Zh (v := (.str a0)) I I) I <| Zy I I I I (Zh (v := (.str a2)) I I) I <| Zy I I I I (Z2z (a := a0) (b := a2) (c := (a0 == a2)) I I I I) I <| Zy I I I I (Zh (v := (.bool (a0 == a2))) I I) I ?_
   have hif := Z1y h
   refine AOps.split (fun hc => ?_) (fun hc => ?_)
   ·have h := hif.1 hc
    refine Zy I I I I (Zh (v := (.str a1)) I I) I <| Zy I I I I (Zh (v := (.str a3)) I I) I <| Zy I I I I (Z2z (a := a1) (b := a3) (c := (slt a1 a3)) I I I I) I <| Zy I I I I (Z2d (v := (.bool (slt a1 a3))) I I I) I <| Z1 I (Z2a (v := (.bool (slt a1 a3))) I I I) I <| Z1 I (Zi (v := (.bool (slt a1 a3))) I I) I <| Ze ?_
    exact Zw (st' := ⟨[(8, (.bool (slt a1 a3)))], []⟩) ⟨rfl, trivial⟩ trivial (J2 (slt a1 a3) h)
   ·have h := hif.2 hc
    refine Zt I I I I I I I <| Zt I I I I I I I <| Zt I I I I I I I <| Zy I I I I (Z2a (v := (.bool false)) I I I) I <| Z1 I (Z2a (v := (.bool false)) I I I) I <| Z1 I (Zi (v := (.bool false)) I I) I <| Ze ?_
    exact Zw (st' := ⟨[(8, (.bool false))], []⟩) ⟨rfl, trivial⟩ trivial (J2 false h)
def Z8f (K : Nat) (v3 : Int) (a0 : Zb) (a1 : Zl) (v9 : (List Zl)) : Option (Zb) :=
 if (0 : Int) ≤ 0 ∧ 0 ≤ v3 ∧ v3 ≤ a0.Calls.length then
  if ([] : List Zl).length + (a0.Calls.take v3.toNat).length ≤ 1073741824 then
   if (a0.Calls.take v3.toNat).length + [a1].length ≤ 1073741824 then
    if ((a0.Calls.take v3.toNat) ++ [a1]).length + v9.length ≤ 1073741824 then
     some (⟨a0.Services, (((a0.Calls.take v3.toNat) ++ [a1]) ++ v9)⟩ : Zb)
    else none
   else none
  else none
 else none
def Z70 (K : Nat) (a0 : Zb) (v3 : Int) (a1 : Zl) (v7 : Bool) : Option (Zb) :=
 if v7 = true then
  if (0 : Int) ≤ 1 ∧ 1 ≤ ((a0.Calls.drop v3.toNat).length : Int) ∧ ((a0.Calls.drop v3.toNat).length : Int) ≤ (a0.Calls.drop v3.toNat).length then
   Z8f K v3 a0 a1 ((a0.Calls.drop v3.toNat).drop (1 : Int).toNat)
  else none
 else
  Z8f K v3 a0 a1 (a0.Calls.drop v3.toNat)
def Za2 (K : Nat) (a0 : Zb) (a1 : Zl) (v3 : Int) : Option (Zb) :=
 if (0 : Int) ≤ v3 ∧ v3 ≤ (a0.Calls.length : Int) ∧ (a0.Calls.length : Int) ≤ a0.Calls.length then
  if (decide (((a0.Calls.drop v3.toNat).length : Int) > 0)) = true then
   if (0 : Int) ≤ 0 ∧ (0 : Int) < (a0.Calls.drop v3.toNat).length then
    if (((a0.Calls.drop v3.toNat).getD (0 : Int).toNat Z4).Caller == a1.Caller) = true then
     if (0 : Int) ≤ 0 ∧ (0 : Int) < (a0.Calls.drop v3.toNat).length then
      Z70 K a0 v3 a1 (((a0.Calls.drop v3.toNat).getD (0 : Int).toNat Z4).Callee == a1.Callee)
     else none
    else
     Z70 K a0 v3 a1 false
   else none
  else
   Z70 K a0 v3 a1 false
 else none
def Z90 (K : Nat) (a0 : Zb) (a1 : Zl) (c5 : Int → Option (Zb)) : Nat → Int → Option (Zb)
 | 0, _ => none
 | k2 + 1, v1 =>
  if (decide (v1 < (a0.Calls.length : Int))) = true then
   if (0 : Int) ≤ v1 ∧ v1 < a0.Calls.length then
    if (0 : Int) ≤ v1 ∧ v1 < a0.Calls.length then
     (F71 K (a0.Calls.getD v1.toNat Z4).Caller (a0.Calls.getD v1.toNat Z4).Callee a1.Caller a1.Callee).bind fun v22 =>
      if v22 = true then
       (Z90 K a0 a1 c5 k2) (IntKind.i64.wrap (v1 + 1))
      else
       c5 v1
    else none
   else none
  else
   c5 v1
def F55 (K : Nat) (a0 : Zb) (a1 : Zl) : Option (Zb) :=
 Z90 K a0 a1 (Za2 K a0 a1) K 0
theorem F55_ok (K : Nat) (a0 : Zb) (a1 : Zl) (r : Zb) (h : F55 K a0 a1 = some r) : ACall P 55 ⟨[(Z5 a0), (Z3 a1)], [], (Z5 r), [], []⟩ := by
 refine Z1p Tryz.func55 Tryz.results55 rfl Tryz.ntmps55 rfl rfl rfl ?_
 intro E Q hP hN hro hret
 obtain ⟨P', nt', w0, F0, p0, S0, β0, ro0⟩ := E
 simp only at hP hN
 subst hP hN
 dsimp only [argT]
 unfold F55 at h
 refine Zg <| Za <| Z1 I (Z2l (v := (Z5 a0)) (cs := (Z5 a0).cells) I I I I I) I <| Z1 I (Z2l (v := (Z3 a1)) (cs := (Z3 a1).cells) I I I I I) I <| Z1 I (Z22 (cs := [(.sl 4 [] false), (.sl 5 [] false)]) I z44 I I I) I <| Ze <| Zf <| Zg ?_
 refine Za <| Z1 I (Zi (v := (.int .i64 0)) I I) I <| Ze <| Zf <| Zg <| Z1t (st' := ⟨[(2, (.ptr 2 0)), (3, (.ptr 3 0)), (4, (.ptr 4 0)), (5, (.int .i64 0))], [(2, (.box (Z5 a0).cells)), (3, (.box (Z3 a1).cells)), (4, (.box [(.sl 4 [] false), (.sl 5 [] false)]))]⟩) ⟨rfl, rfl, rfl, rfl, trivial⟩ ⟨rfl, rfl, rfl, trivial⟩ ?_
 refine Z1h (V := Int) (X := Int) (lp := fun k v => Z90 K a0 a1 (Za2 K a0 a1) k v = some r) (sh := fun v => ⟨[(2, (.ptr 2 0)), (3, (.ptr 3 0)), (4, (.ptr 4 0)), (5, (.int .i64 v))], [(2, (.box (Z5 a0).cells)), (3, (.box (Z3 a1).cells)), (4, (.box [(.sl 4 [] false), (.sl 5 [] false)]))]⟩) (x := fun v => Za2 K a0 a1 v = some r) (shx := fun v => ⟨[(2, (.ptr 2 0)), (3, (.ptr 3 0)), (4, (.ptr 4 0)), (5, (.int .i64 v))], [(2, (.box (Z5 a0).cells)), (3, (.box (Z3 a1).cells)), (4, (.box [(.sl 4 [] false), (.sl 5 [] false)]))]⟩) (k := K) (v := 0) h ?_ ?_
 ·intro v h
  revert h
  revert v
  intro v3 h
  try dsimp only at h ⊢
  unfold Za2 at h
  refine Zf <| Zg <| Za <| Z1 I (Zp (m := 2) (o := 0) I Z3y I I) I <| Z1 I (Zu (cs := (Z5 a0).cells) (v := (.sl 5 (a0.Calls.map Z3) false)) I o42 I I I) I <| Z1 I (Zh (v := (.int .i64 v3)) I I) I ?_
  have ⟨hg6, h⟩ := Zv h
  refine Z1 I (Z6e (l := a0.Calls) (enc := Z3) (kl := .i64) (lo := v3) I s42 I I hg6) I <| Z1 I (Zi (v := (.sl 5 ((a0.Calls.drop v3.toNat).map Z3) false)) I I) I <| Ze <| Zf <| Zg <| Zg ?_
  refine AWp.join (V := Bool) (lp := fun v => Z70 K a0 v3 a1 v = some r) (sh := fun v => ⟨[(2, (.ptr 2 0)), (3, (.ptr 3 0)), (4, (.ptr 4 0)), (5, (.int .i64 v3)), (6, (.sl 5 ((a0.Calls.drop v3.toNat).map Z3) false)), (57, (.bool v))], [(2, (.box (Z5 a0).cells)), (3, (.box (Z3 a1).cells)), (4, (.box [(.sl 4 [] false), (.sl 5 [] false)]))]⟩) ?_ ?_
  ·intro v h
   revert h
   revert v
   intro v7 h
   try dsimp only at h ⊢
   unfold Z70 at h
   refine Zf ?_
   refine AWp.join (V := (List Zl)) (lp := fun v => Z8f K v3 a0 a1 v = some r) (sh := fun v => ⟨[(2, (.ptr 2 0)), (3, (.ptr 3 0)), (4, (.ptr 4 0)), (5, (.int .i64 v3)), (6, (.sl 5 (v.map Z3) false))], [(2, (.box (Z5 a0).cells)), (3, (.box (Z3 a1).cells)), (4, (.box [(.sl 4 [] false), (.sl 5 [] false)]))]⟩) ?_ ?_
   ·intro v h
    revert h
    revert v
    intro v9 h
    try dsimp only at h ⊢
    unfold Z8f at h
    refine Zf <| Zg <| AWp.regionD mixed <| Z9 0 I (Z1d (vs := []) (enc := Z3) (l := ([] : List Zl)) I el42 I I trivial I Z2e I I I I) <| Z9 1 I (Zp (m := 2) (o := 0) I Z3y I I) <| Z9 2 I (Zu (cs := (Z5 a0).cells) (v := (.sl 5 (a0.Calls.map Z3) false)) I o42 I I I) <| Z9 3 I (Zh (v := (.int .i64 v3)) I I) ?_
    have ⟨hg11, h⟩ := Zv h
    refine Z9 4 I (Z8m (l := a0.Calls) (enc := Z3) (kh := .i64) (hi := v3) I s42 I I hg11) ?_
    have ⟨hg12, h⟩ := Zv h
    refine Z9 5 I (Z2g (m := 60) (enc := Z3) (l := ([] : List Zl)) (l' := (a0.Calls.take v3.toNat)) (src := (.sl 5 ((a0.Calls.take v3.toNat).map Z3) false)) (rd := []) I I el42 I u42 I I I ⟨rfl, rfl, rfl⟩ noReads Z2e hg12) <| Z9 6 I (Z1q (cs := (Z3 a1).cells) (vs := (Z3 a1).cells) I a88 I I I I) <| Z9 7 I (Z1d (vs := [(Z3 a1)]) (enc := Z3) (l := [a1]) I el42 I I ⟨rfl, trivial⟩ I Z2e I I I I) ?_
    have ⟨hg13, h⟩ := Zv h
    refine Z9 8 I (Z2g (m := 60) (enc := Z3) (l := (a0.Calls.take v3.toNat)) (l' := [a1]) (src := (.vs 67)) (rd := [(67, (.vec 5 (List.map Z3 [a1])))]) I I el42 I u42 I I I I (oneRead I) Z2e hg13) <| Z9 9 I (Zh (v := (.sl 5 (v9.map Z3) false)) I I) ?_
    have ⟨hg14, h⟩ := Zv h
    refine Z9 10 I (Z2g (m := 60) (enc := Z3) (l := ((a0.Calls.take v3.toNat) ++ [a1])) (l' := v9) (src := (.sl 5 (v9.map Z3) false)) (rd := []) I I el42 I u42 I I I ⟨rfl, rfl, rfl⟩ noReads Z2e hg14) <| Z9 11 I (Zp (m := 2) (o := 0) I Z3y I I) <| Z9 12 I (Z1j (cs := (Z5 a0).cells) (vs := [(.vs 60)]) (ds := [(.sl 4 (a0.Services.map Z2) false), (.vs 60)]) (v := (.vs 60)) sz42 I I I I I I I I) <| AOpsD.nil (by kernel_rfl) I <| Zf <| Zg <| Za <| Z1 I (Z1q (cs := [(.sl 4 (a0.Services.map Z2) false), (.vs 60)]) (vs := [(.sl 4 (a0.Services.map Z2) false), (.vs 60)]) I a44 I I I I) I ?_
    refine Z1 I (Z1j (cs := [(.sl 4 [] false), (.sl 5 [] false)]) (vs := [(.sl 4 (a0.Services.map Z2) false), (.vs 60)]) (ds := [(.sl 4 (a0.Services.map Z2) false), (.vs 60)]) (v := (.ag [(.sl 4 (a0.Services.map Z2) false), (.vs 60)])) sz44 I I I I I I I I) I <| Ze <| Zf <| Z1a <| At.ghost (st' := ⟨[(4, (.ptr 4 0))], [(4, (.box [(.sl 4 (a0.Services.map Z2) false), (.sl 5 ((((a0.Calls.take v3.toNat) ++ [a1]) ++ v9).map Z3) false)]))]⟩) (fun a w h => (Z1c ⟨[(4, (.ptr 4 0))], [(4, (.box [(.sl 4 (a0.Services.map Z2) false), (.sl 5 ((((a0.Calls.take v3.toNat) ++ [a1]) ++ v9).map Z3) false)]))]⟩ (Z27 (m := 60) (sz := 5) (es := (List.map Z3 (((a0.Calls.take v3.toNat) ++ [a1]) ++ v9))) a w (Z1c ⟨[(4, (.ptr 4 0))], [(60, (.vec 5 (List.map Z3 (((a0.Calls.take v3.toNat) ++ [a1]) ++ v9)))), (4, (.box [(.sl 4 (a0.Services.map Z2) false), (.vs 60)]))]⟩ h ⟨rfl, trivial⟩ ⟨rfl, rfl, trivial⟩)) ⟨rfl, trivial⟩ ⟨rfl, trivial⟩)) ?_
    have h := Option.some.inj h
    subst h
    refine (hret _ ?_).1
    exact ⟨[(.ag [(.sl 4 (a0.Services.map Z2) false), (.sl 5 ((((a0.Calls.take v3.toNat) ++ [a1]) ++ v9).map Z3) false)])], ⟨⟨4, _, rfl, rfl, .inr ⟨_, a44, rfl, rfl⟩⟩, trivial⟩, rfl, trivial⟩
   ·intro J10
    have hif := Z1y h
    refine Z13 I (fun hc => ?_) (fun hc => ?_)
    ·have h := hif.1 hc
     refine Za <| Z1 I (Zh (v := (.sl 5 ((a0.Calls.drop v3.toNat).map Z3) false)) I I) I ?_
     have ⟨hg15, h⟩ := Zv h
     refine Z1 I (Z6e (l := (a0.Calls.drop v3.toNat)) (enc := Z3) (kl := .i64) (lo := 1) I s42 I I hg15) I <| Z1 I (Zi (v := (.sl 5 (((a0.Calls.drop v3.toNat).drop (1 : Int).toNat).map Z3) false)) I I) I <| Ze ?_
     exact Zw (st' := ⟨[(2, (.ptr 2 0)), (3, (.ptr 3 0)), (4, (.ptr 4 0)), (5, (.int .i64 v3)), (6, (.sl 5 (((a0.Calls.drop v3.toNat).drop (1 : Int).toNat).map Z3) false))], [(2, (.box (Z5 a0).cells)), (3, (.box (Z3 a1).cells)), (4, (.box [(.sl 4 [] false), (.sl 5 [] false)]))]⟩) ⟨rfl, rfl, rfl, rfl, rfl, trivial⟩ ⟨rfl, rfl, rfl, trivial⟩ (J10 ((a0.Calls.drop v3.toNat).drop (1 : Int).toNat) h)
    ·have h := hif.2 hc
     refine Z16 ?_
     exact Zw (st' := ⟨[(2, (.ptr 2 0)), (3, (.ptr 3 0)), (4, (.ptr 4 0)), (5, (.int .i64 v3)), (6, (.sl 5 ((a0.Calls.drop v3.toNat).map Z3) false))], [(2, (.box (Z5 a0).cells)), (3, (.box (Z3 a1).cells)), (4, (.box [(.sl 4 [] false), (.sl 5 [] false)]))]⟩) ⟨rfl, rfl, rfl, rfl, rfl, trivial⟩ ⟨rfl, rfl, rfl, trivial⟩ (J10 (a0.Calls.drop v3.toNat) h)
  ·intro J8
   refine AWp.regionD mixed <| Z9 0 I (Zh (v := (.sl 5 ((a0.Calls.drop v3.toNat).map Z3) false)) I I) <| Z9 1 I (Z24 (l := (a0.Calls.drop v3.toNat)) (enc := Z3) I s42 I) <| Z9 2 I (Z1w (k := .i64) (a := ((a0.Calls.drop v3.toNat).length : Int)) (b := 0) (c := (decide (((a0.Calls.drop v3.toNat).length : Int) > 0))) I I I I) <| Z9 3 I (Zh (v := (.bool (decide (((a0.Calls.drop v3.toNat).length : Int) > 0)))) I I) ?_
   have hif := Z1y h
   refine AOpsD.split (fun hc => ?_) (fun hc => ?_)
   ·have h := hif.1 hc
    refine Z1e 4 I I I I (Zh (v := (.sl 5 ((a0.Calls.drop v3.toNat).map Z3) false)) I I) ?_
    have ⟨hg16, h⟩ := Zv h
    refine Z1e 5 I I I I (Z1s (k := .i64) (l := (a0.Calls.drop v3.toNat)) (enc := Z3) (z := Z4) (n := 0) (cs := (Z3 ((a0.Calls.drop v3.toNat).getD (0 : Int).toNat Z4)).cells) (full := false) I s42 I I hg16 I) <| Z1e 6 I I I I (Z2r (cs := (Z3 ((a0.Calls.drop v3.toNat).getD (0 : Int).toNat Z4)).cells) (ds := (Z3 ((a0.Calls.drop v3.toNat).getD (0 : Int).toNat Z4)).cells) I Z8p I I I) <| Z1e 7 I I I I (Z26 (cs := (Z3 ((a0.Calls.drop v3.toNat).getD (0 : Int).toNat Z4)).cells) (v := (.str ((a0.Calls.drop v3.toNat).getD (0 : Int).toNat Z4).Caller)) I o9 I I) <| Z1e 8 I I I I (Zp (m := 3) (o := 0) I Z8p I I) <| Z1e 9 I I I I (Zu (cs := (Z3 a1).cells) (v := (.str a1.Caller)) I o9 I I I) <| Z1e 10 I I I I (Z2z (a := ((a0.Calls.drop v3.toNat).getD (0 : Int).toNat Z4).Caller) (b := a1.Caller) (c := (((a0.Calls.drop v3.toNat).getD (0 : Int).toNat Z4).Caller == a1.Caller)) I I I I) <| Z9 11 I (Z2d (v := (.bool (((a0.Calls.drop v3.toNat).getD (0 : Int).toNat Z4).Caller == a1.Caller))) I I I) <| Z9 12 I (Zh (v := (.bool (((a0.Calls.drop v3.toNat).getD (0 : Int).toNat Z4).Caller == a1.Caller))) I I) ?_
    have hif := Z1y h
    refine AOpsD.split (fun hc => ?_) (fun hc => ?_)
    ·have h := hif.1 hc
     refine Z1e 13 I I I I (Zh (v := (.sl 5 ((a0.Calls.drop v3.toNat).map Z3) false)) I I) ?_
     have ⟨hg17, h⟩ := Zv h
     refine Z1e 14 I I I I (Z1s (k := .i64) (l := (a0.Calls.drop v3.toNat)) (enc := Z3) (z := Z4) (n := 0) (cs := (Z3 ((a0.Calls.drop v3.toNat).getD (0 : Int).toNat Z4)).cells) (full := false) I s42 I I hg17 I) <| Z1e 15 I I I I (Z2r (cs := (Z3 ((a0.Calls.drop v3.toNat).getD (0 : Int).toNat Z4)).cells) (ds := [(.str ((a0.Calls.drop v3.toNat).getD (0 : Int).toNat Z4).Callee), (.int .i64 ((a0.Calls.drop v3.toNat).getD (0 : Int).toNat Z4).Count), (.int .i64 ((a0.Calls.drop v3.toNat).getD (0 : Int).toNat Z4).Errors), (.int .i64 ((a0.Calls.drop v3.toNat).getD (0 : Int).toNat Z4).Time)]) I Z7o I I I) <| Z1e 16 I I I I (Z26 (cs := [(.str ((a0.Calls.drop v3.toNat).getD (0 : Int).toNat Z4).Callee), (.int .i64 ((a0.Calls.drop v3.toNat).getD (0 : Int).toNat Z4).Count), (.int .i64 ((a0.Calls.drop v3.toNat).getD (0 : Int).toNat Z4).Errors), (.int .i64 ((a0.Calls.drop v3.toNat).getD (0 : Int).toNat Z4).Time)]) (v := (.str ((a0.Calls.drop v3.toNat).getD (0 : Int).toNat Z4).Callee)) I o9 I I) <| Z1e 17 I I I I (Zp (m := 3) (o := 0) I Z7o I I) <| Z1e 18 I I I I (Zu (cs := (Z3 a1).cells) (v := (.str a1.Callee)) I o9 I I I) <| Z1e 19 I I I I (Z2z (a := ((a0.Calls.drop v3.toNat).getD (0 : Int).toNat Z4).Callee) (b := a1.Callee) (c := (((a0.Calls.drop v3.toNat).getD (0 : Int).toNat Z4).Callee == a1.Callee)) I I I I) <| Z9 20 I (Z2d (v := (.bool (((a0.Calls.drop v3.toNat).getD (0 : Int).toNat Z4).Callee == a1.Callee))) I I I) <| AOpsD.nil (by kernel_rfl) I ?_
     exact Zw (st' := ⟨[(2, (.ptr 2 0)), (3, (.ptr 3 0)), (4, (.ptr 4 0)), (5, (.int .i64 v3)), (6, (.sl 5 ((a0.Calls.drop v3.toNat).map Z3) false)), (57, (.bool (((a0.Calls.drop v3.toNat).getD (0 : Int).toNat Z4).Callee == a1.Callee)))], [(2, (.box (Z5 a0).cells)), (3, (.box (Z3 a1).cells)), (4, (.box [(.sl 4 [] false), (.sl 5 [] false)]))]⟩) ⟨rfl, rfl, rfl, rfl, rfl, rfl, trivial⟩ ⟨rfl, rfl, rfl, trivial⟩ (J8 (((a0.Calls.drop v3.toNat).getD (0 : Int).toNat Z4).Callee == a1.Callee) h)
    ·have h := hif.2 hc
     refine Z17 13 I I I I I I I <| Z17 14 I I I I I I I <| Z17 15 I I I I I I I <| Z17 16 I I I I I I I <| Z17 17 I I I I I I I <| Z17 18 I I I I I I I <| Z17 19 I I I I I I I <| Z9 20 I (Z2a (v := (.bool false)) I I I) ?_
     refine AOpsD.nil (by kernel_rfl) I ?_
     exact Zw (st' := ⟨[(2, (.ptr 2 0)), (3, (.ptr 3 0)), (4, (.ptr 4 0)), (5, (.int .i64 v3)), (6, (.sl 5 ((a0.Calls.drop v3.toNat).map Z3) false)), (57, (.bool false))], [(2, (.box (Z5 a0).cells)), (3, (.box (Z3 a1).cells)), (4, (.box [(.sl 4 [] false), (.sl 5 [] false)]))]⟩) ⟨rfl, rfl, rfl, rfl, rfl, rfl, trivial⟩ ⟨rfl, rfl, rfl, trivial⟩ (J8 false h)
   ·have h := hif.2 hc
    refine Z17 4 I I I I I I I <| Z17 5 I I I I I I I <| Z17 6 I I I I I I I <| Z17 7 I I I I I I I <| Z17 8 I I I I I I I <| Z17 9 I I I I I I I <| Z17 10 I I I I I I I <| Z9 11 I (Z2a (v := (.bool false)) I I I) ?_
    refine Z9 12 I (Zh (v := (.bool false)) I I) <| Z17 13 I I I I I I I <| Z17 14 I I I I I I I <| Z17 15 I I I I I I I <| Z17 16 I I I I I I I <| Z17 17 I I I I I I I <| Z17 18 I I I I I I I <| Z17 19 I I I I I I I ?_
    refine Z9 20 I (Z2a (v := (.bool false)) I I I) <| AOpsD.nil (by kernel_rfl) I ?_
    exact Zw (st' := ⟨[(2, (.ptr 2 0)), (3, (.ptr 3 0)), (4, (.ptr 4 0)), (5, (.int .i64 v3)), (6, (.sl 5 ((a0.Calls.drop v3.toNat).map Z3) false)), (57, (.bool false))], [(2, (.box (Z5 a0).cells)), (3, (.box (Z3 a1).cells)), (4, (.box [(.sl 4 [] false), (.sl 5 [] false)]))]⟩) ⟨rfl, rfl, rfl, rfl, rfl, rfl, trivial⟩ ⟨rfl, rfl, rfl, trivial⟩ (J8 false h)
 ·intro N k2 v h IH2 J2
  revert h
  revert v
  intro v1 h
  try dsimp only at h IH2 J2 ⊢
  cases k2 with
  | zero => cases h
  | succ k2 =>
   rw [Z90] at h
   refine Zg <| Zg <| AWp.regionD mixed <| Z9 0 I (Zh (v := (.int .i64 v1)) I I) <| Z9 1 I (Zp (m := 2) (o := 0) I Z3y I I) <| Z9 2 I (Zu (cs := (Z5 a0).cells) (v := (.sl 5 (a0.Calls.map Z3) false)) I o42 I I I) <| Z9 3 I (Z24 (l := a0.Calls) (enc := Z3) I s42 I) <| Z9 4 I (Z1w (k := .i64) (a := v1) (b := (a0.Calls.length : Int)) (c := (decide (v1 < (a0.Calls.length : Int)))) I I I I) ?_
   refine Z9 5 I (Zh (v := (.bool (decide (v1 < (a0.Calls.length : Int))))) I I) ?_
   have hif := Z1y h
   refine AOpsD.split (fun hc => ?_) (fun hc => ?_)
   ·have h := hif.1 hc
    refine Z1e 6 I I I I (Zp (m := 2) (o := 0) I Z3y I I) <| Z1e 7 I I I I (Zu (cs := (Z5 a0).cells) (v := (.sl 5 (a0.Calls.map Z3) false)) I o42 I I I) <| Z1e 8 I I I I (Zh (v := (.int .i64 v1)) I I) ?_
    have ⟨hg19, h⟩ := Zv h
    refine Z1e 9 I I I I (Z1s (k := .i64) (l := a0.Calls) (enc := Z3) (z := Z4) (n := v1) (cs := (Z3 (a0.Calls.getD v1.toNat Z4)).cells) (full := false) I s42 I I hg19 I) <| Z1e 10 I I I I (Z2r (cs := (Z3 (a0.Calls.getD v1.toNat Z4)).cells) (ds := (Z3 (a0.Calls.getD v1.toNat Z4)).cells) I Z8p I I I) <| Z1e 11 I I I I (Z26 (cs := (Z3 (a0.Calls.getD v1.toNat Z4)).cells) (v := (.str (a0.Calls.getD v1.toNat Z4).Caller)) I o9 I I) <| Z1e 12 I I I I (Zp (m := 2) (o := 0) I Z3y I I) <| Z1e 13 I I I I (Zu (cs := (Z5 a0).cells) (v := (.sl 5 (a0.Calls.map Z3) false)) I o42 I I I) <| Z1e 14 I I I I (Zh (v := (.int .i64 v1)) I I) ?_
    have ⟨hg20, h⟩ := Zv h
    refine Z1e 15 I I I I (Z1s (k := .i64) (l := a0.Calls) (enc := Z3) (z := Z4) (n := v1) (cs := (Z3 (a0.Calls.getD v1.toNat Z4)).cells) (full := false) I s42 I I hg20 I) <| Z1e 16 I I I I (Z2r (cs := (Z3 (a0.Calls.getD v1.toNat Z4)).cells) (ds := [(.str (a0.Calls.getD v1.toNat Z4).Callee), (.int .i64 (a0.Calls.getD v1.toNat Z4).Count), (.int .i64 (a0.Calls.getD v1.toNat Z4).Errors), (.int .i64 (a0.Calls.getD v1.toNat Z4).Time)]) I Z7o I I I) <| Z1e 17 I I I I (Z26 (cs := [(.str (a0.Calls.getD v1.toNat Z4).Callee), (.int .i64 (a0.Calls.getD v1.toNat Z4).Count), (.int .i64 (a0.Calls.getD v1.toNat Z4).Errors), (.int .i64 (a0.Calls.getD v1.toNat Z4).Time)]) (v := (.str (a0.Calls.getD v1.toNat Z4).Callee)) I o9 I I) <| Z1e 18 I I I I (Zp (m := 3) (o := 0) I Z8p I I) <| Z1e 19 I I I I (Zu (cs := (Z3 a1).cells) (v := (.str a1.Caller)) I o9 I I I) <| Z1e 20 I I I I (Zp (m := 3) (o := 0) I Z7o I I) <| Z1e 21 I I I I (Zu (cs := (Z3 a1).cells) (v := (.str a1.Callee)) I o9 I I I) ?_
    have ⟨v22, hv22, h⟩ := Z1g h
    refine Z1e 22 I I I I (Z1i (ar := [(.str (a0.Calls.getD v1.toNat Z4).Caller), (.str (a0.Calls.getD v1.toNat Z4).Callee), (.str a1.Caller), (.str a1.Callee)]) (caps := []) Tryz.call71 (F71_ok K (a0.Calls.getD v1.toNat Z4).Caller (a0.Calls.getD v1.toNat Z4).Callee a1.Caller a1.Callee v22 hv22) I I ⟨rfl, rfl, rfl, rfl, trivial⟩ I) <| Z9 23 I (Z2d (v := (.bool v22)) I I I) <| AOpsD.nil (by kernel_rfl) I <| Zf ?_
    have hif := Z1y h
    refine Z13 I (fun hc => ?_) (fun hc => ?_)
    ·have h := hif.1 hc
     refine Z16 <| Zf <| AWp.block <| Za <| Z1 I (Zh (v := (.int .i64 v1)) I I) I <| Z1 I (Z1n (k := .i64) (a := v1) (b := 1) (c := (IntKind.i64.wrap (v1 + 1))) I I I I) I <| Z1 I (Zi (v := (.int .i64 (IntKind.i64.wrap (v1 + 1)))) I I) I <| Ze ?_
     refine At.end ?_
     exact Zw (st' := ⟨[(2, (.ptr 2 0)), (3, (.ptr 3 0)), (4, (.ptr 4 0)), (5, (.int .i64 (IntKind.i64.wrap (v1 + 1))))], [(2, (.box (Z5 a0).cells)), (3, (.box (Z3 a1).cells)), (4, (.box [(.sl 4 [] false), (.sl 5 [] false)]))]⟩) ⟨rfl, rfl, rfl, rfl, trivial⟩ ⟨rfl, rfl, rfl, trivial⟩ (IH2 _ (IntKind.i64.wrap (v1 + 1)) (Nat.lt_succ_self _) h)
    ·have h := hif.2 hc
     refine AWp.exit <| At.thru ?_
     exact Zw (st' := ⟨[(2, (.ptr 2 0)), (3, (.ptr 3 0)), (4, (.ptr 4 0)), (5, (.int .i64 v1))], [(2, (.box (Z5 a0).cells)), (3, (.box (Z3 a1).cells)), (4, (.box [(.sl 4 [] false), (.sl 5 [] false)]))]⟩) ⟨rfl, rfl, rfl, rfl, trivial⟩ ⟨rfl, rfl, rfl, trivial⟩ (J2 v1 h)
   ·have h := hif.2 hc
    refine Z17 6 I I I I I I I <| Z17 7 I I I I I I I <| Z17 8 I I I I I I I <| Z17 9 I I I I I I I <| Z17 10 I I I I I I I <| Z17 11 I I I I I I I <| Z17 12 I I I I I I I <| Z17 13 I I I I I I I ?_
    refine Z17 14 I I I I I I I <| Z17 15 I I I I I I I <| Z17 16 I I I I I I I <| Z17 17 I I I I I I I <| Z17 18 I I I I I I I <| Z17 19 I I I I I I I <| Z17 20 I I I I I I I <| Z17 21 I I I I I I I ?_
    refine Z17 22 I I I I I I I <| Z9 23 I (Z2a (v := (.bool false)) I I I) <| AOpsD.nil (by kernel_rfl) I <| Zf ?_
    refine Z13 (b := false) I (fun hc => ?_) (fun hc => ?_)
    ·cases hc
    refine AWp.exit <| At.thru ?_
    exact Zw (st' := ⟨[(2, (.ptr 2 0)), (3, (.ptr 3 0)), (4, (.ptr 4 0)), (5, (.int .i64 v1))], [(2, (.box (Z5 a0).cells)), (3, (.box (Z3 a1).cells)), (4, (.box [(.sl 4 [] false), (.sl 5 [] false)]))]⟩) ⟨rfl, rfl, rfl, rfl, trivial⟩ ⟨rfl, rfl, rfl, trivial⟩ (J2 v1 h)
end Go.AM.TopZ
