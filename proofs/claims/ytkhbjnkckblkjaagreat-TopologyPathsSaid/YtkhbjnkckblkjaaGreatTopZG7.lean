/- What these functions compute, each with its walk: F112. -/
import Derived.Test.YtkhbjnkckblkjaaGreatTopZT
namespace Go.AM.TopZ
open Go Go.AM Go.Proofs
set_option maxRecDepth 100000
set_option maxHeartbeats 2000000
def Z3k (K : Nat) (v19 : (List Int)) : Option ((List Int)) :=
 some v19
def Z4w (K : Nat) (b22 : (List Int) → (List Int) → Option ((List Int))) (v32 : (List Int)) (v33 : (List Int)) : Option ((List Int)) :=
 b22 v32 v33
def Z5o (K : Nat) (b36 : Int → (List Int) → (List Int) → Option ((List Int))) (v28 : Int) (v37 : (List Int)) (v38 : (List Int)) : Option ((List Int)) :=
 b36 (IntKind.i64.wrap (v28 + 1)) v37 v38
def Z6g (K : Nat) (b36 : Int → (List Int) → (List Int) → Option ((List Int))) (v28 : Int) (v43 : (List Int)) (v44 : (List Int)) : Option ((List Int)) :=
 Z5o K b36 v28 v43 v44
def Z3q (K : Nat) (a0 : (List (List Int))) (v17 : (List Int)) (a2 : Int) (c35 : (List Int) → (List Int) → Option ((List Int))) : Nat → Int → (List Int) → (List Int) → Option ((List Int))
 | 0, _, _, _ => none
 | k31 + 1, v28, v29, v30 =>
  if (decide (v28 < ((a0.getD (v17.getD (0 : Int).toNat 0).toNat []).length : Int))) = true then
   if (0 : Int) ≤ v28 ∧ v28 < (a0.getD (v17.getD (0 : Int).toNat 0).toNat []).length then
    if (((a0.getD (v17.getD (0 : Int).toNat 0).toNat []).getD v28.toNat 0) != a2) = true then
     if (0 : Int) ≤ ((a0.getD (v17.getD (0 : Int).toNat 0).toNat []).getD v28.toNat 0) ∧ ((a0.getD (v17.getD (0 : Int).toNat 0).toNat []).getD v28.toNat 0) < (v29.length : Nat) then
      if ((a0.getD (v17.getD (0 : Int).toNat 0).toNat []).getD v28.toNat 0).toNat < v29.length then
       if (decide ((v29.getD ((a0.getD (v17.getD (0 : Int).toNat 0).toNat []).getD v28.toNat 0).toNat 0) < 0)) = true then
        if (0 : Int) ≤ (v17.getD (0 : Int).toNat 0) ∧ (v17.getD (0 : Int).toNat 0) < (v29.length : Nat) then
         if (v17.getD (0 : Int).toNat 0).toNat < v29.length then
          if (0 : Int) ≤ ((a0.getD (v17.getD (0 : Int).toNat 0).toNat []).getD v28.toNat 0) ∧ ((a0.getD (v17.getD (0 : Int).toNat 0).toNat []).getD v28.toNat 0) < (v29.length : Nat) then
           if ((a0.getD (v17.getD (0 : Int).toNat 0).toNat []).getD v28.toNat 0).toNat < v29.length then
            if v30.length + ([((a0.getD (v17.getD (0 : Int).toNat 0).toNat []).getD v28.toNat 0)]).length ≤ 1073741824 then
             Z6g K (Z3q K a0 v17 a2 c35 k31) v28 (v29.set ((a0.getD (v17.getD (0 : Int).toNat 0).toNat []).getD v28.toNat 0).toNat (IntKind.i64.wrap ((v29.getD (v17.getD (0 : Int).toNat 0).toNat 0) + 1))) (v30 ++ ([((a0.getD (v17.getD (0 : Int).toNat 0).toNat []).getD v28.toNat 0)]))
            else none
           else none
          else none
         else none
        else none
       else
        Z6g K (Z3q K a0 v17 a2 c35 k31) v28 v29 v30
      else none
     else none
    else
     Z5o K (Z3q K a0 v17 a2 c35 k31) v28 v29 v30
   else none
  else
   c35 v29 v30
def Z3g (K : Nat) (a0 : (List (List Int))) (a2 : Int) (c21 : (List Int) → Option ((List Int))) : Nat → (List Int) → (List Int) → Option ((List Int))
 | 0, _, _ => none
 | k18 + 1, v16, v17 =>
  if (decide ((v17.length : Int) > 0)) = true then
   if (0 : Int) ≤ 0 ∧ (0 : Int) < (v17.length : Nat) then
    if (0 : Int).toNat < v17.length then
     if (0 : Int) ≤ 1 ∧ 1 ≤ (v17.length : Int) ∧ (v17.length : Int) ≤ (v17.length : Nat) then
      if (0 + (1 : Int).toNat) + ((v17.length : Int).toNat - (1 : Int).toNat) ≤ v17.length then
       if (0 : Int) ≤ (v17.getD (0 : Int).toNat 0) ∧ (v17.getD (0 : Int).toNat 0) < a0.length then
        if (0 + (1 : Int).toNat) + ((v17.length : Int).toNat - (1 : Int).toNat) ≤ v17.length then
         Z3q K a0 v17 a2 (Z4w K (Z3g K a0 a2 c21 k18)) K 0 v16 ((v17.drop (0 + (1 : Int).toNat)).take ((v17.length : Int).toNat - (1 : Int).toNat))
        else none
       else none
      else none
     else none
    else none
   else none
  else
   c21 v16
def Z45 (K : Nat) (a0 : (List (List Int))) (a2 : Int) (v12 : (List Int)) (v13 : (List Int)) : Option ((List Int)) :=
 Z3g K a0 a2 (Z3k K) K v12 v13
def Z5l (K : Nat) (b52 : Int → (List Int) → (List Int) → Option ((List Int))) (v8 : Int) (v53 : (List Int)) (v54 : (List Int)) : Option ((List Int)) :=
 b52 (IntKind.i64.wrap (v8 + 1)) v53 v54
def Z6j (K : Nat) (b52 : Int → (List Int) → (List Int) → Option ((List Int))) (v8 : Int) (v59 : (List Int)) (v60 : (List Int)) : Option ((List Int)) :=
 Z5l K b52 v8 v59 v60
def Z3j (K : Nat) (a1 : (List Int)) (a2 : Int) (c15 : (List Int) → (List Int) → Option ((List Int))) : Nat → Int → (List Int) → (List Int) → Option ((List Int))
 | 0, _, _, _ => none
 | k11 + 1, v8, v9, v10 =>
  if (decide (v8 < (a1.length : Int))) = true then
   if (0 : Int) ≤ v8 ∧ v8 < a1.length then
    if ((a1.getD v8.toNat 0) != a2) = true then
     if (0 : Int) ≤ (a1.getD v8.toNat 0) ∧ (a1.getD v8.toNat 0) < (v9.length : Nat) then
      if (a1.getD v8.toNat 0).toNat < v9.length then
       if (decide ((v9.getD (a1.getD v8.toNat 0).toNat 0) < 0)) = true then
        if (0 : Int) ≤ (a1.getD v8.toNat 0) ∧ (a1.getD v8.toNat 0) < (v9.length : Nat) then
         if (a1.getD v8.toNat 0).toNat < v9.length then
          if v10.length + [(a1.getD v8.toNat 0)].length ≤ 1073741824 then
           Z6j K (Z3j K a1 a2 c15 k11) v8 (v9.set (a1.getD v8.toNat 0).toNat 0) (v10 ++ [(a1.getD v8.toNat 0)])
          else none
         else none
        else none
       else
        Z6j K (Z3j K a1 a2 c15 k11) v8 v9 v10
      else none
     else none
    else
     Z5l K (Z3j K a1 a2 c15 k11) v8 v9 v10
   else none
  else
   c15 v9 v10
def Zb3 (K : Nat) (a1 : (List Int)) (a2 : Int) (a0 : (List (List Int))) (v5 : (List Int)) : Option ((List Int)) :=
 Z3j K a1 a2 (Z45 K a0 a2) K 0 v5 []
def Z5s (K : Nat) (a0 : (List (List Int))) (c7 : (List Int) → Option ((List Int))) : Nat → Int → (List Int) → Option ((List Int))
 | 0, _, _ => none
 | k4 + 1, v2, v3 =>
  if (decide (v2 < ((List.replicate (a0.length : Int).toNat (0 : Int)).length : Int))) = true then
   if (0 : Int) ≤ v2 ∧ v2 < (v3.length : Nat) then
    if v2.toNat < v3.length then
     (Z5s K a0 c7 k4) (IntKind.i64.wrap (v2 + 1)) (v3.set v2.toNat (Int.negSucc 0))
    else none
   else none
  else
   c7 v3
def F112 (K : Nat) (a0 : (List (List Int))) (a1 : (List Int)) (a2 : Int) : Option ((List Int)) :=
 if (0 : Int) ≤ (a0.length : Int) ∧ (a0.length : Int) ≤ (a0.length : Int) ∧ (a0.length : Int) ≤ 1073741824 then
  Z5s K a0 (Zb3 K a1 a2 a0) K 0 (List.replicate (a0.length : Int).toNat (0 : Int))
 else none
theorem F112_ok (K : Nat) (a0 : (List (List Int))) (a1 : (List Int)) (a2 : Int) (r : (List Int)) (h : F112 K a0 a1 a2 = some r) : ACall P 112 ⟨[(.sl 1 (a0.map Z1x) false), (.sl 1 (a1.map Z15) false), (.int .i64 a2)], [], (.sl 1 (r.map Z15) false), [], []⟩ := by
 refine Z1p Tryz.func112 Tryz.results112 rfl Tryz.ntmps112 rfl rfl rfl ?_
 intro E Q hP hN hro hret
 obtain ⟨P', nt', w0, F0, p0, S0, β0, ro0⟩ := E
 simp only at hP hN
 subst hP hN
 dsimp only [argT]
 unfold F112 at h
 refine Zg <| Za <| Z1 I (Zi (v := (.sl 1 [] false)) I I) I <| Ze <| Zf <| Zg <| Za <| Z1 I (Zh (v := (.sl 1 (a0.map Z1x) false)) I I) I ?_
 refine Z1 I (Z24 (l := a0) (enc := Z1x) I s168 I) I ?_
 have ⟨hg1, h⟩ := Zv h
 refine Z1 I (Z66 (kx := .i64) (ky := .i64) (a := (a0.length : Int)) (c := (a0.length : Int)) (n := (a0.length : Int).toNat) I el65 I ze3 Z2y I I I hg1 I) I <| Z1 I (Zi (v := (.vs 17)) I I) I <| Ze <| Zf <| Zg <| Zg <| Za <| Z1 I (Zh (v := (.vs 17)) I I) I ?_
 refine Z1 I (Z3u (l := (List.replicate (a0.length : Int).toNat (0 : Int))) (enc := Z15) I u65 I I) I <| Z1 I (Zh (v := (.int .i64 0)) I I) I <| Ze <| Zf <| AWp.ghost (st' := ⟨[(0, (.sl 1 (a0.map Z1x) false)), (1, (.sl 1 (a1.map Z15) false)), (2, (.int .i64 a2)), (7, (.vs 7)), (19, (.int .i64 ((List.replicate (a0.length : Int).toNat (0 : Int)).length : Int))), (20, (.int .i64 0))], [(7, (.vec 1 (List.map Z15 (List.replicate (a0.length : Int).toNat (0 : Int)))))]⟩) (fun a w h => (Z1c ⟨[(0, (.sl 1 (a0.map Z1x) false)), (1, (.sl 1 (a1.map Z15) false)), (2, (.int .i64 a2)), (7, (.vs 7)), (19, (.int .i64 ((List.replicate (a0.length : Int).toNat (0 : Int)).length : Int))), (20, (.int .i64 0))], [(7, (.vec 1 (List.map Z15 (List.replicate (a0.length : Int).toNat (0 : Int)))))]⟩ (Z42 (a := 17) (b := 7) I I a w (Z1c ⟨[(0, (.sl 1 (a0.map Z1x) false)), (1, (.sl 1 (a1.map Z15) false)), (2, (.int .i64 a2)), (7, (.vs 17)), (19, (.int .i64 ((List.replicate (a0.length : Int).toNat (0 : Int)).length : Int))), (20, (.int .i64 0))], [(17, (.vec 1 (List.map Z15 (List.replicate (a0.length : Int).toNat (0 : Int)))))]⟩ h ⟨rfl, rfl, rfl, rfl, rfl, rfl, trivial⟩ ⟨rfl, trivial⟩)) ⟨rfl, rfl, rfl, rfl, rfl, rfl, trivial⟩ ⟨rfl, trivial⟩)) <| Z1t (st' := ⟨[(0, (.sl 1 (a0.map Z1x) false)), (1, (.sl 1 (a1.map Z15) false)), (2, (.int .i64 a2)), (7, (.vs 7)), (19, (.int .i64 ((List.replicate (a0.length : Int).toNat (0 : Int)).length : Int))), (20, (.int .i64 0))], [(7, (.vec 1 (List.map Z15 (List.replicate (a0.length : Int).toNat (0 : Int)))))]⟩) ⟨rfl, rfl, rfl, rfl, rfl, rfl, trivial⟩ ⟨rfl, trivial⟩ ?_
 refine Z1h (V := Int × (List Int)) (X := (List Int)) (lp := fun k v => Z5s K a0 (Zb3 K a1 a2 a0) k v.1 v.2 = some r) (sh := fun v => ⟨[(0, (.sl 1 (a0.map Z1x) false)), (1, (.sl 1 (a1.map Z15) false)), (2, (.int .i64 a2)), (7, (.vs 7)), (19, (.int .i64 ((List.replicate (a0.length : Int).toNat (0 : Int)).length : Int))), (20, (.int .i64 v.1))], [(7, (.vec 1 (List.map Z15 v.2)))]⟩) (x := fun v => Zb3 K a1 a2 a0 v = some r) (shx := fun v => ⟨[(0, (.sl 1 (a0.map Z1x) false)), (1, (.sl 1 (a1.map Z15) false)), (2, (.int .i64 a2)), (7, (.vs 7))], [(7, (.vec 1 (List.map Z15 v)))]⟩) (k := K) (v := (0, (List.replicate (a0.length : Int).toNat (0 : Int)))) h ?_ ?_
 ·intro v h
  revert h
  revert v
  intro v5 h
  try dsimp only at h ⊢
  unfold Zb3 at h
  refine Zf <| Zg <| Za <| Z1 I (Zi (v := (.sl 1 [] true)) I I) I <| Ze <| Zf <| Zg <| Zg ?_
  refine Za <| Z1 I (Zh (v := (.sl 1 (a1.map Z15) false)) I I) I <| Z1 I (Z24 (l := a1) (enc := Z15) I s65 I) I <| Z1 I (Zh (v := (.int .i64 0)) I I) I <| Ze <| Zf <| AWp.ghost (st' := ⟨[(0, (.sl 1 (a0.map Z1x) false)), (2, (.int .i64 a2)), (7, (.vs 7)), (9, (.vs 9)), (27, (.sl 1 (a1.map Z15) false)), (28, (.int .i64 (a1.length : Int))), (29, (.int .i64 0))], [(7, (.vec 1 (List.map Z15 v5))), (9, (.vec 1 (List.map Z15 ([] : List Int))))]⟩) (fun a w h => (Z1c ⟨[(0, (.sl 1 (a0.map Z1x) false)), (2, (.int .i64 a2)), (7, (.vs 7)), (9, (.vs 9)), (27, (.sl 1 (a1.map Z15) false)), (28, (.int .i64 (a1.length : Int))), (29, (.int .i64 0))], [(7, (.vec 1 (List.map Z15 v5))), (9, (.vec 1 (List.map Z15 ([] : List Int))))]⟩ (Z59 (k := 9) (m := 9) (sz := 1) I I a w (Z1c ⟨[(9, (.sl 1 [] true)), (0, (.sl 1 (a0.map Z1x) false)), (2, (.int .i64 a2)), (7, (.vs 7)), (27, (.sl 1 (a1.map Z15) false)), (28, (.int .i64 (a1.length : Int))), (29, (.int .i64 0))], [(7, (.vec 1 (List.map Z15 v5)))]⟩ h ⟨rfl, rfl, rfl, rfl, rfl, rfl, rfl, trivial⟩ ⟨rfl, trivial⟩)) ⟨rfl, rfl, rfl, rfl, rfl, rfl, rfl, trivial⟩ ⟨rfl, rfl, trivial⟩)) <| Z1t (st' := ⟨[(0, (.sl 1 (a0.map Z1x) false)), (2, (.int .i64 a2)), (7, (.vs 7)), (9, (.vs 9)), (27, (.sl 1 (a1.map Z15) false)), (28, (.int .i64 (a1.length : Int))), (29, (.int .i64 0))], [(7, (.vec 1 (List.map Z15 v5))), (9, (.vec 1 (List.map Z15 [])))]⟩) ⟨rfl, rfl, rfl, rfl, rfl, rfl, rfl, trivial⟩ ⟨rfl, rfl, trivial⟩ ?_
  refine Z1h (V := Int × (List Int) × (List Int)) (X := (List Int) × (List Int)) (lp := fun k v => Z3j K a1 a2 (Z45 K a0 a2) k v.1 v.2.1 v.2.2 = some r) (sh := fun v => ⟨[(0, (.sl 1 (a0.map Z1x) false)), (2, (.int .i64 a2)), (7, (.vs 7)), (9, (.vs 9)), (27, (.sl 1 (a1.map Z15) false)), (28, (.int .i64 (a1.length : Int))), (29, (.int .i64 v.1))], [(7, (.vec 1 (List.map Z15 v.2.1))), (9, (.vec 1 (List.map Z15 v.2.2)))]⟩) (x := fun v => Z45 K a0 a2 v.1 v.2 = some r) (shx := fun v => ⟨[(0, (.sl 1 (a0.map Z1x) false)), (2, (.int .i64 a2)), (7, (.vs 7)), (9, (.vs 9))], [(7, (.vec 1 (List.map Z15 v.1))), (9, (.vec 1 (List.map Z15 v.2)))]⟩) (k := K) (v := (0, v5, [])) h ?_ ?_
  ·intro v h
   obtain ⟨v12, v13⟩ := v
   try dsimp only at h ⊢
   unfold Z45 at h
   refine Zf <| Zg <| Z1t (st' := ⟨[(0, (.sl 1 (a0.map Z1x) false)), (2, (.int .i64 a2)), (7, (.vs 7)), (9, (.vs 9))], [(7, (.vec 1 (List.map Z15 v12))), (9, (.vec 1 (List.map Z15 v13)))]⟩) ⟨rfl, rfl, rfl, rfl, trivial⟩ ⟨rfl, rfl, trivial⟩ ?_
   refine Z1h (V := (List Int) × (List Int)) (X := (List Int)) (lp := fun k v => Z3g K a0 a2 (Z3k K) k v.1 v.2 = some r) (sh := fun v => ⟨[(0, (.sl 1 (a0.map Z1x) false)), (2, (.int .i64 a2)), (7, (.vs 7)), (9, (.vs 9))], [(7, (.vec 1 (List.map Z15 v.1))), (9, (.vec 1 (List.map Z15 v.2)))]⟩) (x := fun v => Z3k K v = some r) (shx := fun v => ⟨[(7, (.vs 7))], [(7, (.vec 1 (List.map Z15 v)))]⟩) (k := K) (v := (v12, v13)) h ?_ ?_
   ·intro v h
    revert h
    revert v
    intro v19 h
    try dsimp only at h ⊢
    unfold Z3k at h
    refine Zf <| Zg <| Za <| Z1 I (Zh (v := (.vs 7)) I I) I <| Z1 I (Zi (v := (.vs 7)) I I) I <| Ze <| Zf <| Z1a ?_
    refine At.ghost (st' := ⟨[(6, (.sl 1 (v19.map Z15) false))], []⟩) (fun a w h => (Z1c ⟨[(6, (.sl 1 (v19.map Z15) false))], []⟩ (Z27 (m := 7) (sz := 1) (es := (List.map Z15 v19)) a w (Z1c ⟨[(6, (.vs 7))], [(7, (.vec 1 (List.map Z15 v19)))]⟩ h ⟨rfl, trivial⟩ ⟨rfl, trivial⟩)) ⟨rfl, trivial⟩ trivial)) ?_
    have h := Option.some.inj h
    subst h
    refine (hret _ ?_).1
    exact ⟨[(.sl 1 (v19.map Z15) false)], ⟨rfl, trivial⟩, rfl, trivial⟩
   ·intro N k18 v h IH18 J18
    obtain ⟨v16, v17⟩ := v
    try dsimp only at h IH18 J18 ⊢
    cases k18 with
    | zero => cases h
    | succ k18 =>
     rw [Z3g] at h
     refine Zg <| Zg <| Za <| Z1 I (Zh (v := (.vs 9)) I I) I <| Z1 I (Z3u (l := v17) (enc := Z15) I u65 I I) I <| Z1 I (Z1w (k := .i64) (a := (v17.length : Int)) (b := 0) (c := (decide ((v17.length : Int) > 0))) I I I I) I <| Ze <| Zf ?_
     have hif := Z1y h
     refine Z13 I (fun hc => ?_) (fun hc => ?_)
     ·have h := hif.1 hc
      refine Z16 <| Zf <| AWp.block <| Zg <| Za <| Z1 I (Zh (v := (.vs 9)) I I) I ?_
      have ⟨hg23, h⟩ := Zv h
      refine Z1 I (Z2h (k := .i64) (v := (.vs 9)) (n := 9) (off := 0) (len := v17.length) (es := (List.map Z15 v17)) (j := 0) (m := (0 : Int).toNat) I s65 I I (Z2o _ _ _) I hg23 (Nat.zero_add _)) I ?_
      have ⟨hg24, h⟩ := Zv h
      refine Z1 I (Z4g (l := v17) (enc := Z15) (z := 0) (v := (.int .i64 (v17.getD (0 : Int).toNat 0))) I o3 I I hg24 I) I <| Z1 I (Zi (v := (.int .i64 (v17.getD (0 : Int).toNat 0))) I I) I <| Ze <| Zf <| Zg <| Za <| Z1 I (Zh (v := (.vs 9)) I I) I ?_
      have ⟨hg25, h⟩ := Zv h
      have ⟨hg26, h⟩ := Zv h
      refine Z1 I (Z4p (v := (.vs 9)) (n := 9) (off := 0) (len := v17.length) (l := v17) (enc := Z15) (kl := .i64) (lo := 1) I s65 I I (Z2o _ _ _) I hg25 I) I <| Z1 I (Zi (v := (.vsub 9 (0 + (1 : Int).toNat) ((v17.length : Int).toNat - (1 : Int).toNat) false)) I I) I <| Ze <| Zf <| Zg <| Za <| Z1 I (Zh (v := (.sl 1 (a0.map Z1x) false)) I I) I <| Z1 I (Zh (v := (.int .i64 (v17.getD (0 : Int).toNat 0))) I I) I ?_
      have ⟨hg27, h⟩ := Zv h
      refine Z1 I (Z1s (k := .i64) (l := a0) (enc := Z1x) (z := []) (n := (v17.getD (0 : Int).toNat 0)) (cs := [(.sl 1 ((a0.getD (v17.getD (0 : Int).toNat 0).toNat []).map Z15) false)]) (full := false) I s168 I I hg27 I) I <| Z1 I (Z26 (cs := [(.sl 1 ((a0.getD (v17.getD (0 : Int).toNat 0).toNat []).map Z15) false)]) (v := (.sl 1 ((a0.getD (v17.getD (0 : Int).toNat 0).toNat []).map Z15) false)) I o65 I I) I <| Z1 I (Z24 (l := (a0.getD (v17.getD (0 : Int).toNat 0).toNat [])) (enc := Z15) I s65 I) I <| Z1 I (Zh (v := (.int .i64 0)) I I) I <| Ze <| Zf ?_
      have ⟨hg51, h⟩ := Zv h
      refine AWp.ghost (st' := ⟨[(0, (.sl 1 (a0.map Z1x) false)), (2, (.int .i64 a2)), (7, (.vs 7)), (9, (.vs 9)), (12, (.int .i64 (v17.getD (0 : Int).toNat 0))), (62, (.sl 1 ((a0.getD (v17.getD (0 : Int).toNat 0).toNat []).map Z15) false)), (63, (.int .i64 ((a0.getD (v17.getD (0 : Int).toNat 0).toNat []).length : Int))), (64, (.int .i64 0))], [(7, (.vec 1 (List.map Z15 v16))), (9, (.vec 1 (List.map Z15 ((v17.drop (0 + (1 : Int).toNat)).take ((v17.length : Int).toNat - (1 : Int).toNat)))))]⟩) (fun a w h => (Z1c ⟨[(0, (.sl 1 (a0.map Z1x) false)), (2, (.int .i64 a2)), (7, (.vs 7)), (9, (.vs 9)), (12, (.int .i64 (v17.getD (0 : Int).toNat 0))), (62, (.sl 1 ((a0.getD (v17.getD (0 : Int).toNat 0).toNat []).map Z15) false)), (63, (.int .i64 ((a0.getD (v17.getD (0 : Int).toNat 0).toNat []).length : Int))), (64, (.int .i64 0))], [(7, (.vec 1 (List.map Z15 v16))), (9, (.vec 1 (List.map Z15 ((v17.drop (0 + (1 : Int).toNat)).take ((v17.length : Int).toNat - (1 : Int).toNat)))))]⟩ (Z7h (k := 9) (m := 9) (sz := 1) (off := (0 + (1 : Int).toNat)) (len := ((v17.length : Int).toNat - (1 : Int).toNat)) (enc := Z15) (l := v17) I hg51 a w (Z1c ⟨[(9, (.vsub 9 (0 + (1 : Int).toNat) ((v17.length : Int).toNat - (1 : Int).toNat) false)), (0, (.sl 1 (a0.map Z1x) false)), (2, (.int .i64 a2)), (7, (.vs 7)), (12, (.int .i64 (v17.getD (0 : Int).toNat 0))), (62, (.sl 1 ((a0.getD (v17.getD (0 : Int).toNat 0).toNat []).map Z15) false)), (63, (.int .i64 ((a0.getD (v17.getD (0 : Int).toNat 0).toNat []).length : Int))), (64, (.int .i64 0))], [(9, (.vec 1 (List.map Z15 v17))), (7, (.vec 1 (List.map Z15 v16)))]⟩ h ⟨rfl, rfl, rfl, rfl, rfl, rfl, rfl, rfl, trivial⟩ ⟨rfl, rfl, trivial⟩)) ⟨rfl, rfl, rfl, rfl, rfl, rfl, rfl, rfl, trivial⟩ ⟨rfl, rfl, trivial⟩)) <| Z1t (st' := ⟨[(0, (.sl 1 (a0.map Z1x) false)), (2, (.int .i64 a2)), (7, (.vs 7)), (9, (.vs 9)), (12, (.int .i64 (v17.getD (0 : Int).toNat 0))), (62, (.sl 1 ((a0.getD (v17.getD (0 : Int).toNat 0).toNat []).map Z15) false)), (63, (.int .i64 ((a0.getD (v17.getD (0 : Int).toNat 0).toNat []).length : Int))), (64, (.int .i64 0))], [(7, (.vec 1 (List.map Z15 v16))), (9, (.vec 1 (List.map Z15 ((v17.drop (0 + (1 : Int).toNat)).take ((v17.length : Int).toNat - (1 : Int).toNat)))))]⟩) ⟨rfl, rfl, rfl, rfl, rfl, rfl, rfl, rfl, trivial⟩ ⟨rfl, rfl, trivial⟩ ?_
      refine Z1h (V := Int × (List Int) × (List Int)) (X := (List Int) × (List Int)) (lp := fun k v => Z3q K a0 v17 a2 (Z4w K (Z3g K a0 a2 (Z3k K) k18)) k v.1 v.2.1 v.2.2 = some r) (sh := fun v => ⟨[(0, (.sl 1 (a0.map Z1x) false)), (2, (.int .i64 a2)), (7, (.vs 7)), (9, (.vs 9)), (12, (.int .i64 (v17.getD (0 : Int).toNat 0))), (62, (.sl 1 ((a0.getD (v17.getD (0 : Int).toNat 0).toNat []).map Z15) false)), (63, (.int .i64 ((a0.getD (v17.getD (0 : Int).toNat 0).toNat []).length : Int))), (64, (.int .i64 v.1))], [(7, (.vec 1 (List.map Z15 v.2.1))), (9, (.vec 1 (List.map Z15 v.2.2)))]⟩) (x := fun v => Z4w K (Z3g K a0 a2 (Z3k K) k18) v.1 v.2 = some r) (shx := fun v => ⟨[(0, (.sl 1 (a0.map Z1x) false)), (2, (.int .i64 a2)), (7, (.vs 7)), (9, (.vs 9))], [(7, (.vec 1 (List.map Z15 v.1))), (9, (.vec 1 (List.map Z15 v.2)))]⟩) (k := K) (v := (0, v16, ((v17.drop (0 + (1 : Int).toNat)).take ((v17.length : Int).toNat - (1 : Int).toNat)))) h ?_ ?_
      ·intro v h
       obtain ⟨v32, v33⟩ := v
       try dsimp only at h ⊢
       unfold Z4w at h
       refine At.end ?_
       exact Zw (st' := ⟨[(0, (.sl 1 (a0.map Z1x) false)), (2, (.int .i64 a2)), (7, (.vs 7)), (9, (.vs 9))], [(7, (.vec 1 (List.map Z15 v32))), (9, (.vec 1 (List.map Z15 v33)))]⟩) ⟨rfl, rfl, rfl, rfl, trivial⟩ ⟨rfl, rfl, trivial⟩ (IH18 _ (v32, v33) (Nat.lt_succ_self _) h)
      ·intro N k31 v h IH31 J31
       obtain ⟨v28, v29, v30⟩ := v
       try dsimp only at h IH31 J31 ⊢
       cases k31 with
       | zero => cases h
       | succ k31 =>
        rw [Z3q] at h
        refine Zg <| Za <| Z1 I (Z1w (k := .i64) (a := v28) (b := ((a0.getD (v17.getD (0 : Int).toNat 0).toNat []).length : Int)) (c := (decide (v28 < ((a0.getD (v17.getD (0 : Int).toNat 0).toNat []).length : Int)))) I I I I) I <| Ze <| Zf <| Zg ?_
        have hif := Z1y h
        refine Z13 I (fun hc => ?_) (fun hc => ?_)
        ·have h := hif.1 hc
         refine Z16 <| Zf <| Zg ?_
         refine AWp.blockJoin (V := (List Int) × (List Int)) (lp := fun v => Z5o K (Z3q K a0 v17 a2 (Z4w K (Z3g K a0 a2 (Z3k K) k18)) k31) v28 v.1 v.2 = some r) (sh := fun v => ⟨[(0, (.sl 1 (a0.map Z1x) false)), (2, (.int .i64 a2)), (7, (.vs 7)), (9, (.vs 9)), (12, (.int .i64 (v17.getD (0 : Int).toNat 0))), (62, (.sl 1 ((a0.getD (v17.getD (0 : Int).toNat 0).toNat []).map Z15) false)), (63, (.int .i64 ((a0.getD (v17.getD (0 : Int).toNat 0).toNat []).length : Int))), (64, (.int .i64 v28))], [(7, (.vec 1 (List.map Z15 v.1))), (9, (.vec 1 (List.map Z15 v.2)))]⟩) ?_ ?_
         ·intro v h
          obtain ⟨v37, v38⟩ := v
          try dsimp only at h ⊢
          unfold Z5o at h
          refine Zf <| Za <| Z1 I (Z1n (k := .i64) (a := v28) (b := 1) (c := (IntKind.i64.wrap (v28 + 1))) I I I I) I <| Z1 I (Zh (v := (.int .i64 (IntKind.i64.wrap (v28 + 1)))) I I) I <| Ze ?_
          exact Zw (st' := ⟨[(0, (.sl 1 (a0.map Z1x) false)), (2, (.int .i64 a2)), (7, (.vs 7)), (9, (.vs 9)), (12, (.int .i64 (v17.getD (0 : Int).toNat 0))), (62, (.sl 1 ((a0.getD (v17.getD (0 : Int).toNat 0).toNat []).map Z15) false)), (63, (.int .i64 ((a0.getD (v17.getD (0 : Int).toNat 0).toNat []).length : Int))), (64, (.int .i64 (IntKind.i64.wrap (v28 + 1))))], [(7, (.vec 1 (List.map Z15 v37))), (9, (.vec 1 (List.map Z15 v38)))]⟩) ⟨rfl, rfl, rfl, rfl, rfl, rfl, rfl, rfl, trivial⟩ ⟨rfl, rfl, trivial⟩ (IH31 _ ((IntKind.i64.wrap (v28 + 1)), v37, v38) (Nat.lt_succ_self _) h)
         ·intro J39
          refine Zg <| Za ?_
          have ⟨hg40, h⟩ := Zv h
          refine Z1 I (Z1s (k := .i64) (l := (a0.getD (v17.getD (0 : Int).toNat 0).toNat [])) (enc := Z15) (z := 0) (n := v28) (cs := [(.int .i64 ((a0.getD (v17.getD (0 : Int).toNat 0).toNat []).getD v28.toNat 0))]) (full := false) I s65 I I hg40 I) I <| Z1 I (Z26 (cs := [(.int .i64 ((a0.getD (v17.getD (0 : Int).toNat 0).toNat []).getD v28.toNat 0))]) (v := (.int .i64 ((a0.getD (v17.getD (0 : Int).toNat 0).toNat []).getD v28.toNat 0))) I o3 I I) I <| Z1 I (Zi (v := (.int .i64 ((a0.getD (v17.getD (0 : Int).toNat 0).toNat []).getD v28.toNat 0))) I I) I <| Ze <| Zf <| Zg <| Za <| Z1 I (Zh (v := (.int .i64 ((a0.getD (v17.getD (0 : Int).toNat 0).toNat []).getD v28.toNat 0))) I I) I ?_
          refine Z1 I (Zh (v := (.int .i64 a2)) I I) I <| Z1 I (Z1w (k := .i64) (a := ((a0.getD (v17.getD (0 : Int).toNat 0).toNat []).getD v28.toNat 0)) (b := a2) (c := (((a0.getD (v17.getD (0 : Int).toNat 0).toNat []).getD v28.toNat 0) != a2)) I I I I) I <| Z1 I (Zh (v := (.bool (((a0.getD (v17.getD (0 : Int).toNat 0).toNat []).getD v28.toNat 0) != a2))) I I) I ?_
          have hif := Z1y h
          refine AOps.split (fun hc => ?_) (fun hc => ?_)
          ·have h := hif.1 hc
           refine Zy I I I I (Zh (v := (.vs 7)) I I) I <| Zy I I I I (Zh (v := (.int .i64 ((a0.getD (v17.getD (0 : Int).toNat 0).toNat []).getD v28.toNat 0))) I I) I ?_
           have ⟨hg41, h⟩ := Zv h
           refine Zy I I I I (Z2h (k := .i64) (v := (.vs 7)) (n := 7) (off := 0) (len := v29.length) (es := (List.map Z15 v29)) (j := ((a0.getD (v17.getD (0 : Int).toNat 0).toNat []).getD v28.toNat 0)) (m := ((a0.getD (v17.getD (0 : Int).toNat 0).toNat []).getD v28.toNat 0).toNat) I s65 I I (Z2o _ _ _) I hg41 (Nat.zero_add _)) I ?_
           have ⟨hg42, h⟩ := Zv h
           refine Zy I I I I (Z4g (l := v29) (enc := Z15) (z := 0) (v := (.int .i64 (v29.getD ((a0.getD (v17.getD (0 : Int).toNat 0).toNat []).getD v28.toNat 0).toNat 0))) I o3 I I hg42 I) I <| Zy I I I I (Z1w (k := .i64) (a := (v29.getD ((a0.getD (v17.getD (0 : Int).toNat 0).toNat []).getD v28.toNat 0).toNat 0)) (b := 0) (c := (decide ((v29.getD ((a0.getD (v17.getD (0 : Int).toNat 0).toNat []).getD v28.toNat 0).toNat 0) < 0))) I I I I) I <| Z1 I (Z2d (v := (.bool (decide ((v29.getD ((a0.getD (v17.getD (0 : Int).toNat 0).toNat []).getD v28.toNat 0).toNat 0) < 0)))) I I I) I <| Ze <| Zf ?_
           refine AWp.join (V := (List Int) × (List Int)) (lp := fun v => Z6g K (Z3q K a0 v17 a2 (Z4w K (Z3g K a0 a2 (Z3k K) k18)) k31) v28 v.1 v.2 = some r) (sh := fun v => ⟨[(0, (.sl 1 (a0.map Z1x) false)), (2, (.int .i64 a2)), (7, (.vs 7)), (9, (.vs 9)), (12, (.int .i64 (v17.getD (0 : Int).toNat 0))), (62, (.sl 1 ((a0.getD (v17.getD (0 : Int).toNat 0).toNat []).map Z15) false)), (63, (.int .i64 ((a0.getD (v17.getD (0 : Int).toNat 0).toNat []).length : Int))), (64, (.int .i64 v28))], [(7, (.vec 1 (List.map Z15 v.1))), (9, (.vec 1 (List.map Z15 v.2)))]⟩) ?_ ?_
           ·intro v h
            obtain ⟨v43, v44⟩ := v
            try dsimp only at h ⊢
            unfold Z6g at h
            refine At.end ?_
            exact Zw (st' := ⟨[(0, (.sl 1 (a0.map Z1x) false)), (2, (.int .i64 a2)), (7, (.vs 7)), (9, (.vs 9)), (12, (.int .i64 (v17.getD (0 : Int).toNat 0))), (62, (.sl 1 ((a0.getD (v17.getD (0 : Int).toNat 0).toNat []).map Z15) false)), (63, (.int .i64 ((a0.getD (v17.getD (0 : Int).toNat 0).toNat []).length : Int))), (64, (.int .i64 v28))], [(7, (.vec 1 (List.map Z15 v43))), (9, (.vec 1 (List.map Z15 v44)))]⟩) ⟨rfl, rfl, rfl, rfl, rfl, rfl, rfl, rfl, trivial⟩ ⟨rfl, rfl, trivial⟩ (J39 (v43, v44) h)
           ·intro J45
            have hif := Z1y h
            refine Z13 I (fun hc => ?_) (fun hc => ?_)
            ·have h := hif.1 hc
             refine Zg <| Za <| Z1 I (Zh (v := (.vs 7)) I I) I <| Z1 I (Zh (v := (.int .i64 ((a0.getD (v17.getD (0 : Int).toNat 0).toNat []).getD v28.toNat 0))) I I) I <| Z1 I (Zh (v := (.vs 7)) I I) I <| Z1 I (Zh (v := (.int .i64 (v17.getD (0 : Int).toNat 0))) I I) I ?_
             have ⟨hg46, h⟩ := Zv h
             refine Z1 I (Z2h (k := .i64) (v := (.vs 7)) (n := 7) (off := 0) (len := v29.length) (es := (List.map Z15 v29)) (j := (v17.getD (0 : Int).toNat 0)) (m := (v17.getD (0 : Int).toNat 0).toNat) I s65 I I (Z2o _ _ _) I hg46 (Nat.zero_add _)) I ?_
             have ⟨hg47, h⟩ := Zv h
             refine Z1 I (Z4g (l := v29) (enc := Z15) (z := 0) (v := (.int .i64 (v29.getD (v17.getD (0 : Int).toNat 0).toNat 0))) I o3 I I hg47 I) I <| Z1 I (Z1n (k := .i64) (a := (v29.getD (v17.getD (0 : Int).toNat 0).toNat 0)) (b := 1) (c := (IntKind.i64.wrap ((v29.getD (v17.getD (0 : Int).toNat 0).toNat 0) + 1))) I I I I) I ?_
             have ⟨hg48, h⟩ := Zv h
             refine Z1 I (Z2h (k := .i64) (v := (.vs 7)) (n := 7) (off := 0) (len := v29.length) (es := (List.map Z15 v29)) (j := ((a0.getD (v17.getD (0 : Int).toNat 0).toNat []).getD v28.toNat 0)) (m := ((a0.getD (v17.getD (0 : Int).toNat 0).toNat []).getD v28.toNat 0).toNat) I s65 I I (Z2o _ _ _) I hg48 (Nat.zero_add _)) I ?_
             have ⟨hg49, h⟩ := Zv h
             refine Z1 I (Z5q (l := v29) (enc := Z15) (z := 0) (a := (IntKind.i64.wrap ((v29.getD (v17.getD (0 : Int).toNat 0).toNat 0) + 1))) (v := (.int .i64 (IntKind.i64.wrap ((v29.getD (v17.getD (0 : Int).toNat 0).toNat 0) + 1)))) sz3 I I hg49 I Z2y I I I I) I <| Ze <| Zf <| Za <| Z1 I (Zh (v := (.vs 9)) I I) I <| Z1 I (Zh (v := (.int .i64 ((a0.getD (v17.getD (0 : Int).toNat 0).toNat []).getD v28.toNat 0))) I I) I <| Z1 I (Z1d (vs := [(.int .i64 ((a0.getD (v17.getD (0 : Int).toNat 0).toNat []).getD v28.toNat 0))]) (enc := Z15) (l := [((a0.getD (v17.getD (0 : Int).toNat 0).toNat []).getD v28.toNat 0)]) I el65 I I ⟨rfl, trivial⟩ I Z2y I I I I) I ?_
             have ⟨hg50, h⟩ := Zv h
             refine Z1 I (Z2g (m := 9) (enc := Z15) (l := v30) (l' := ([((a0.getD (v17.getD (0 : Int).toNat 0).toNat []).getD v28.toNat 0)])) (src := (.vs 88)) (rd := [(88, (.vec 1 (List.map Z15 ([((a0.getD (v17.getD (0 : Int).toNat 0).toNat []).getD v28.toNat 0)]))))]) I I el65 I u65 I I I I (oneRead I) Z2y hg50) I <| Z1 I (Zi (v := (.vs 9)) I I) I <| Ze ?_
             exact Zw (st' := ⟨[(0, (.sl 1 (a0.map Z1x) false)), (2, (.int .i64 a2)), (7, (.vs 7)), (9, (.vs 9)), (12, (.int .i64 (v17.getD (0 : Int).toNat 0))), (62, (.sl 1 ((a0.getD (v17.getD (0 : Int).toNat 0).toNat []).map Z15) false)), (63, (.int .i64 ((a0.getD (v17.getD (0 : Int).toNat 0).toNat []).length : Int))), (64, (.int .i64 v28))], [(7, (.vec 1 (List.map Z15 (v29.set ((a0.getD (v17.getD (0 : Int).toNat 0).toNat []).getD v28.toNat 0).toNat (IntKind.i64.wrap ((v29.getD (v17.getD (0 : Int).toNat 0).toNat 0) + 1)))))), (9, (.vec 1 (List.map Z15 (v30 ++ ([((a0.getD (v17.getD (0 : Int).toNat 0).toNat []).getD v28.toNat 0)])))))]⟩) ⟨rfl, rfl, rfl, rfl, rfl, rfl, rfl, rfl, trivial⟩ ⟨rfl, rfl, trivial⟩ (J45 ((v29.set ((a0.getD (v17.getD (0 : Int).toNat 0).toNat []).getD v28.toNat 0).toNat (IntKind.i64.wrap ((v29.getD (v17.getD (0 : Int).toNat 0).toNat 0) + 1))), (v30 ++ ([((a0.getD (v17.getD (0 : Int).toNat 0).toNat []).getD v28.toNat 0)]))) h)
            ·have h := hif.2 hc
             refine Z16 ?_
             exact Zw (st' := ⟨[(0, (.sl 1 (a0.map Z1x) false)), (2, (.int .i64 a2)), (7, (.vs 7)), (9, (.vs 9)), (12, (.int .i64 (v17.getD (0 : Int).toNat 0))), (62, (.sl 1 ((a0.getD (v17.getD (0 : Int).toNat 0).toNat []).map Z15) false)), (63, (.int .i64 ((a0.getD (v17.getD (0 : Int).toNat 0).toNat []).length : Int))), (64, (.int .i64 v28))], [(7, (.vec 1 (List.map Z15 v29))), (9, (.vec 1 (List.map Z15 v30)))]⟩) ⟨rfl, rfl, rfl, rfl, rfl, rfl, rfl, rfl, trivial⟩ ⟨rfl, rfl, trivial⟩ (J45 (v29, v30) h)
          ·have h := hif.2 hc
           refine Zt I I I I I I I <| Zt I I I I I I I <| Zt I I I I I I I <| Zt I I I I I I I <| Zt I I I I I I I <| Z1 I (Z2a (v := (.bool false)) I I I) I <| Ze <| Zf ?_
           refine Z13 (b := false) I (fun hc => ?_) (fun hc => ?_)
           ·cases hc
           refine Z16 <| At.end ?_
           exact Zw (st' := ⟨[(0, (.sl 1 (a0.map Z1x) false)), (2, (.int .i64 a2)), (7, (.vs 7)), (9, (.vs 9)), (12, (.int .i64 (v17.getD (0 : Int).toNat 0))), (62, (.sl 1 ((a0.getD (v17.getD (0 : Int).toNat 0).toNat []).map Z15) false)), (63, (.int .i64 ((a0.getD (v17.getD (0 : Int).toNat 0).toNat []).length : Int))), (64, (.int .i64 v28))], [(7, (.vec 1 (List.map Z15 v29))), (9, (.vec 1 (List.map Z15 v30)))]⟩) ⟨rfl, rfl, rfl, rfl, rfl, rfl, rfl, rfl, trivial⟩ ⟨rfl, rfl, trivial⟩ (J39 (v29, v30) h)
        ·have h := hif.2 hc
         refine AWp.exit <| At.thru ?_
         exact Zw (st' := ⟨[(0, (.sl 1 (a0.map Z1x) false)), (2, (.int .i64 a2)), (7, (.vs 7)), (9, (.vs 9))], [(7, (.vec 1 (List.map Z15 v29))), (9, (.vec 1 (List.map Z15 v30)))]⟩) ⟨rfl, rfl, rfl, rfl, trivial⟩ ⟨rfl, rfl, trivial⟩ (J31 (v29, v30) h)
     ·have h := hif.2 hc
      refine AWp.exit <| At.thru ?_
      exact Zw (st' := ⟨[(7, (.vs 7))], [(7, (.vec 1 (List.map Z15 v16)))]⟩) ⟨rfl, trivial⟩ ⟨rfl, trivial⟩ (J18 v16 h)
  ·intro N k11 v h IH11 J11
   obtain ⟨v8, v9, v10⟩ := v
   try dsimp only at h IH11 J11 ⊢
   cases k11 with
   | zero => cases h
   | succ k11 =>
    rw [Z3j] at h
    refine Zg <| Za <| Z1 I (Z1w (k := .i64) (a := v8) (b := (a1.length : Int)) (c := (decide (v8 < (a1.length : Int)))) I I I I) I <| Ze <| Zf <| Zg ?_
    have hif := Z1y h
    refine Z13 I (fun hc => ?_) (fun hc => ?_)
    ·have h := hif.1 hc
     refine Z16 <| Zf <| Zg ?_
     refine AWp.blockJoin (V := (List Int) × (List Int)) (lp := fun v => Z5l K (Z3j K a1 a2 (Z45 K a0 a2) k11) v8 v.1 v.2 = some r) (sh := fun v => ⟨[(0, (.sl 1 (a0.map Z1x) false)), (2, (.int .i64 a2)), (7, (.vs 7)), (9, (.vs 9)), (27, (.sl 1 (a1.map Z15) false)), (28, (.int .i64 (a1.length : Int))), (29, (.int .i64 v8))], [(7, (.vec 1 (List.map Z15 v.1))), (9, (.vec 1 (List.map Z15 v.2)))]⟩) ?_ ?_
     ·intro v h
      obtain ⟨v53, v54⟩ := v
      try dsimp only at h ⊢
      unfold Z5l at h
      refine Zf <| Za <| Z1 I (Z1n (k := .i64) (a := v8) (b := 1) (c := (IntKind.i64.wrap (v8 + 1))) I I I I) I <| Z1 I (Zh (v := (.int .i64 (IntKind.i64.wrap (v8 + 1)))) I I) I <| Ze ?_
      exact Zw (st' := ⟨[(0, (.sl 1 (a0.map Z1x) false)), (2, (.int .i64 a2)), (7, (.vs 7)), (9, (.vs 9)), (27, (.sl 1 (a1.map Z15) false)), (28, (.int .i64 (a1.length : Int))), (29, (.int .i64 (IntKind.i64.wrap (v8 + 1))))], [(7, (.vec 1 (List.map Z15 v53))), (9, (.vec 1 (List.map Z15 v54)))]⟩) ⟨rfl, rfl, rfl, rfl, rfl, rfl, rfl, trivial⟩ ⟨rfl, rfl, trivial⟩ (IH11 _ ((IntKind.i64.wrap (v8 + 1)), v53, v54) (Nat.lt_succ_self _) h)
     ·intro J55
      refine Zg <| Za ?_
      have ⟨hg56, h⟩ := Zv h
      refine Z1 I (Z1s (k := .i64) (l := a1) (enc := Z15) (z := 0) (n := v8) (cs := [(.int .i64 (a1.getD v8.toNat 0))]) (full := false) I s65 I I hg56 I) I <| Z1 I (Z26 (cs := [(.int .i64 (a1.getD v8.toNat 0))]) (v := (.int .i64 (a1.getD v8.toNat 0))) I o3 I I) I <| Z1 I (Zi (v := (.int .i64 (a1.getD v8.toNat 0))) I I) I <| Ze <| Zf <| Zg <| Za <| Z1 I (Zh (v := (.int .i64 (a1.getD v8.toNat 0))) I I) I ?_
      refine Z1 I (Zh (v := (.int .i64 a2)) I I) I <| Z1 I (Z1w (k := .i64) (a := (a1.getD v8.toNat 0)) (b := a2) (c := ((a1.getD v8.toNat 0) != a2)) I I I I) I <| Z1 I (Zh (v := (.bool ((a1.getD v8.toNat 0) != a2))) I I) I ?_
      have hif := Z1y h
      refine AOps.split (fun hc => ?_) (fun hc => ?_)
      ·have h := hif.1 hc
       refine Zy I I I I (Zh (v := (.vs 7)) I I) I <| Zy I I I I (Zh (v := (.int .i64 (a1.getD v8.toNat 0))) I I) I ?_
       have ⟨hg57, h⟩ := Zv h
       refine Zy I I I I (Z2h (k := .i64) (v := (.vs 7)) (n := 7) (off := 0) (len := v9.length) (es := (List.map Z15 v9)) (j := (a1.getD v8.toNat 0)) (m := (a1.getD v8.toNat 0).toNat) I s65 I I (Z2o _ _ _) I hg57 (Nat.zero_add _)) I ?_
       have ⟨hg58, h⟩ := Zv h
       refine Zy I I I I (Z4g (l := v9) (enc := Z15) (z := 0) (v := (.int .i64 (v9.getD (a1.getD v8.toNat 0).toNat 0))) I o3 I I hg58 I) I <| Zy I I I I (Z1w (k := .i64) (a := (v9.getD (a1.getD v8.toNat 0).toNat 0)) (b := 0) (c := (decide ((v9.getD (a1.getD v8.toNat 0).toNat 0) < 0))) I I I I) I <| Z1 I (Z2d (v := (.bool (decide ((v9.getD (a1.getD v8.toNat 0).toNat 0) < 0)))) I I I) I <| Ze <| Zf ?_
       refine AWp.join (V := (List Int) × (List Int)) (lp := fun v => Z6j K (Z3j K a1 a2 (Z45 K a0 a2) k11) v8 v.1 v.2 = some r) (sh := fun v => ⟨[(0, (.sl 1 (a0.map Z1x) false)), (2, (.int .i64 a2)), (7, (.vs 7)), (9, (.vs 9)), (27, (.sl 1 (a1.map Z15) false)), (28, (.int .i64 (a1.length : Int))), (29, (.int .i64 v8))], [(7, (.vec 1 (List.map Z15 v.1))), (9, (.vec 1 (List.map Z15 v.2)))]⟩) ?_ ?_
       ·intro v h
        obtain ⟨v59, v60⟩ := v
        try dsimp only at h ⊢
        unfold Z6j at h
        refine At.end ?_
        exact Zw (st' := ⟨[(0, (.sl 1 (a0.map Z1x) false)), (2, (.int .i64 a2)), (7, (.vs 7)), (9, (.vs 9)), (27, (.sl 1 (a1.map Z15) false)), (28, (.int .i64 (a1.length : Int))), (29, (.int .i64 v8))], [(7, (.vec 1 (List.map Z15 v59))), (9, (.vec 1 (List.map Z15 v60)))]⟩) ⟨rfl, rfl, rfl, rfl, rfl, rfl, rfl, trivial⟩ ⟨rfl, rfl, trivial⟩ (J55 (v59, v60) h)
       ·intro J61
        have hif := Z1y h
        refine Z13 I (fun hc => ?_) (fun hc => ?_)
        ·have h := hif.1 hc
         refine Zg <| Za <| Z1 I (Zh (v := (.vs 7)) I I) I <| Z1 I (Zh (v := (.int .i64 (a1.getD v8.toNat 0))) I I) I ?_
         have ⟨hg62, h⟩ := Zv h
         refine Z1 I (Z2h (k := .i64) (v := (.vs 7)) (n := 7) (off := 0) (len := v9.length) (es := (List.map Z15 v9)) (j := (a1.getD v8.toNat 0)) (m := (a1.getD v8.toNat 0).toNat) I s65 I I (Z2o _ _ _) I hg62 (Nat.zero_add _)) I ?_
         have ⟨hg63, h⟩ := Zv h
         refine Z1 I (Z5q (l := v9) (enc := Z15) (z := 0) (a := 0) (v := (.int .i64 0)) sz3 I I hg63 I Z2y I I I I) I <| Ze <| Zf <| Za <| Z1 I (Zh (v := (.vs 9)) I I) I <| Z1 I (Zh (v := (.int .i64 (a1.getD v8.toNat 0))) I I) I <| Z1 I (Z1d (vs := [(.int .i64 (a1.getD v8.toNat 0))]) (enc := Z15) (l := [(a1.getD v8.toNat 0)]) I el65 I I ⟨rfl, trivial⟩ I Z2y I I I I) I ?_
         have ⟨hg64, h⟩ := Zv h
         refine Z1 I (Z2g (m := 9) (enc := Z15) (l := v10) (l' := [(a1.getD v8.toNat 0)]) (src := (.vs 48)) (rd := [(48, (.vec 1 (List.map Z15 [(a1.getD v8.toNat 0)])))]) I I el65 I u65 I I I I (oneRead I) Z2y hg64) I <| Z1 I (Zi (v := (.vs 9)) I I) I <| Ze ?_
         exact Zw (st' := ⟨[(0, (.sl 1 (a0.map Z1x) false)), (2, (.int .i64 a2)), (7, (.vs 7)), (9, (.vs 9)), (27, (.sl 1 (a1.map Z15) false)), (28, (.int .i64 (a1.length : Int))), (29, (.int .i64 v8))], [(7, (.vec 1 (List.map Z15 (v9.set (a1.getD v8.toNat 0).toNat 0)))), (9, (.vec 1 (List.map Z15 (v10 ++ [(a1.getD v8.toNat 0)]))))]⟩) ⟨rfl, rfl, rfl, rfl, rfl, rfl, rfl, trivial⟩ ⟨rfl, rfl, trivial⟩ (J61 ((v9.set (a1.getD v8.toNat 0).toNat 0), (v10 ++ [(a1.getD v8.toNat 0)])) h)
        ·have h := hif.2 hc
         refine Z16 ?_
         exact Zw (st' := ⟨[(0, (.sl 1 (a0.map Z1x) false)), (2, (.int .i64 a2)), (7, (.vs 7)), (9, (.vs 9)), (27, (.sl 1 (a1.map Z15) false)), (28, (.int .i64 (a1.length : Int))), (29, (.int .i64 v8))], [(7, (.vec 1 (List.map Z15 v9))), (9, (.vec 1 (List.map Z15 v10)))]⟩) ⟨rfl, rfl, rfl, rfl, rfl, rfl, rfl, trivial⟩ ⟨rfl, rfl, trivial⟩ (J61 (v9, v10) h)
      ·have h := hif.2 hc
       refine Zt I I I I I I I <| Zt I I I I I I I <| Zt I I I I I I I <| Zt I I I I I I I <| Zt I I I I I I I <| Z1 I (Z2a (v := (.bool false)) I I I) I <| Ze <| Zf ?_
       refine Z13 (b := false) I (fun hc => ?_) (fun hc => ?_)
       ·cases hc
       refine Z16 <| At.end ?_
       exact Zw (st' := ⟨[(0, (.sl 1 (a0.map Z1x) false)), (2, (.int .i64 a2)), (7, (.vs 7)), (9, (.vs 9)), (27, (.sl 1 (a1.map Z15) false)), (28, (.int .i64 (a1.length : Int))), (29, (.int .i64 v8))], [(7, (.vec 1 (List.map Z15 v9))), (9, (.vec 1 (List.map Z15 v10)))]⟩) ⟨rfl, rfl, rfl, rfl, rfl, rfl, rfl, trivial⟩ ⟨rfl, rfl, trivial⟩ (J55 (v9, v10) h)
    ·have h := hif.2 hc
     refine AWp.exit <| At.thru ?_
     exact Zw (st' := ⟨[(0, (.sl 1 (a0.map Z1x) false)), (2, (.int .i64 a2)), (7, (.vs 7)), (9, (.vs 9))], [(7, (.vec 1 (List.map Z15 v9))), (9, (.vec 1 (List.map Z15 v10)))]⟩) ⟨rfl, rfl, rfl, rfl, trivial⟩ ⟨rfl, rfl, trivial⟩ (J11 (v9, v10) h)
 ·intro N k4 v h IH4 J4
  obtain ⟨v2, v3⟩ := v
  try dsimp only at h IH4 J4 ⊢
  cases k4 with
  | zero => cases h
  | succ k4 =>
   rw [Z5s] at h
   refine Zg <| Za <| Z1 I (Z1w (k := .i64) (a := v2) (b := ((List.replicate (a0.length : Int).toNat (0 : Int)).length : Int)) (c := (decide (v2 < ((List.replicate (a0.length : Int).toNat (0 : Int)).length : Int)))) I I I I) I <| Ze <| Zf <| Zg ?_
   have hif := Z1y h
   refine Z13 I (fun hc => ?_) (fun hc => ?_)
   ·have h := hif.1 hc
    refine Z16 <| Zf <| Zg <| AWp.block <| Zg <| Za <| Z1 I (Zh (v := (.int .i64 v2)) I I) I <| Z1 I (Zi (v := (.int .i64 v2)) I I) I ?_
    refine Ze <| Zf <| Za <| Z1 I (Zh (v := (.vs 7)) I I) I <| Z1 I (Zh (v := (.int .i64 v2)) I I) I ?_
    have ⟨hg66, h⟩ := Zv h
    refine Z1 I (Z2h (k := .i64) (v := (.vs 7)) (n := 7) (off := 0) (len := v3.length) (es := (List.map Z15 v3)) (j := v2) (m := v2.toNat) I s65 I I (Z2o _ _ _) I hg66 (Nat.zero_add _)) I ?_
    have ⟨hg67, h⟩ := Zv h
    refine Z1 I (Z5q (l := v3) (enc := Z15) (z := 0) (a := (Int.negSucc 0)) (v := (.int .i64 (Int.negSucc 0))) sz3 I I hg67 I Z2y I I I I) I <| Ze <| At.end <| Zf <| Za <| Z1 I (Z1n (k := .i64) (a := v2) (b := 1) (c := (IntKind.i64.wrap (v2 + 1))) I I I I) I <| Z1 I (Zh (v := (.int .i64 (IntKind.i64.wrap (v2 + 1)))) I I) I <| Ze ?_
    exact Zw (st' := ⟨[(0, (.sl 1 (a0.map Z1x) false)), (1, (.sl 1 (a1.map Z15) false)), (2, (.int .i64 a2)), (7, (.vs 7)), (19, (.int .i64 ((List.replicate (a0.length : Int).toNat (0 : Int)).length : Int))), (20, (.int .i64 (IntKind.i64.wrap (v2 + 1))))], [(7, (.vec 1 (List.map Z15 (v3.set v2.toNat (Int.negSucc 0)))))]⟩) ⟨rfl, rfl, rfl, rfl, rfl, rfl, trivial⟩ ⟨rfl, trivial⟩ (IH4 _ ((IntKind.i64.wrap (v2 + 1)), (v3.set v2.toNat (Int.negSucc 0))) (Nat.lt_succ_self _) h)
   ·have h := hif.2 hc
    refine AWp.exit <| At.thru ?_
    exact Zw (st' := ⟨[(0, (.sl 1 (a0.map Z1x) false)), (1, (.sl 1 (a1.map Z15) false)), (2, (.int .i64 a2)), (7, (.vs 7))], [(7, (.vec 1 (List.map Z15 v3)))]⟩) ⟨rfl, rfl, rfl, rfl, trivial⟩ ⟨rfl, trivial⟩ (J4 v3 h)
end Go.AM.TopZ
