/- What these functions compute, each with its walk: F47. -/
import Derived.Test.YtgikdjgdjogdmaaMsgT
namespace Go.AM.Msg
open Go Go.AM Go.Proofs
set_option maxRecDepth 100000
set_option maxHeartbeats 2000000
def F47_c5 (K : Nat) (v4 : (List Int)) : Option ((List Int)) :=
 some v4
def F47_j9 (K : Nat) (b7 : Int → (List Int) → Option ((List Int))) (v1 : Int) (v8 : (List Int)) : Option ((List Int)) :=
 b7 (IntKind.i64.wrap (v1 + 1)) v8
def F47_j29 (K : Nat) (b7 : Int → (List Int) → Option ((List Int))) (v1 : Int) (v28 : (List Int)) : Option ((List Int)) :=
 F47_j9 K b7 v1 v28
def F47_c16 (K : Nat) (v2 : (List Int)) (v11 : Int) (b7 : Int → (List Int) → Option ((List Int))) (v1 : Int) (v15 : Int) : Option ((List Int)) :=
 if (v15 == (v2.length : Int)) = true then
  if (0 : Int) ≤ v15 ∧ v15 ≤ (v2.length : Nat) then
   if (0 : Int) ≤ v15 ∧ v15 ≤ (v2.length : Int) ∧ (v2.length : Int) ≤ (v2.length : Nat) then
    if (0 + v15.toNat) + ((v2.length : Int).toNat - v15.toNat) ≤ v2.length then
     if (0 + v15.toNat) + ((v2.length : Int).toNat - v15.toNat) ≤ v2.length then
      if [v11].length + ((v2.drop (0 + v15.toNat)).take ((v2.length : Int).toNat - v15.toNat)).length ≤ 1073741824 then
       if 0 + v15.toNat ≤ v2.length then
        if ((v2.drop 0).take v15.toNat).length + ([v11] ++ ((v2.drop (0 + v15.toNat)).take ((v2.length : Int).toNat - v15.toNat))).length ≤ 1073741824 then
         if ([v11] ++ ((v2.drop (0 + v15.toNat)).take ((v2.length : Int).toNat - v15.toNat))) ≠ [] then
          F47_j9 K b7 v1 (((v2.drop 0).take v15.toNat) ++ ([v11] ++ ((v2.drop (0 + v15.toNat)).take ((v2.length : Int).toNat - v15.toNat))))
         else none
        else none
       else none
      else none
     else none
    else none
   else none
  else none
 else
  if (0 : Int) ≤ v15 ∧ v15 < (v2.length : Nat) then
   if v15.toNat < v2.length then
    if ((v2.getD v15.toNat 0) != v11) = true then
     if (0 : Int) ≤ v15 ∧ v15 ≤ (v2.length : Nat) then
      if (0 : Int) ≤ v15 ∧ v15 ≤ (v2.length : Int) ∧ (v2.length : Int) ≤ (v2.length : Nat) then
       if (0 + v15.toNat) + ((v2.length : Int).toNat - v15.toNat) ≤ v2.length then
        if (0 + v15.toNat) + ((v2.length : Int).toNat - v15.toNat) ≤ v2.length then
         if [v11].length + ((v2.drop (0 + v15.toNat)).take ((v2.length : Int).toNat - v15.toNat)).length ≤ 1073741824 then
          if 0 + v15.toNat ≤ v2.length then
           if ((v2.drop 0).take v15.toNat).length + ([v11] ++ ((v2.drop (0 + v15.toNat)).take ((v2.length : Int).toNat - v15.toNat))).length ≤ 1073741824 then
            if ([v11] ++ ((v2.drop (0 + v15.toNat)).take ((v2.length : Int).toNat - v15.toNat))) ≠ [] then
             F47_j29 K b7 v1 (((v2.drop 0).take v15.toNat) ++ ([v11] ++ ((v2.drop (0 + v15.toNat)).take ((v2.length : Int).toNat - v15.toNat))))
            else none
           else none
          else none
         else none
        else none
       else none
      else none
     else none
    else
     F47_j29 K b7 v1 v2
   else none
  else none
def F47_l14 (K : Nat) (v2 : (List Int)) (v11 : Int) (c17 : Int → Option ((List Int))) : Nat → Int → Option ((List Int))
 | 0, _ => none
 | k14 + 1, v13 =>
  if (decide (v13 < (v2.length : Int))) = true then
   if (0 : Int) ≤ v13 ∧ v13 < (v2.length : Nat) then
    if v13.toNat < v2.length then
     if (decide ((v2.getD v13.toNat 0) < v11)) = true then
      (F47_l14 K v2 v11 c17 k14) (IntKind.i64.wrap (v13 + 1))
     else
      c17 v13
    else none
   else none
  else
   c17 v13
def F47_j12 (K : Nat) (v2 : (List Int)) (b7 : Int → (List Int) → Option ((List Int))) (v1 : Int) (v11 : Int) : Option ((List Int)) :=
 F47_l14 K v2 v11 (F47_c16 K v2 v11 b7 v1) K 0
def F47_l3 (K : Nat) (a0 : (List Z8)) (c6 : (List Int) → Option ((List Int))) : Nat → Int → (List Int) → Option ((List Int))
 | 0, _, _ => none
 | k3 + 1, v1, v2 =>
  if (decide (v1 < (IntKind.i64.wrap (2 * (a0.length : Int))))) = true then
   if (0 : Int) ≤ (IntKind.i64.wrap (v1.tdiv 2)) ∧ (IntKind.i64.wrap (v1.tdiv 2)) < a0.length then
    if ((v1.tmod 2) == 1) = true then
     if (0 : Int) ≤ (IntKind.i64.wrap (v1.tdiv 2)) ∧ (IntKind.i64.wrap (v1.tdiv 2)) < a0.length then
      F47_j12 K v2 (F47_l3 K a0 c6 k3) v1 (a0.getD (IntKind.i64.wrap (v1.tdiv 2)).toNat Z4).To
     else none
    else
     F47_j12 K v2 (F47_l3 K a0 c6 k3) v1 (a0.getD (IntKind.i64.wrap (v1.tdiv 2)).toNat Z4).From
   else none
  else
   c6 v2
def F47 (K : Nat) (a0 : (List Z8)) : Option ((List Int)) :=
 F47_l3 K a0 (F47_c5 K) K 0 []
theorem F47_ok (K : Nat) (a0 : (List Z8)) (r : (List Int)) (h : F47 K a0 = some r) : ACall P 47 ⟨[(.sl 10 (a0.map Z3) false)], [], (.sl 1 (r.map Z13) false), [], []⟩ := by
 refine Z1q Try.func47 Try.results47 rfl Try.ntmps47 rfl rfl rfl ?_
 intro E Q hP hN hro hret
 obtain ⟨P', nt', w0, F0, p0, S0, β0, ro0⟩ := E
 simp only at hP hN
 subst hP hN
 dsimp only [argT]
 unfold F47 at h
 refine Zf <| Zb <| Z2 I (Zi (v := (.sl 1 [] false)) I I) I <| Zd <| Ze <| Zf <| Zb <| Z2 I (Zi (v := (.sl 1 [] true)) I I) I ?_
 refine Zd <| Ze <| Zf <| Zf <| Zb <| Z2 I (Zi (v := (.int .i64 0)) I I) I <| Zd <| Ze ?_
 refine AWp.ghost (st' := ⟨[(0, (.sl 10 (a0.map Z3) false)), (3, (.vs 3)), (4, (.int .i64 0))], [(3, (.vec 1 (List.map Z13 ([] : List Int))))]⟩) (fun a w h => (Z19 ⟨[(0, (.sl 10 (a0.map Z3) false)), (3, (.vs 3)), (4, (.int .i64 0))], [(3, (.vec 1 (List.map Z13 ([] : List Int))))]⟩ (ghost_own (k := 3) (m := 3) (sz := 1) I I a w (Z19 ⟨[(3, (.sl 1 [] true)), (0, (.sl 10 (a0.map Z3) false)), (4, (.int .i64 0))], []⟩ h ⟨rfl, rfl, rfl, trivial⟩ trivial)) ⟨rfl, rfl, rfl, trivial⟩ ⟨rfl, trivial⟩)) <| Z1s (st' := ⟨[(0, (.sl 10 (a0.map Z3) false)), (3, (.vs 3)), (4, (.int .i64 0))], [(3, (.vec 1 (List.map Z13 [])))]⟩) ⟨rfl, rfl, rfl, trivial⟩ ⟨rfl, trivial⟩ ?_
 refine Z1h (V := Int × (List Int)) (X := (List Int)) (lp := fun k v => F47_l3 K a0 (F47_c5 K) k v.1 v.2 = some r) (sh := fun v => ⟨[(0, (.sl 10 (a0.map Z3) false)), (3, (.vs 3)), (4, (.int .i64 v.1))], [(3, (.vec 1 (List.map Z13 v.2)))]⟩) (x := fun v => F47_c5 K v = some r) (shx := fun v => ⟨[(3, (.vs 3))], [(3, (.vec 1 (List.map Z13 v)))]⟩) (k := K) (v := (0, [])) h ?_ ?_
 ·intro v h
  revert h
  revert v
  intro v4 h
  try dsimp only at h ⊢
  unfold F47_c5 at h
  refine Ze <| Zf <| Zb <| Z2 I (Zh (v := (.vs 3)) I I) I <| Z2 I (Zi (v := (.vs 3)) I I) I <| Zd <| Ze <| Z1d ?_
  refine At.ghost (st' := ⟨[(2, (.sl 1 (v4.map Z13) false))], []⟩) (fun a w h => (Z19 ⟨[(2, (.sl 1 (v4.map Z13) false))], []⟩ (ghost_freeze (m := 3) (sz := 1) (es := (List.map Z13 v4)) a w (Z19 ⟨[(2, (.vs 3))], [(3, (.vec 1 (List.map Z13 v4)))]⟩ h ⟨rfl, trivial⟩ ⟨rfl, trivial⟩)) ⟨rfl, trivial⟩ trivial)) ?_
  have h := Option.some.inj h
  subst h
  refine (hret _ ?_).1
  exact ⟨[(.sl 1 (v4.map Z13) false)], ⟨rfl, trivial⟩, rfl, trivial⟩
 ·intro N k3 v h IH3 J3
  obtain ⟨v1, v2⟩ := v
  try dsimp only at h IH3 J3 ⊢
  cases k3 with
  | zero => cases h
  | succ k3 =>
   rw [F47_l3] at h
   refine Zf <| Zf <| Zb <| Z2 I (Zh (v := (.int .i64 v1)) I I) I <| Z2 I (Zh (v := (.sl 10 (a0.map Z3) false)) I I) I <| Z2 I (stx_len (l := a0) (enc := Z3) I s29 I) I <| Z2 I (Z1a (k := .i64) (a := 2) (b := (a0.length : Int)) (c := (IntKind.i64.wrap (2 * (a0.length : Int)))) I I I I) I <| Z2 I (Z1k (k := .i64) (a := v1) (b := (IntKind.i64.wrap (2 * (a0.length : Int)))) (c := (decide (v1 < (IntKind.i64.wrap (2 * (a0.length : Int)))))) I I I I) I ?_
   refine Zd <| Ze ?_
   have hif := Z1u h
   refine Z12 I (fun hc => ?_) (fun hc => ?_)
   ·have h := hif.1 hc
    refine Z14 <| Ze <| Zf ?_
    refine AWp.blockJoin (V := (List Int)) (lp := fun v => F47_j9 K (F47_l3 K a0 (F47_c5 K) k3) v1 v = some r) (sh := fun v => ⟨[(0, (.sl 10 (a0.map Z3) false)), (3, (.vs 3)), (4, (.int .i64 v1))], [(3, (.vec 1 (List.map Z13 v)))]⟩) ?_ ?_
    ·intro v h
     revert h
     revert v
     intro v8 h
     try dsimp only at h ⊢
     unfold F47_j9 at h
     refine Ze <| Zb <| Z2 I (Zh (v := (.int .i64 v1)) I I) I <| Z2 I (Z1a (k := .i64) (a := v1) (b := 1) (c := (IntKind.i64.wrap (v1 + 1))) I I I I) I <| Z2 I (Zi (v := (.int .i64 (IntKind.i64.wrap (v1 + 1)))) I I) I <| Zd ?_
     exact Zw (st' := ⟨[(0, (.sl 10 (a0.map Z3) false)), (3, (.vs 3)), (4, (.int .i64 (IntKind.i64.wrap (v1 + 1))))], [(3, (.vec 1 (List.map Z13 v8)))]⟩) ⟨rfl, rfl, rfl, trivial⟩ ⟨rfl, trivial⟩ (IH3 _ ((IntKind.i64.wrap (v1 + 1)), v8) (Nat.lt_succ_self _) h)
    ·intro J9
     refine Zf <| Zb <| Z2 I (Zh (v := (.sl 10 (a0.map Z3) false)) I I) I <| Z2 I (Zh (v := (.int .i64 v1)) I I) I <| Z2 I (st_div (k := .i64) (a := v1) (b := 2) (c := (IntKind.i64.wrap (v1.tdiv 2))) I I I I (by decide)) I ?_
     have ⟨hg10, h⟩ := Zu h
     refine Z2 I (Z1p (k := .i64) (l := a0) (enc := Z3) (z := Z4) (n := (IntKind.i64.wrap (v1.tdiv 2))) (cs := (Z3 (a0.getD (IntKind.i64.wrap (v1.tdiv 2)).toNat Z4)).cells) (full := false) I s29 I I hg10 I) I <| Z2 I (st_fieldI (cs := (Z3 (a0.getD (IntKind.i64.wrap (v1.tdiv 2)).toNat Z4)).cells) (ds := [(.int .i64 (a0.getD (IntKind.i64.wrap (v1.tdiv 2)).toNat Z4).From), (.int .i64 (a0.getD (IntKind.i64.wrap (v1.tdiv 2)).toNat Z4).To), (.int .i64 (a0.getD (IntKind.i64.wrap (v1.tdiv 2)).toNat Z4).Sent), (.int .i64 (a0.getD (IntKind.i64.wrap (v1.tdiv 2)).toNat Z4).Received), (.int .i64 (a0.getD (IntKind.i64.wrap (v1.tdiv 2)).toNat Z4).Least)]) I f25_3 I I I) I <| Z2 I (st_loadI (cs := [(.int .i64 (a0.getD (IntKind.i64.wrap (v1.tdiv 2)).toNat Z4).From), (.int .i64 (a0.getD (IntKind.i64.wrap (v1.tdiv 2)).toNat Z4).To), (.int .i64 (a0.getD (IntKind.i64.wrap (v1.tdiv 2)).toNat Z4).Sent), (.int .i64 (a0.getD (IntKind.i64.wrap (v1.tdiv 2)).toNat Z4).Received), (.int .i64 (a0.getD (IntKind.i64.wrap (v1.tdiv 2)).toNat Z4).Least)]) (v := (.int .i64 (a0.getD (IntKind.i64.wrap (v1.tdiv 2)).toNat Z4).From)) I o3 I I) I <| Z2 I (Zi (v := (.int .i64 (a0.getD (IntKind.i64.wrap (v1.tdiv 2)).toNat Z4).From)) I I) I <| Zd <| Ze <| Zf <| Zf ?_
     refine Zb <| Z2 I (Zh (v := (.int .i64 v1)) I I) I <| Z2 I (st_div (k := .i64) (a := v1) (b := 2) (c := (v1.tmod 2)) I I I I (by decide)) I <| Z2 I (Z1k (k := .i64) (a := (v1.tmod 2)) (b := 1) (c := ((v1.tmod 2) == 1)) I I I I) I <| Zd <| Ze ?_
     refine AWp.join (V := Int) (lp := fun v => F47_j12 K v2 (F47_l3 K a0 (F47_c5 K) k3) v1 v = some r) (sh := fun v => ⟨[(0, (.sl 10 (a0.map Z3) false)), (3, (.vs 3)), (4, (.int .i64 v1)), (5, (.int .i64 v))], [(3, (.vec 1 (List.map Z13 v2)))]⟩) ?_ ?_
     ·intro v h
      revert h
      revert v
      intro v11 h
      try dsimp only at h ⊢
      unfold F47_j12 at h
      refine Ze <| Zf <| Zb <| Z2 I (Zi (v := (.int .i64 0)) I I) I <| Zd <| Ze <| Zf <| Z1s (st' := ⟨[(0, (.sl 10 (a0.map Z3) false)), (3, (.vs 3)), (4, (.int .i64 v1)), (5, (.int .i64 v11)), (6, (.int .i64 0))], [(3, (.vec 1 (List.map Z13 v2)))]⟩) ⟨rfl, rfl, rfl, rfl, rfl, trivial⟩ ⟨rfl, trivial⟩ ?_
      refine Z1h (V := Int) (X := Int) (lp := fun k v => F47_l14 K v2 v11 (F47_c16 K v2 v11 (F47_l3 K a0 (F47_c5 K) k3) v1) k v = some r) (sh := fun v => ⟨[(0, (.sl 10 (a0.map Z3) false)), (3, (.vs 3)), (4, (.int .i64 v1)), (5, (.int .i64 v11)), (6, (.int .i64 v))], [(3, (.vec 1 (List.map Z13 v2)))]⟩) (x := fun v => F47_c16 K v2 v11 (F47_l3 K a0 (F47_c5 K) k3) v1 v = some r) (shx := fun v => ⟨[(0, (.sl 10 (a0.map Z3) false)), (3, (.vs 3)), (4, (.int .i64 v1)), (5, (.int .i64 v11)), (6, (.int .i64 v))], [(3, (.vec 1 (List.map Z13 v2)))]⟩) (k := K) (v := 0) h ?_ ?_
      ·intro v h
       revert h
       revert v
       intro v15 h
       try dsimp only at h ⊢
       unfold F47_c16 at h
       refine Ze <| Zf <| Zb <| Z2 I (Zh (v := (.int .i64 v15)) I I) I <| Z2 I (Zh (v := (.vs 3)) I I) I <| Z2 I (stx_lenV (l := v2) (enc := Z13) I u87 I I) I <| Z2 I (Z1k (k := .i64) (a := v15) (b := (v2.length : Int)) (c := (v15 == (v2.length : Int))) I I I I) I <| Z2 I (Zh (v := (.bool (v15 == (v2.length : Int)))) I I) I ?_
       have hif := Z1u h
       refine AOps.split (fun hc => ?_) (fun hc => ?_)
       ·have h := hif.1 hc
        refine Zt I I I I I I I <| Zt I I I I I I I <| Zt I I I I I I I <| Zt I I I I I I I <| Zt I I I I I I I <| Zt I I I I I I I <| Z2 I (st_pickT (v := (.bool true)) I I I) I <| Zd ?_
        refine Ze ?_
        refine Z12 (b := true) I (fun hc => ?_) (fun hc => ?_)
        rotate_left
        ·cases hc
        refine Z1n mixed <| Z9 0 I (Zh (v := (.vs 3)) I I) <| Z9 1 I (Zh (v := (.int .i64 v15)) I I) <| Z9 2 I (Zh (v := (.int .i64 v15)) I I) ?_
        have ⟨hg18, h⟩ := Zu h
        refine Z9 3 I (stx_slice3V (kh := .i64) (v := (.vs 3)) (n := 3) (off := 0) (len := v2.length) (l := v2) (enc := Z13) (h := v15) I s87 I I (vecR_map _ _ _) I I hg18) <| Z9 4 I (Zh (v := (.int .i64 v11)) I I) <| Z9 5 I (Z1g (vs := [(.int .i64 v11)]) (enc := Z13) (l := [v11]) I el87 I I ⟨rfl, trivial⟩ I els_i64 I I I I) <| Z9 6 I (Zh (v := (.vs 3)) I I) <| Z9 7 I (Zh (v := (.int .i64 v15)) I I) ?_
        have ⟨hg19, h⟩ := Zu h
        have ⟨hg20, h⟩ := Zu h
        refine Z9 8 I (stx_sliceVL (v := (.vs 3)) (n := 3) (off := 0) (len := v2.length) (l := v2) (enc := Z13) (kl := .i64) (lo := v15) I s87 I I (vecR_map _ _ _) I hg19 I) ?_
        have ⟨hg21, h⟩ := Zu h
        have ⟨hg22, h⟩ := Zu h
        refine Z9 9 I (st_append (m := 60) (enc := Z13) (l := [v11]) (l' := ((v2.drop (0 + v15.toNat)).take ((v2.length : Int).toNat - v15.toNat))) (src := (.vsub 3 (0 + v15.toNat) ((v2.length : Int).toNat - v15.toNat) false)) (rd := [(3, (.vec 1 (List.map Z13 v2)))]) I I el87 I u87 I I I (srcR_vsub hg21) (oneRead I) els_i64 hg22) ?_
        have ⟨hg23, h⟩ := Zu h
        have ⟨hg24, h⟩ := Zu h
        have ⟨hg25, h⟩ := Zu h
        refine Z9 10 I (st_appendNew (enc := Z13) (l := ((v2.drop 0).take v15.toNat)) (l' := ([v11] ++ ((v2.drop (0 + v15.toNat)).take ((v2.length : Int).toNat - v15.toNat)))) (dst := (.vsub 3 0 v15.toNat true)) (src := (.vs 60)) (rd := [(3, (.vec 1 (List.map Z13 v2)))]) (rd' := [(60, (.vec 1 (List.map Z13 ([v11] ++ ((v2.drop (0 + v15.toNat)).take ((v2.length : Int).toNat - v15.toNat))))))]) I el87 I u87 I (srcR_vsub hg23) I (oneRead I) I I (oneRead I) els_i64 hg24 (.inr hg25)) <| Z9 11 I (Zi (v := (.vs 65)) I I) <| Z1l (by kernel_rfl) I <| At.end <| At.ghost (st' := ⟨[(0, (.sl 10 (a0.map Z3) false)), (3, (.vs 3)), (4, (.int .i64 v1))], [(3, (.vec 1 (List.map Z13 (((v2.drop 0).take v15.toNat) ++ ([v11] ++ ((v2.drop (0 + v15.toNat)).take ((v2.length : Int).toNat - v15.toNat)))))))]⟩) (fun a w h => (Z19 ⟨[(0, (.sl 10 (a0.map Z3) false)), (3, (.vs 3)), (4, (.int .i64 v1))], [(3, (.vec 1 (List.map Z13 (((v2.drop 0).take v15.toNat) ++ ([v11] ++ ((v2.drop (0 + v15.toNat)).take ((v2.length : Int).toNat - v15.toNat)))))))]⟩ (ghost_sw (a := 65) (b := 3) I I a w (Z19 ⟨[(0, (.sl 10 (a0.map Z3) false)), (3, (.vs 65)), (4, (.int .i64 v1))], [(65, (.vec 1 (List.map Z13 (((v2.drop 0).take v15.toNat) ++ ([v11] ++ ((v2.drop (0 + v15.toNat)).take ((v2.length : Int).toNat - v15.toNat)))))))]⟩ h ⟨rfl, rfl, rfl, trivial⟩ ⟨rfl, trivial⟩)) ⟨rfl, rfl, rfl, trivial⟩ ⟨rfl, trivial⟩)) ?_
        exact Zw (st' := ⟨[(0, (.sl 10 (a0.map Z3) false)), (3, (.vs 3)), (4, (.int .i64 v1))], [(3, (.vec 1 (List.map Z13 (((v2.drop 0).take v15.toNat) ++ ([v11] ++ ((v2.drop (0 + v15.toNat)).take ((v2.length : Int).toNat - v15.toNat)))))))]⟩) ⟨rfl, rfl, rfl, trivial⟩ ⟨rfl, trivial⟩ (J9 (((v2.drop 0).take v15.toNat) ++ ([v11] ++ ((v2.drop (0 + v15.toNat)).take ((v2.length : Int).toNat - v15.toNat)))) h)
       ·have h := hif.2 hc
        refine Z11 I I I I (Zh (v := (.vs 3)) I I) I <| Z11 I I I I (Zh (v := (.int .i64 v15)) I I) I ?_
        have ⟨hg26, h⟩ := Zu h
        refine Z11 I I I I (st_indexV (k := .i64) (v := (.vs 3)) (n := 3) (off := 0) (len := v2.length) (es := (List.map Z13 v2)) (j := v15) (m := v15.toNat) I s87 I I (vecR_map _ _ _) I hg26 (Nat.zero_add _)) I ?_
        have ⟨hg27, h⟩ := Zu h
        refine Z11 I I I I (st_loadV (l := v2) (enc := Z13) (z := 0) (v := (.int .i64 (v2.getD v15.toNat 0))) I o3 I I hg27 I) I <| Z11 I I I I (Zh (v := (.int .i64 v11)) I I) I <| Z11 I I I I (Z1k (k := .i64) (a := (v2.getD v15.toNat 0)) (b := v11) (c := ((v2.getD v15.toNat 0) != v11)) I I I I) I <| Z2 I (Z1r (v := (.bool ((v2.getD v15.toNat 0) != v11))) I I I) I <| Zd <| Ze ?_
        refine AWp.join (V := (List Int)) (lp := fun v => F47_j29 K (F47_l3 K a0 (F47_c5 K) k3) v1 v = some r) (sh := fun v => ⟨[(0, (.sl 10 (a0.map Z3) false)), (3, (.vs 3)), (4, (.int .i64 v1))], [(3, (.vec 1 (List.map Z13 v)))]⟩) ?_ ?_
        ·intro v h
         revert h
         revert v
         intro v28 h
         try dsimp only at h ⊢
         unfold F47_j29 at h
         refine At.end ?_
         exact Zw (st' := ⟨[(0, (.sl 10 (a0.map Z3) false)), (3, (.vs 3)), (4, (.int .i64 v1))], [(3, (.vec 1 (List.map Z13 v28)))]⟩) ⟨rfl, rfl, rfl, trivial⟩ ⟨rfl, trivial⟩ (J9 v28 h)
        ·intro J29
         have hif := Z1u h
         refine Z12 I (fun hc => ?_) (fun hc => ?_)
         ·have h := hif.1 hc
          refine Z1n mixed <| Z9 0 I (Zh (v := (.vs 3)) I I) <| Z9 1 I (Zh (v := (.int .i64 v15)) I I) <| Z9 2 I (Zh (v := (.int .i64 v15)) I I) ?_
          have ⟨hg30, h⟩ := Zu h
          refine Z9 3 I (stx_slice3V (kh := .i64) (v := (.vs 3)) (n := 3) (off := 0) (len := v2.length) (l := v2) (enc := Z13) (h := v15) I s87 I I (vecR_map _ _ _) I I hg30) <| Z9 4 I (Zh (v := (.int .i64 v11)) I I) <| Z9 5 I (Z1g (vs := [(.int .i64 v11)]) (enc := Z13) (l := [v11]) I el87 I I ⟨rfl, trivial⟩ I els_i64 I I I I) <| Z9 6 I (Zh (v := (.vs 3)) I I) <| Z9 7 I (Zh (v := (.int .i64 v15)) I I) ?_
          have ⟨hg31, h⟩ := Zu h
          have ⟨hg32, h⟩ := Zu h
          refine Z9 8 I (stx_sliceVL (v := (.vs 3)) (n := 3) (off := 0) (len := v2.length) (l := v2) (enc := Z13) (kl := .i64) (lo := v15) I s87 I I (vecR_map _ _ _) I hg31 I) ?_
          have ⟨hg33, h⟩ := Zu h
          have ⟨hg34, h⟩ := Zu h
          refine Z9 9 I (st_append (m := 60) (enc := Z13) (l := [v11]) (l' := ((v2.drop (0 + v15.toNat)).take ((v2.length : Int).toNat - v15.toNat))) (src := (.vsub 3 (0 + v15.toNat) ((v2.length : Int).toNat - v15.toNat) false)) (rd := [(3, (.vec 1 (List.map Z13 v2)))]) I I el87 I u87 I I I (srcR_vsub hg33) (oneRead I) els_i64 hg34) ?_
          have ⟨hg35, h⟩ := Zu h
          have ⟨hg36, h⟩ := Zu h
          have ⟨hg37, h⟩ := Zu h
          refine Z9 10 I (st_appendNew (enc := Z13) (l := ((v2.drop 0).take v15.toNat)) (l' := ([v11] ++ ((v2.drop (0 + v15.toNat)).take ((v2.length : Int).toNat - v15.toNat)))) (dst := (.vsub 3 0 v15.toNat true)) (src := (.vs 60)) (rd := [(3, (.vec 1 (List.map Z13 v2)))]) (rd' := [(60, (.vec 1 (List.map Z13 ([v11] ++ ((v2.drop (0 + v15.toNat)).take ((v2.length : Int).toNat - v15.toNat))))))]) I el87 I u87 I (srcR_vsub hg35) I (oneRead I) I I (oneRead I) els_i64 hg36 (.inr hg37)) <| Z9 11 I (Zi (v := (.vs 65)) I I) <| Z1l (by kernel_rfl) I <| At.ghost (st' := ⟨[(0, (.sl 10 (a0.map Z3) false)), (3, (.vs 3)), (4, (.int .i64 v1))], [(3, (.vec 1 (List.map Z13 (((v2.drop 0).take v15.toNat) ++ ([v11] ++ ((v2.drop (0 + v15.toNat)).take ((v2.length : Int).toNat - v15.toNat)))))))]⟩) (fun a w h => (Z19 ⟨[(0, (.sl 10 (a0.map Z3) false)), (3, (.vs 3)), (4, (.int .i64 v1))], [(3, (.vec 1 (List.map Z13 (((v2.drop 0).take v15.toNat) ++ ([v11] ++ ((v2.drop (0 + v15.toNat)).take ((v2.length : Int).toNat - v15.toNat)))))))]⟩ (ghost_sw (a := 65) (b := 3) I I a w (Z19 ⟨[(0, (.sl 10 (a0.map Z3) false)), (3, (.vs 65)), (4, (.int .i64 v1))], [(65, (.vec 1 (List.map Z13 (((v2.drop 0).take v15.toNat) ++ ([v11] ++ ((v2.drop (0 + v15.toNat)).take ((v2.length : Int).toNat - v15.toNat)))))))]⟩ h ⟨rfl, rfl, rfl, trivial⟩ ⟨rfl, trivial⟩)) ⟨rfl, rfl, rfl, trivial⟩ ⟨rfl, trivial⟩)) ?_
          exact Zw (st' := ⟨[(0, (.sl 10 (a0.map Z3) false)), (3, (.vs 3)), (4, (.int .i64 v1))], [(3, (.vec 1 (List.map Z13 (((v2.drop 0).take v15.toNat) ++ ([v11] ++ ((v2.drop (0 + v15.toNat)).take ((v2.length : Int).toNat - v15.toNat)))))))]⟩) ⟨rfl, rfl, rfl, trivial⟩ ⟨rfl, trivial⟩ (J29 (((v2.drop 0).take v15.toNat) ++ ([v11] ++ ((v2.drop (0 + v15.toNat)).take ((v2.length : Int).toNat - v15.toNat)))) h)
         ·have h := hif.2 hc
          refine Z14 ?_
          exact Zw (st' := ⟨[(0, (.sl 10 (a0.map Z3) false)), (3, (.vs 3)), (4, (.int .i64 v1))], [(3, (.vec 1 (List.map Z13 v2)))]⟩) ⟨rfl, rfl, rfl, trivial⟩ ⟨rfl, trivial⟩ (J29 v2 h)
      ·intro N k14 v h IH14 J14
       revert h
       revert v
       intro v13 h
       try dsimp only at h IH14 J14 ⊢
       cases k14 with
       | zero => cases h
       | succ k14 =>
        rw [F47_l14] at h
        refine Zf <| Zf <| Zb <| Z2 I (Zh (v := (.int .i64 v13)) I I) I <| Z2 I (Zh (v := (.vs 3)) I I) I <| Z2 I (stx_lenV (l := v2) (enc := Z13) I u87 I I) I <| Z2 I (Z1k (k := .i64) (a := v13) (b := (v2.length : Int)) (c := (decide (v13 < (v2.length : Int)))) I I I I) I <| Z2 I (Zh (v := (.bool (decide (v13 < (v2.length : Int))))) I I) I ?_
        have hif := Z1u h
        refine AOps.split (fun hc => ?_) (fun hc => ?_)
        ·have h := hif.1 hc
         refine Z11 I I I I (Zh (v := (.vs 3)) I I) I <| Z11 I I I I (Zh (v := (.int .i64 v13)) I I) I ?_
         have ⟨hg39, h⟩ := Zu h
         refine Z11 I I I I (st_indexV (k := .i64) (v := (.vs 3)) (n := 3) (off := 0) (len := v2.length) (es := (List.map Z13 v2)) (j := v13) (m := v13.toNat) I s87 I I (vecR_map _ _ _) I hg39 (Nat.zero_add _)) I ?_
         have ⟨hg40, h⟩ := Zu h
         refine Z11 I I I I (st_loadV (l := v2) (enc := Z13) (z := 0) (v := (.int .i64 (v2.getD v13.toNat 0))) I o3 I I hg40 I) I <| Z11 I I I I (Zh (v := (.int .i64 v11)) I I) I <| Z11 I I I I (Z1k (k := .i64) (a := (v2.getD v13.toNat 0)) (b := v11) (c := (decide ((v2.getD v13.toNat 0) < v11))) I I I I) I <| Z2 I (st_pickT (v := (.bool (decide ((v2.getD v13.toNat 0) < v11)))) I I I) I <| Zd <| Ze ?_
         have hif := Z1u h
         refine Z12 I (fun hc => ?_) (fun hc => ?_)
         ·have h := hif.1 hc
          refine Z14 <| Ze <| AWp.block <| Zb <| Z2 I (Zh (v := (.int .i64 v13)) I I) I <| Z2 I (Z1a (k := .i64) (a := v13) (b := 1) (c := (IntKind.i64.wrap (v13 + 1))) I I I I) I <| Z2 I (Zi (v := (.int .i64 (IntKind.i64.wrap (v13 + 1)))) I I) I <| Zd ?_
          refine At.end ?_
          exact Zw (st' := ⟨[(0, (.sl 10 (a0.map Z3) false)), (3, (.vs 3)), (4, (.int .i64 v1)), (5, (.int .i64 v11)), (6, (.int .i64 (IntKind.i64.wrap (v13 + 1))))], [(3, (.vec 1 (List.map Z13 v2)))]⟩) ⟨rfl, rfl, rfl, rfl, rfl, trivial⟩ ⟨rfl, trivial⟩ (IH14 _ (IntKind.i64.wrap (v13 + 1)) (Nat.lt_succ_self _) h)
         ·have h := hif.2 hc
          refine AWp.exit <| At.thru ?_
          exact Zw (st' := ⟨[(0, (.sl 10 (a0.map Z3) false)), (3, (.vs 3)), (4, (.int .i64 v1)), (5, (.int .i64 v11)), (6, (.int .i64 v13))], [(3, (.vec 1 (List.map Z13 v2)))]⟩) ⟨rfl, rfl, rfl, rfl, rfl, trivial⟩ ⟨rfl, trivial⟩ (J14 v13 h)
        ·have h := hif.2 hc
         refine Zt I I I I I I I <| Zt I I I I I I I <| Zt I I I I I I I <| Zt I I I I I I I <| Zt I I I I I I I <| Zt I I I I I I I <| Z2 I (Z1r (v := (.bool false)) I I I) I <| Zd ?_
         refine Ze ?_
         refine Z12 (b := false) I (fun hc => ?_) (fun hc => ?_)
         ·cases hc
         refine AWp.exit <| At.thru ?_
         exact Zw (st' := ⟨[(0, (.sl 10 (a0.map Z3) false)), (3, (.vs 3)), (4, (.int .i64 v1)), (5, (.int .i64 v11)), (6, (.int .i64 v13))], [(3, (.vec 1 (List.map Z13 v2)))]⟩) ⟨rfl, rfl, rfl, rfl, rfl, trivial⟩ ⟨rfl, trivial⟩ (J14 v13 h)
     ·intro J12
      have hif := Z1u h
      refine Z12 I (fun hc => ?_) (fun hc => ?_)
      ·have h := hif.1 hc
       refine Zb <| Z2 I (Zh (v := (.sl 10 (a0.map Z3) false)) I I) I <| Z2 I (Zh (v := (.int .i64 v1)) I I) I <| Z2 I (st_div (k := .i64) (a := v1) (b := 2) (c := (IntKind.i64.wrap (v1.tdiv 2))) I I I I (by decide)) I ?_
       have ⟨hg41, h⟩ := Zu h
       refine Z2 I (Z1p (k := .i64) (l := a0) (enc := Z3) (z := Z4) (n := (IntKind.i64.wrap (v1.tdiv 2))) (cs := (Z3 (a0.getD (IntKind.i64.wrap (v1.tdiv 2)).toNat Z4)).cells) (full := false) I s29 I I hg41 I) I <| Z2 I (st_fieldI (cs := (Z3 (a0.getD (IntKind.i64.wrap (v1.tdiv 2)).toNat Z4)).cells) (ds := [(.int .i64 (a0.getD (IntKind.i64.wrap (v1.tdiv 2)).toNat Z4).To), (.int .i64 (a0.getD (IntKind.i64.wrap (v1.tdiv 2)).toNat Z4).Sent), (.int .i64 (a0.getD (IntKind.i64.wrap (v1.tdiv 2)).toNat Z4).Received), (.int .i64 (a0.getD (IntKind.i64.wrap (v1.tdiv 2)).toNat Z4).Least)]) I f25_4 I I I) I <| Z2 I (st_loadI (cs := [(.int .i64 (a0.getD (IntKind.i64.wrap (v1.tdiv 2)).toNat Z4).To), (.int .i64 (a0.getD (IntKind.i64.wrap (v1.tdiv 2)).toNat Z4).Sent), (.int .i64 (a0.getD (IntKind.i64.wrap (v1.tdiv 2)).toNat Z4).Received), (.int .i64 (a0.getD (IntKind.i64.wrap (v1.tdiv 2)).toNat Z4).Least)]) (v := (.int .i64 (a0.getD (IntKind.i64.wrap (v1.tdiv 2)).toNat Z4).To)) I o3 I I) I <| Z2 I (Zi (v := (.int .i64 (a0.getD (IntKind.i64.wrap (v1.tdiv 2)).toNat Z4).To)) I I) I <| Zd ?_
       exact Zw (st' := ⟨[(0, (.sl 10 (a0.map Z3) false)), (3, (.vs 3)), (4, (.int .i64 v1)), (5, (.int .i64 (a0.getD (IntKind.i64.wrap (v1.tdiv 2)).toNat Z4).To))], [(3, (.vec 1 (List.map Z13 v2)))]⟩) ⟨rfl, rfl, rfl, rfl, trivial⟩ ⟨rfl, trivial⟩ (J12 (a0.getD (IntKind.i64.wrap (v1.tdiv 2)).toNat Z4).To h)
      ·have h := hif.2 hc
       refine Z14 ?_
       exact Zw (st' := ⟨[(0, (.sl 10 (a0.map Z3) false)), (3, (.vs 3)), (4, (.int .i64 v1)), (5, (.int .i64 (a0.getD (IntKind.i64.wrap (v1.tdiv 2)).toNat Z4).From))], [(3, (.vec 1 (List.map Z13 v2)))]⟩) ⟨rfl, rfl, rfl, rfl, trivial⟩ ⟨rfl, trivial⟩ (J12 (a0.getD (IntKind.i64.wrap (v1.tdiv 2)).toNat Z4).From h)
   ·have h := hif.2 hc
    refine AWp.exit <| At.thru ?_
    exact Zw (st' := ⟨[(3, (.vs 3))], [(3, (.vec 1 (List.map Z13 v2)))]⟩) ⟨rfl, trivial⟩ ⟨rfl, trivial⟩ (J3 v2 h)
end Go.AM.Msg
