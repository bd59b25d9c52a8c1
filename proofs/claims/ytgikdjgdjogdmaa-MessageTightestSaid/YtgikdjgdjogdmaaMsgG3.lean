/- What these functions compute, each with its walk: F20. -/
import Derived.Test.YtgikdjgdjogdmaaMsgT
import Derived.Test.YtgikdjgdjogdmaaMsgG2
namespace Go.AM.Msg
open Go Go.AM Go.Proofs
set_option maxRecDepth 100000
set_option maxHeartbeats 2000000
def F20_c5 (K : Nat) (v4 : (List Z8)) : Option ((List Z8)) :=
 some v4
def F20_j9 (K : Nat) (b7 : Int → (List Z8) → Option ((List Z8))) (v1 : Int) (v8 : (List Z8)) : Option ((List Z8)) :=
 b7 (IntKind.i64.wrap (v1 + 1)) v8
def F20_j30 (K : Nat) (b7 : Int → (List Z8) → Option ((List Z8))) (v1 : Int) (v29 : (List Z8)) : Option ((List Z8)) :=
 F20_j9 K b7 v1 v29
def F20_c13 (K : Nat) (v2 : (List Z8)) (v1 : Int) (a0 : (List Z8)) (b7 : Int → (List Z8) → Option ((List Z8))) (v12 : Int) : Option ((List Z8)) :=
 if (v12 == (v2.length : Int)) = true then
  if (0 : Int) ≤ v12 ∧ v12 ≤ (v2.length : Nat) then
   if (0 : Int) ≤ v1 ∧ v1 < a0.length then
    if (0 : Int) ≤ v12 ∧ v12 ≤ (v2.length : Int) ∧ (v2.length : Int) ≤ (v2.length : Nat) then
     if (0 + v12.toNat) + ((v2.length : Int).toNat - v12.toNat) ≤ v2.length then
      if (0 + v12.toNat) + ((v2.length : Int).toNat - v12.toNat) ≤ v2.length then
       if [(a0.getD v1.toNat Z4)].length + ((v2.drop (0 + v12.toNat)).take ((v2.length : Int).toNat - v12.toNat)).length ≤ 1073741824 then
        if 0 + v12.toNat ≤ v2.length then
         if ((v2.drop 0).take v12.toNat).length + ([(a0.getD v1.toNat Z4)] ++ ((v2.drop (0 + v12.toNat)).take ((v2.length : Int).toNat - v12.toNat))).length ≤ 1073741824 then
          if ([(a0.getD v1.toNat Z4)] ++ ((v2.drop (0 + v12.toNat)).take ((v2.length : Int).toNat - v12.toNat))) ≠ [] then
           F20_j9 K b7 v1 (((v2.drop 0).take v12.toNat) ++ ([(a0.getD v1.toNat Z4)] ++ ((v2.drop (0 + v12.toNat)).take ((v2.length : Int).toNat - v12.toNat))))
          else none
         else none
        else none
       else none
      else none
     else none
    else none
   else none
  else none
 else
  if (0 : Int) ≤ v12 ∧ v12 < (v2.length : Nat) then
   if v12.toNat < v2.length then
    if (0 : Int) ≤ v1 ∧ v1 < a0.length then
     (F17 K (v2.getD v12.toNat Z4) (a0.getD v1.toNat Z4)).bind fun v28 =>
      if (v28 != 0) = true then
       if (0 : Int) ≤ v12 ∧ v12 ≤ (v2.length : Nat) then
        if (0 : Int) ≤ v1 ∧ v1 < a0.length then
         if (0 : Int) ≤ v12 ∧ v12 ≤ (v2.length : Int) ∧ (v2.length : Int) ≤ (v2.length : Nat) then
          if (0 + v12.toNat) + ((v2.length : Int).toNat - v12.toNat) ≤ v2.length then
           if (0 + v12.toNat) + ((v2.length : Int).toNat - v12.toNat) ≤ v2.length then
            if [(a0.getD v1.toNat Z4)].length + ((v2.drop (0 + v12.toNat)).take ((v2.length : Int).toNat - v12.toNat)).length ≤ 1073741824 then
             if 0 + v12.toNat ≤ v2.length then
              if ((v2.drop 0).take v12.toNat).length + ([(a0.getD v1.toNat Z4)] ++ ((v2.drop (0 + v12.toNat)).take ((v2.length : Int).toNat - v12.toNat))).length ≤ 1073741824 then
               if ([(a0.getD v1.toNat Z4)] ++ ((v2.drop (0 + v12.toNat)).take ((v2.length : Int).toNat - v12.toNat))) ≠ [] then
                F20_j30 K b7 v1 (((v2.drop 0).take v12.toNat) ++ ([(a0.getD v1.toNat Z4)] ++ ((v2.drop (0 + v12.toNat)).take ((v2.length : Int).toNat - v12.toNat))))
               else none
              else none
             else none
            else none
           else none
          else none
         else none
        else none
       else none
      else
       F20_j30 K b7 v1 v2
    else none
   else none
  else none
def F20_l11 (K : Nat) (v2 : (List Z8)) (v1 : Int) (a0 : (List Z8)) (c14 : Int → Option ((List Z8))) : Nat → Int → Option ((List Z8))
 | 0, _ => none
 | k11 + 1, v10 =>
  if (decide (v10 < (v2.length : Int))) = true then
   if (0 : Int) ≤ v10 ∧ v10 < (v2.length : Nat) then
    if v10.toNat < v2.length then
     if (0 : Int) ≤ v1 ∧ v1 < a0.length then
      (F17 K (v2.getD v10.toNat Z4) (a0.getD v1.toNat Z4)).bind fun v45 =>
       if (decide (v45 < 0)) = true then
        (F20_l11 K v2 v1 a0 c14 k11) (IntKind.i64.wrap (v10 + 1))
       else
        c14 v10
     else none
    else none
   else none
  else
   c14 v10
def F20_l3 (K : Nat) (a0 : (List Z8)) (c6 : (List Z8) → Option ((List Z8))) : Nat → Int → (List Z8) → Option ((List Z8))
 | 0, _, _ => none
 | k3 + 1, v1, v2 =>
  if (decide (v1 < (a0.length : Int))) = true then
   F20_l11 K v2 v1 a0 (F20_c13 K v2 v1 a0 (F20_l3 K a0 c6 k3)) K 0
  else
   c6 v2
def F20 (K : Nat) (a0 : (List Z8)) : Option ((List Z8)) :=
 F20_l3 K a0 (F20_c5 K) K 0 []
theorem F20_ok (K : Nat) (a0 : (List Z8)) (r : (List Z8)) (h : F20 K a0 = some r) : ACall P 20 ⟨[(.sl 10 (a0.map Z3) false)], [], (.sl 10 (r.map Z3) false), [], []⟩ := by
 refine Z1q Try.func20 Try.results20 rfl Try.ntmps20 rfl rfl rfl ?_
 intro E Q hP hN hro hret
 obtain ⟨P', nt', w0, F0, p0, S0, β0, ro0⟩ := E
 simp only at hP hN
 subst hP hN
 dsimp only [argT]
 unfold F20 at h
 refine Zf <| Zb <| Z2 I (Zi (v := (.sl 10 [] false)) I I) I <| Zd <| Ze <| Zf <| Zb <| Z2 I (Zi (v := (.sl 10 [] true)) I I) I ?_
 refine Zd <| Ze <| Zf <| Zf <| Zb <| Z2 I (Zi (v := (.int .i64 0)) I I) I <| Zd <| Ze ?_
 refine AWp.ghost (st' := ⟨[(0, (.sl 10 (a0.map Z3) false)), (3, (.vs 3)), (4, (.int .i64 0))], [(3, (.vec 10 (List.map Z3 ([] : List Z8))))]⟩) (fun a w h => (Z19 ⟨[(0, (.sl 10 (a0.map Z3) false)), (3, (.vs 3)), (4, (.int .i64 0))], [(3, (.vec 10 (List.map Z3 ([] : List Z8))))]⟩ (ghost_own (k := 3) (m := 3) (sz := 10) I I a w (Z19 ⟨[(3, (.sl 10 [] true)), (0, (.sl 10 (a0.map Z3) false)), (4, (.int .i64 0))], []⟩ h ⟨rfl, rfl, rfl, trivial⟩ trivial)) ⟨rfl, rfl, rfl, trivial⟩ ⟨rfl, trivial⟩)) <| Z1s (st' := ⟨[(0, (.sl 10 (a0.map Z3) false)), (3, (.vs 3)), (4, (.int .i64 0))], [(3, (.vec 10 (List.map Z3 [])))]⟩) ⟨rfl, rfl, rfl, trivial⟩ ⟨rfl, trivial⟩ ?_
 refine Z1h (V := Int × (List Z8)) (X := (List Z8)) (lp := fun k v => F20_l3 K a0 (F20_c5 K) k v.1 v.2 = some r) (sh := fun v => ⟨[(0, (.sl 10 (a0.map Z3) false)), (3, (.vs 3)), (4, (.int .i64 v.1))], [(3, (.vec 10 (List.map Z3 v.2)))]⟩) (x := fun v => F20_c5 K v = some r) (shx := fun v => ⟨[(3, (.vs 3))], [(3, (.vec 10 (List.map Z3 v)))]⟩) (k := K) (v := (0, [])) h ?_ ?_
 ·intro v h
  revert h
  revert v
  intro v4 h
  try dsimp only at h ⊢
  unfold F20_c5 at h
  refine Ze <| Zf <| Zb <| Z2 I (Zh (v := (.vs 3)) I I) I <| Z2 I (Zi (v := (.vs 3)) I I) I <| Zd <| Ze <| Z1d ?_
  refine At.ghost (st' := ⟨[(2, (.sl 10 (v4.map Z3) false))], []⟩) (fun a w h => (Z19 ⟨[(2, (.sl 10 (v4.map Z3) false))], []⟩ (ghost_freeze (m := 3) (sz := 10) (es := (List.map Z3 v4)) a w (Z19 ⟨[(2, (.vs 3))], [(3, (.vec 10 (List.map Z3 v4)))]⟩ h ⟨rfl, trivial⟩ ⟨rfl, trivial⟩)) ⟨rfl, trivial⟩ trivial)) ?_
  have h := Option.some.inj h
  subst h
  refine (hret _ ?_).1
  exact ⟨[(.sl 10 (v4.map Z3) false)], ⟨rfl, trivial⟩, rfl, trivial⟩
 ·intro N k3 v h IH3 J3
  obtain ⟨v1, v2⟩ := v
  try dsimp only at h IH3 J3 ⊢
  cases k3 with
  | zero => cases h
  | succ k3 =>
   rw [F20_l3] at h
   refine Zf <| Zf <| Zb <| Z2 I (Zh (v := (.int .i64 v1)) I I) I <| Z2 I (Zh (v := (.sl 10 (a0.map Z3) false)) I I) I <| Z2 I (stx_len (l := a0) (enc := Z3) I s29 I) I <| Z2 I (Z1k (k := .i64) (a := v1) (b := (a0.length : Int)) (c := (decide (v1 < (a0.length : Int)))) I I I I) I <| Zd ?_
   refine Ze ?_
   have hif := Z1u h
   refine Z12 I (fun hc => ?_) (fun hc => ?_)
   ·have h := hif.1 hc
    refine Z14 <| Ze <| Zf ?_
    refine AWp.blockJoin (V := (List Z8)) (lp := fun v => F20_j9 K (F20_l3 K a0 (F20_c5 K) k3) v1 v = some r) (sh := fun v => ⟨[(0, (.sl 10 (a0.map Z3) false)), (3, (.vs 3)), (4, (.int .i64 v1))], [(3, (.vec 10 (List.map Z3 v)))]⟩) ?_ ?_
    ·intro v h
     revert h
     revert v
     intro v8 h
     try dsimp only at h ⊢
     unfold F20_j9 at h
     refine Ze <| Zb <| Z2 I (Zh (v := (.int .i64 v1)) I I) I <| Z2 I (Z1a (k := .i64) (a := v1) (b := 1) (c := (IntKind.i64.wrap (v1 + 1))) I I I I) I <| Z2 I (Zi (v := (.int .i64 (IntKind.i64.wrap (v1 + 1)))) I I) I <| Zd ?_
     exact Zw (st' := ⟨[(0, (.sl 10 (a0.map Z3) false)), (3, (.vs 3)), (4, (.int .i64 (IntKind.i64.wrap (v1 + 1))))], [(3, (.vec 10 (List.map Z3 v8)))]⟩) ⟨rfl, rfl, rfl, trivial⟩ ⟨rfl, trivial⟩ (IH3 _ ((IntKind.i64.wrap (v1 + 1)), v8) (Nat.lt_succ_self _) h)
    ·intro J9
     refine Zf <| Zb <| Z2 I (Zi (v := (.int .i64 0)) I I) I <| Zd <| Ze <| Zf <| Z1s (st' := ⟨[(0, (.sl 10 (a0.map Z3) false)), (3, (.vs 3)), (4, (.int .i64 v1)), (5, (.int .i64 0))], [(3, (.vec 10 (List.map Z3 v2)))]⟩) ⟨rfl, rfl, rfl, rfl, trivial⟩ ⟨rfl, trivial⟩ ?_
     refine Z1h (V := Int) (X := Int) (lp := fun k v => F20_l11 K v2 v1 a0 (F20_c13 K v2 v1 a0 (F20_l3 K a0 (F20_c5 K) k3)) k v = some r) (sh := fun v => ⟨[(0, (.sl 10 (a0.map Z3) false)), (3, (.vs 3)), (4, (.int .i64 v1)), (5, (.int .i64 v))], [(3, (.vec 10 (List.map Z3 v2)))]⟩) (x := fun v => F20_c13 K v2 v1 a0 (F20_l3 K a0 (F20_c5 K) k3) v = some r) (shx := fun v => ⟨[(0, (.sl 10 (a0.map Z3) false)), (3, (.vs 3)), (4, (.int .i64 v1)), (5, (.int .i64 v))], [(3, (.vec 10 (List.map Z3 v2)))]⟩) (k := K) (v := 0) h ?_ ?_
     ·intro v h
      revert h
      revert v
      intro v12 h
      try dsimp only at h ⊢
      unfold F20_c13 at h
      refine Ze <| Zf <| Z1n mixed <| Z9 0 I (Zh (v := (.int .i64 v12)) I I) <| Z9 1 I (Zh (v := (.vs 3)) I I) <| Z9 2 I (stx_lenV (l := v2) (enc := Z3) I u29 I I) <| Z9 3 I (Z1k (k := .i64) (a := v12) (b := (v2.length : Int)) (c := (v12 == (v2.length : Int))) I I I I) <| Z9 4 I (Zh (v := (.bool (v12 == (v2.length : Int)))) I I) ?_
      have hif := Z1u h
      refine AOpsD.split (fun hc => ?_) (fun hc => ?_)
      ·have h := hif.1 hc
       refine Zl 5 I I I I I I I <| Zl 6 I I I I I I I <| Zl 7 I I I I I I I <| Zl 8 I I I I I I I <| Zl 9 I I I I I I I <| Zl 10 I I I I I I I <| Zl 11 I I I I I I I <| Zl 12 I I I I I I I ?_
       refine Zl 13 I I I I I I I <| Zl 14 I I I I I I I <| Z9 15 I (st_pickT (v := (.bool true)) I I I) <| Z1l (by kernel_rfl) I <| Ze ?_
       refine Z12 (b := true) I (fun hc => ?_) (fun hc => ?_)
       rotate_left
       ·cases hc
       refine Z1n mixed <| Z9 0 I (Zh (v := (.vs 3)) I I) <| Z9 1 I (Zh (v := (.int .i64 v12)) I I) <| Z9 2 I (Zh (v := (.int .i64 v12)) I I) ?_
       have ⟨hg15, h⟩ := Zu h
       refine Z9 3 I (stx_slice3V (kh := .i64) (v := (.vs 3)) (n := 3) (off := 0) (len := v2.length) (l := v2) (enc := Z3) (h := v12) I s29 I I (vecR_map _ _ _) I I hg15) <| Z9 4 I (Zh (v := (.sl 10 (a0.map Z3) false)) I I) <| Z9 5 I (Zh (v := (.int .i64 v1)) I I) ?_
       have ⟨hg16, h⟩ := Zu h
       refine Z9 6 I (Z1p (k := .i64) (l := a0) (enc := Z3) (z := Z4) (n := v1) (cs := (Z3 (a0.getD v1.toNat Z4)).cells) (full := false) I s29 I I hg16 I) <| Z9 7 I (st_loadIA (cs := (Z3 (a0.getD v1.toNat Z4)).cells) (vs := (Z3 (a0.getD v1.toNat Z4)).cells) I a25 I I I) <| Z9 8 I (Z1g (vs := [(Z3 (a0.getD v1.toNat Z4))]) (enc := Z3) (l := [(a0.getD v1.toNat Z4)]) I el29 I I ⟨rfl, trivial⟩ I Z1e I I I I) <| Z9 9 I (Zh (v := (.vs 3)) I I) <| Z9 10 I (Zh (v := (.int .i64 v12)) I I) ?_
       have ⟨hg17, h⟩ := Zu h
       have ⟨hg18, h⟩ := Zu h
       refine Z9 11 I (stx_sliceVL (v := (.vs 3)) (n := 3) (off := 0) (len := v2.length) (l := v2) (enc := Z3) (kl := .i64) (lo := v12) I s29 I I (vecR_map _ _ _) I hg17 I) ?_
       have ⟨hg19, h⟩ := Zu h
       have ⟨hg20, h⟩ := Zu h
       refine Z9 12 I (st_append (m := 54) (enc := Z3) (l := [(a0.getD v1.toNat Z4)]) (l' := ((v2.drop (0 + v12.toNat)).take ((v2.length : Int).toNat - v12.toNat))) (src := (.vsub 3 (0 + v12.toNat) ((v2.length : Int).toNat - v12.toNat) false)) (rd := [(3, (.vec 10 (List.map Z3 v2)))]) I I el29 I u29 I I I (srcR_vsub hg19) (oneRead I) Z1e hg20) ?_
       have ⟨hg21, h⟩ := Zu h
       have ⟨hg22, h⟩ := Zu h
       have ⟨hg23, h⟩ := Zu h
       refine Z9 13 I (st_appendNew (enc := Z3) (l := ((v2.drop 0).take v12.toNat)) (l' := ([(a0.getD v1.toNat Z4)] ++ ((v2.drop (0 + v12.toNat)).take ((v2.length : Int).toNat - v12.toNat)))) (dst := (.vsub 3 0 v12.toNat true)) (src := (.vs 54)) (rd := [(3, (.vec 10 (List.map Z3 v2)))]) (rd' := [(54, (.vec 10 (List.map Z3 ([(a0.getD v1.toNat Z4)] ++ ((v2.drop (0 + v12.toNat)).take ((v2.length : Int).toNat - v12.toNat))))))]) I el29 I u29 I (srcR_vsub hg21) I (oneRead I) I I (oneRead I) Z1e hg22 (.inr hg23)) <| Z9 14 I (Zi (v := (.vs 59)) I I) <| Z1l (by kernel_rfl) I <| At.end <| At.ghost (st' := ⟨[(0, (.sl 10 (a0.map Z3) false)), (3, (.vs 3)), (4, (.int .i64 v1))], [(3, (.vec 10 (List.map Z3 (((v2.drop 0).take v12.toNat) ++ ([(a0.getD v1.toNat Z4)] ++ ((v2.drop (0 + v12.toNat)).take ((v2.length : Int).toNat - v12.toNat)))))))]⟩) (fun a w h => (Z19 ⟨[(0, (.sl 10 (a0.map Z3) false)), (3, (.vs 3)), (4, (.int .i64 v1))], [(3, (.vec 10 (List.map Z3 (((v2.drop 0).take v12.toNat) ++ ([(a0.getD v1.toNat Z4)] ++ ((v2.drop (0 + v12.toNat)).take ((v2.length : Int).toNat - v12.toNat)))))))]⟩ (ghost_sw (a := 59) (b := 3) I I a w (Z19 ⟨[(0, (.sl 10 (a0.map Z3) false)), (3, (.vs 59)), (4, (.int .i64 v1))], [(59, (.vec 10 (List.map Z3 (((v2.drop 0).take v12.toNat) ++ ([(a0.getD v1.toNat Z4)] ++ ((v2.drop (0 + v12.toNat)).take ((v2.length : Int).toNat - v12.toNat)))))))]⟩ h ⟨rfl, rfl, rfl, trivial⟩ ⟨rfl, trivial⟩)) ⟨rfl, rfl, rfl, trivial⟩ ⟨rfl, trivial⟩)) ?_
       exact Zw (st' := ⟨[(0, (.sl 10 (a0.map Z3) false)), (3, (.vs 3)), (4, (.int .i64 v1))], [(3, (.vec 10 (List.map Z3 (((v2.drop 0).take v12.toNat) ++ ([(a0.getD v1.toNat Z4)] ++ ((v2.drop (0 + v12.toNat)).take ((v2.length : Int).toNat - v12.toNat)))))))]⟩) ⟨rfl, rfl, rfl, trivial⟩ ⟨rfl, trivial⟩ (J9 (((v2.drop 0).take v12.toNat) ++ ([(a0.getD v1.toNat Z4)] ++ ((v2.drop (0 + v12.toNat)).take ((v2.length : Int).toNat - v12.toNat)))) h)
      ·have h := hif.2 hc
       refine Zo 5 I I I I (Zh (v := (.vs 3)) I I) <| Zo 6 I I I I (Zh (v := (.int .i64 v12)) I I) ?_
       have ⟨hg24, h⟩ := Zu h
       refine Zo 7 I I I I (st_indexV (k := .i64) (v := (.vs 3)) (n := 3) (off := 0) (len := v2.length) (es := (List.map Z3 v2)) (j := v12) (m := v12.toNat) I s29 I I (vecR_map _ _ _) I hg24 (Nat.zero_add _)) ?_
       have ⟨hg25, h⟩ := Zu h
       refine Zo 8 I I I I (st_loadVA (l := v2) (enc := Z3) (z := Z4) (vs := (Z3 (v2.getD v12.toNat Z4)).cells) I a25 I I hg25 I I) <| Zo 9 I I I I (Zh (v := (.sl 10 (a0.map Z3) false)) I I) <| Zo 10 I I I I (Zh (v := (.int .i64 v1)) I I) ?_
       have ⟨hg26, h⟩ := Zu h
       refine Zo 11 I I I I (Z1p (k := .i64) (l := a0) (enc := Z3) (z := Z4) (n := v1) (cs := (Z3 (a0.getD v1.toNat Z4)).cells) (full := false) I s29 I I hg26 I) <| Zo 12 I I I I (st_loadIA (cs := (Z3 (a0.getD v1.toNat Z4)).cells) (vs := (Z3 (a0.getD v1.toNat Z4)).cells) I a25 I I I) ?_
       have ⟨v28, hv28, h⟩ := Z16 h
       refine Zo 13 I I I I (Z15 (ar := [(Z3 (v2.getD v12.toNat Z4)), (Z3 (a0.getD v1.toNat Z4))]) (caps := []) Try.call17 (F17_ok K (v2.getD v12.toNat Z4) (a0.getD v1.toNat Z4) v28 hv28) I I ⟨rfl, rfl, trivial⟩ I) <| Zo 14 I I I I (Z1k (k := .i64) (a := v28) (b := 0) (c := (v28 != 0)) I I I I) <| Z9 15 I (Z1r (v := (.bool (v28 != 0))) I I I) <| Z1l (by kernel_rfl) I <| Ze ?_
       refine AWp.join (V := (List Z8)) (lp := fun v => F20_j30 K (F20_l3 K a0 (F20_c5 K) k3) v1 v = some r) (sh := fun v => ⟨[(0, (.sl 10 (a0.map Z3) false)), (3, (.vs 3)), (4, (.int .i64 v1))], [(3, (.vec 10 (List.map Z3 v)))]⟩) ?_ ?_
       ·intro v h
        revert h
        revert v
        intro v29 h
        try dsimp only at h ⊢
        unfold F20_j30 at h
        refine At.end ?_
        exact Zw (st' := ⟨[(0, (.sl 10 (a0.map Z3) false)), (3, (.vs 3)), (4, (.int .i64 v1))], [(3, (.vec 10 (List.map Z3 v29)))]⟩) ⟨rfl, rfl, rfl, trivial⟩ ⟨rfl, trivial⟩ (J9 v29 h)
       ·intro J30
        have hif := Z1u h
        refine Z12 I (fun hc => ?_) (fun hc => ?_)
        ·have h := hif.1 hc
         refine Z1n mixed <| Z9 0 I (Zh (v := (.vs 3)) I I) <| Z9 1 I (Zh (v := (.int .i64 v12)) I I) <| Z9 2 I (Zh (v := (.int .i64 v12)) I I) ?_
         have ⟨hg31, h⟩ := Zu h
         refine Z9 3 I (stx_slice3V (kh := .i64) (v := (.vs 3)) (n := 3) (off := 0) (len := v2.length) (l := v2) (enc := Z3) (h := v12) I s29 I I (vecR_map _ _ _) I I hg31) <| Z9 4 I (Zh (v := (.sl 10 (a0.map Z3) false)) I I) <| Z9 5 I (Zh (v := (.int .i64 v1)) I I) ?_
         have ⟨hg32, h⟩ := Zu h
         refine Z9 6 I (Z1p (k := .i64) (l := a0) (enc := Z3) (z := Z4) (n := v1) (cs := (Z3 (a0.getD v1.toNat Z4)).cells) (full := false) I s29 I I hg32 I) <| Z9 7 I (st_loadIA (cs := (Z3 (a0.getD v1.toNat Z4)).cells) (vs := (Z3 (a0.getD v1.toNat Z4)).cells) I a25 I I I) <| Z9 8 I (Z1g (vs := [(Z3 (a0.getD v1.toNat Z4))]) (enc := Z3) (l := [(a0.getD v1.toNat Z4)]) I el29 I I ⟨rfl, trivial⟩ I Z1e I I I I) <| Z9 9 I (Zh (v := (.vs 3)) I I) <| Z9 10 I (Zh (v := (.int .i64 v12)) I I) ?_
         have ⟨hg33, h⟩ := Zu h
         have ⟨hg34, h⟩ := Zu h
         refine Z9 11 I (stx_sliceVL (v := (.vs 3)) (n := 3) (off := 0) (len := v2.length) (l := v2) (enc := Z3) (kl := .i64) (lo := v12) I s29 I I (vecR_map _ _ _) I hg33 I) ?_
         have ⟨hg35, h⟩ := Zu h
         have ⟨hg36, h⟩ := Zu h
         refine Z9 12 I (st_append (m := 54) (enc := Z3) (l := [(a0.getD v1.toNat Z4)]) (l' := ((v2.drop (0 + v12.toNat)).take ((v2.length : Int).toNat - v12.toNat))) (src := (.vsub 3 (0 + v12.toNat) ((v2.length : Int).toNat - v12.toNat) false)) (rd := [(3, (.vec 10 (List.map Z3 v2)))]) I I el29 I u29 I I I (srcR_vsub hg35) (oneRead I) Z1e hg36) ?_
         have ⟨hg37, h⟩ := Zu h
         have ⟨hg38, h⟩ := Zu h
         have ⟨hg39, h⟩ := Zu h
         refine Z9 13 I (st_appendNew (enc := Z3) (l := ((v2.drop 0).take v12.toNat)) (l' := ([(a0.getD v1.toNat Z4)] ++ ((v2.drop (0 + v12.toNat)).take ((v2.length : Int).toNat - v12.toNat)))) (dst := (.vsub 3 0 v12.toNat true)) (src := (.vs 54)) (rd := [(3, (.vec 10 (List.map Z3 v2)))]) (rd' := [(54, (.vec 10 (List.map Z3 ([(a0.getD v1.toNat Z4)] ++ ((v2.drop (0 + v12.toNat)).take ((v2.length : Int).toNat - v12.toNat))))))]) I el29 I u29 I (srcR_vsub hg37) I (oneRead I) I I (oneRead I) Z1e hg38 (.inr hg39)) <| Z9 14 I (Zi (v := (.vs 59)) I I) <| Z1l (by kernel_rfl) I <| At.ghost (st' := ⟨[(0, (.sl 10 (a0.map Z3) false)), (3, (.vs 3)), (4, (.int .i64 v1))], [(3, (.vec 10 (List.map Z3 (((v2.drop 0).take v12.toNat) ++ ([(a0.getD v1.toNat Z4)] ++ ((v2.drop (0 + v12.toNat)).take ((v2.length : Int).toNat - v12.toNat)))))))]⟩) (fun a w h => (Z19 ⟨[(0, (.sl 10 (a0.map Z3) false)), (3, (.vs 3)), (4, (.int .i64 v1))], [(3, (.vec 10 (List.map Z3 (((v2.drop 0).take v12.toNat) ++ ([(a0.getD v1.toNat Z4)] ++ ((v2.drop (0 + v12.toNat)).take ((v2.length : Int).toNat - v12.toNat)))))))]⟩ (ghost_sw (a := 59) (b := 3) I I a w (Z19 ⟨[(0, (.sl 10 (a0.map Z3) false)), (3, (.vs 59)), (4, (.int .i64 v1))], [(59, (.vec 10 (List.map Z3 (((v2.drop 0).take v12.toNat) ++ ([(a0.getD v1.toNat Z4)] ++ ((v2.drop (0 + v12.toNat)).take ((v2.length : Int).toNat - v12.toNat)))))))]⟩ h ⟨rfl, rfl, rfl, trivial⟩ ⟨rfl, trivial⟩)) ⟨rfl, rfl, rfl, trivial⟩ ⟨rfl, trivial⟩)) ?_
         exact Zw (st' := ⟨[(0, (.sl 10 (a0.map Z3) false)), (3, (.vs 3)), (4, (.int .i64 v1))], [(3, (.vec 10 (List.map Z3 (((v2.drop 0).take v12.toNat) ++ ([(a0.getD v1.toNat Z4)] ++ ((v2.drop (0 + v12.toNat)).take ((v2.length : Int).toNat - v12.toNat)))))))]⟩) ⟨rfl, rfl, rfl, trivial⟩ ⟨rfl, trivial⟩ (J30 (((v2.drop 0).take v12.toNat) ++ ([(a0.getD v1.toNat Z4)] ++ ((v2.drop (0 + v12.toNat)).take ((v2.length : Int).toNat - v12.toNat)))) h)
        ·have h := hif.2 hc
         refine Z14 ?_
         exact Zw (st' := ⟨[(0, (.sl 10 (a0.map Z3) false)), (3, (.vs 3)), (4, (.int .i64 v1))], [(3, (.vec 10 (List.map Z3 v2)))]⟩) ⟨rfl, rfl, rfl, trivial⟩ ⟨rfl, trivial⟩ (J30 v2 h)
     ·intro N k11 v h IH11 J11
      revert h
      revert v
      intro v10 h
      try dsimp only at h IH11 J11 ⊢
      cases k11 with
      | zero => cases h
      | succ k11 =>
       rw [F20_l11] at h
       refine Zf <| Zf <| Z1n mixed <| Z9 0 I (Zh (v := (.int .i64 v10)) I I) <| Z9 1 I (Zh (v := (.vs 3)) I I) <| Z9 2 I (stx_lenV (l := v2) (enc := Z3) I u29 I I) <| Z9 3 I (Z1k (k := .i64) (a := v10) (b := (v2.length : Int)) (c := (decide (v10 < (v2.length : Int)))) I I I I) <| Z9 4 I (Zh (v := (.bool (decide (v10 < (v2.length : Int))))) I I) ?_
       have hif := Z1u h
       refine AOpsD.split (fun hc => ?_) (fun hc => ?_)
       ·have h := hif.1 hc
        refine Zo 5 I I I I (Zh (v := (.vs 3)) I I) <| Zo 6 I I I I (Zh (v := (.int .i64 v10)) I I) ?_
        have ⟨hg41, h⟩ := Zu h
        refine Zo 7 I I I I (st_indexV (k := .i64) (v := (.vs 3)) (n := 3) (off := 0) (len := v2.length) (es := (List.map Z3 v2)) (j := v10) (m := v10.toNat) I s29 I I (vecR_map _ _ _) I hg41 (Nat.zero_add _)) ?_
        have ⟨hg42, h⟩ := Zu h
        refine Zo 8 I I I I (st_loadVA (l := v2) (enc := Z3) (z := Z4) (vs := (Z3 (v2.getD v10.toNat Z4)).cells) I a25 I I hg42 I I) <| Zo 9 I I I I (Zh (v := (.sl 10 (a0.map Z3) false)) I I) <| Zo 10 I I I I (Zh (v := (.int .i64 v1)) I I) ?_
        have ⟨hg43, h⟩ := Zu h
        refine Zo 11 I I I I (Z1p (k := .i64) (l := a0) (enc := Z3) (z := Z4) (n := v1) (cs := (Z3 (a0.getD v1.toNat Z4)).cells) (full := false) I s29 I I hg43 I) <| Zo 12 I I I I (st_loadIA (cs := (Z3 (a0.getD v1.toNat Z4)).cells) (vs := (Z3 (a0.getD v1.toNat Z4)).cells) I a25 I I I) ?_
        have ⟨v45, hv45, h⟩ := Z16 h
        refine Zo 13 I I I I (Z15 (ar := [(Z3 (v2.getD v10.toNat Z4)), (Z3 (a0.getD v1.toNat Z4))]) (caps := []) Try.call17 (F17_ok K (v2.getD v10.toNat Z4) (a0.getD v1.toNat Z4) v45 hv45) I I ⟨rfl, rfl, trivial⟩ I) <| Zo 14 I I I I (Z1k (k := .i64) (a := v45) (b := 0) (c := (decide (v45 < 0))) I I I I) <| Z9 15 I (st_pickT (v := (.bool (decide (v45 < 0)))) I I I) <| Z1l (by kernel_rfl) I <| Ze ?_
        have hif := Z1u h
        refine Z12 I (fun hc => ?_) (fun hc => ?_)
        ·have h := hif.1 hc
         refine Z14 <| Ze <| AWp.block <| Zb <| Z2 I (Zh (v := (.int .i64 v10)) I I) I <| Z2 I (Z1a (k := .i64) (a := v10) (b := 1) (c := (IntKind.i64.wrap (v10 + 1))) I I I I) I <| Z2 I (Zi (v := (.int .i64 (IntKind.i64.wrap (v10 + 1)))) I I) I <| Zd ?_
         refine At.end ?_
         exact Zw (st' := ⟨[(0, (.sl 10 (a0.map Z3) false)), (3, (.vs 3)), (4, (.int .i64 v1)), (5, (.int .i64 (IntKind.i64.wrap (v10 + 1))))], [(3, (.vec 10 (List.map Z3 v2)))]⟩) ⟨rfl, rfl, rfl, rfl, trivial⟩ ⟨rfl, trivial⟩ (IH11 _ (IntKind.i64.wrap (v10 + 1)) (Nat.lt_succ_self _) h)
        ·have h := hif.2 hc
         refine AWp.exit <| At.thru ?_
         exact Zw (st' := ⟨[(0, (.sl 10 (a0.map Z3) false)), (3, (.vs 3)), (4, (.int .i64 v1)), (5, (.int .i64 v10))], [(3, (.vec 10 (List.map Z3 v2)))]⟩) ⟨rfl, rfl, rfl, rfl, trivial⟩ ⟨rfl, trivial⟩ (J11 v10 h)
       ·have h := hif.2 hc
        refine Zl 5 I I I I I I I <| Zl 6 I I I I I I I <| Zl 7 I I I I I I I <| Zl 8 I I I I I I I <| Zl 9 I I I I I I I <| Zl 10 I I I I I I I <| Zl 11 I I I I I I I <| Zl 12 I I I I I I I ?_
        refine Zl 13 I I I I I I I <| Zl 14 I I I I I I I <| Z9 15 I (Z1r (v := (.bool false)) I I I) <| Z1l (by kernel_rfl) I <| Ze ?_
        refine Z12 (b := false) I (fun hc => ?_) (fun hc => ?_)
        ·cases hc
        refine AWp.exit <| At.thru ?_
        exact Zw (st' := ⟨[(0, (.sl 10 (a0.map Z3) false)), (3, (.vs 3)), (4, (.int .i64 v1)), (5, (.int .i64 v10))], [(3, (.vec 10 (List.map Z3 v2)))]⟩) ⟨rfl, rfl, rfl, rfl, trivial⟩ ⟨rfl, trivial⟩ (J11 v10 h)
   ·have h := hif.2 hc
    refine AWp.exit <| At.thru ?_
    exact Zw (st' := ⟨[(3, (.vs 3))], [(3, (.vec 10 (List.map Z3 v2)))]⟩) ⟨rfl, trivial⟩ ⟨rfl, trivial⟩ (J3 v2 h)
end Go.AM.Msg
