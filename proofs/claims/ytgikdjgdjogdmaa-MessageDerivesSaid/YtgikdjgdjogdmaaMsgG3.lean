/- What these functions compute, each with its walk: F20. -/
import Derived.Test.YtgikdjgdjogdmaaMsgT
import Derived.Test.YtgikdjgdjogdmaaMsgG2
namespace Go.AM.Msg
open Go Go.AM Go.Proofs
set_option maxRecDepth 100000
set_option maxHeartbeats 2000000
def F20_c5 (K : Nat) (v4 : (List Zb)) : Option ((List Zb)) :=
 some v4
def F20_j9 (K : Nat) (b7 : Int → (List Zb) → Option ((List Zb))) (v1 : Int) (v8 : (List Zb)) : Option ((List Zb)) :=
 b7 (IntKind.i64.wrap (v1 + 1)) v8
def F20_j30 (K : Nat) (b7 : Int → (List Zb) → Option ((List Zb))) (v1 : Int) (v29 : (List Zb)) : Option ((List Zb)) :=
 F20_j9 K b7 v1 v29
def F20_c13 (K : Nat) (v2 : (List Zb)) (v1 : Int) (a0 : (List Zb)) (b7 : Int → (List Zb) → Option ((List Zb))) (v12 : Int) : Option ((List Zb)) :=
 if (v12 == (v2.length : Int)) = true then
  if (0 : Int) ≤ v12 ∧ v12 ≤ (v2.length : Nat) then
   if (0 : Int) ≤ v1 ∧ v1 < a0.length then
    if (0 : Int) ≤ v12 ∧ v12 ≤ (v2.length : Int) ∧ (v2.length : Int) ≤ (v2.length : Nat) then
     if (0 + v12.toNat) + ((v2.length : Int).toNat - v12.toNat) ≤ v2.length then
      if (0 + v12.toNat) + ((v2.length : Int).toNat - v12.toNat) ≤ v2.length then
       if [(a0.getD v1.toNat Z8)].length + ((v2.drop (0 + v12.toNat)).take ((v2.length : Int).toNat - v12.toNat)).length ≤ 1073741824 then
        if 0 + v12.toNat ≤ v2.length then
         if ((v2.drop 0).take v12.toNat).length + ([(a0.getD v1.toNat Z8)] ++ ((v2.drop (0 + v12.toNat)).take ((v2.length : Int).toNat - v12.toNat))).length ≤ 1073741824 then
          if ([(a0.getD v1.toNat Z8)] ++ ((v2.drop (0 + v12.toNat)).take ((v2.length : Int).toNat - v12.toNat))) ≠ [] then
           F20_j9 K b7 v1 (((v2.drop 0).take v12.toNat) ++ ([(a0.getD v1.toNat Z8)] ++ ((v2.drop (0 + v12.toNat)).take ((v2.length : Int).toNat - v12.toNat))))
          else none
         else none
        else none
       else none
      else none
     else none
    else none
   else none
  else none
 else
  if (0 : Int) ≤ v12 ∧ v12 < (v2.length : Nat) then
   if v12.toNat < v2.length then
    if (0 : Int) ≤ v1 ∧ v1 < a0.length then
     (F17 K (v2.getD v12.toNat Z8) (a0.getD v1.toNat Z8)).bind fun v28 =>
      if (v28 != 0) = true then
       if (0 : Int) ≤ v12 ∧ v12 ≤ (v2.length : Nat) then
        if (0 : Int) ≤ v1 ∧ v1 < a0.length then
         if (0 : Int) ≤ v12 ∧ v12 ≤ (v2.length : Int) ∧ (v2.length : Int) ≤ (v2.length : Nat) then
          if (0 + v12.toNat) + ((v2.length : Int).toNat - v12.toNat) ≤ v2.length then
           if (0 + v12.toNat) + ((v2.length : Int).toNat - v12.toNat) ≤ v2.length then
            if [(a0.getD v1.toNat Z8)].length + ((v2.drop (0 + v12.toNat)).take ((v2.length : Int).toNat - v12.toNat)).length ≤ 1073741824 then
             if 0 + v12.toNat ≤ v2.length then
              if ((v2.drop 0).take v12.toNat).length + ([(a0.getD v1.toNat Z8)] ++ ((v2.drop (0 + v12.toNat)).take ((v2.length : Int).toNat - v12.toNat))).length ≤ 1073741824 then
               if ([(a0.getD v1.toNat Z8)] ++ ((v2.drop (0 + v12.toNat)).take ((v2.length : Int).toNat - v12.toNat))) ≠ [] then
                F20_j30 K b7 v1 (((v2.drop 0).take v12.toNat) ++ ([(a0.getD v1.toNat Z8)] ++ ((v2.drop (0 + v12.toNat)).take ((v2.length : Int).toNat - v12.toNat))))
               else none
              else none
             else none
            else none
           else none
          else none
         else none
        else none
       else none
      else
       F20_j30 K b7 v1 v2
    else none
   else none
  else none
def F20_l11 (K : Nat) (v2 : (List Zb)) (v1 : Int) (a0 : (List Zb)) (c14 : Int → Option ((List Zb))) : Nat → Int → Option ((List Zb))
 | 0, _ => none
 | k11 + 1, v10 =>
  if (decide (v10 < (v2.length : Int))) = true then
   if (0 : Int) ≤ v10 ∧ v10 < (v2.length : Nat) then
    if v10.toNat < v2.length then
     if (0 : Int) ≤ v1 ∧ v1 < a0.length then
      (F17 K (v2.getD v10.toNat Z8) (a0.getD v1.toNat Z8)).bind fun v45 =>
       if (decide (v45 < 0)) = true then
        (F20_l11 K v2 v1 a0 c14 k11) (IntKind.i64.wrap (v10 + 1))
       else
        c14 v10
     else none
    else none
   else none
  else
   c14 v10
def F20_l3 (K : Nat) (a0 : (List Zb)) (c6 : (List Zb) → Option ((List Zb))) : Nat → Int → (List Zb) → Option ((List Zb))
 | 0, _, _ => none
 | k3 + 1, v1, v2 =>
  if (decide (v1 < (a0.length : Int))) = true then
   F20_l11 K v2 v1 a0 (F20_c13 K v2 v1 a0 (F20_l3 K a0 c6 k3)) K 0
  else
   c6 v2
def F20 (K : Nat) (a0 : (List Zb)) : Option ((List Zb)) :=
 F20_l3 K a0 (F20_c5 K) K 0 []
theorem F20_ok (K : Nat) (a0 : (List Zb)) (r : (List Zb)) (h : F20 K a0 = some r) : ACall P 20 ⟨[(.sl 10 (a0.map Z6) false)], [], (.sl 10 (r.map Z6) false), [], []⟩ := by
 refine Z1t Try.func20 Try.results20 rfl Try.ntmps20 rfl rfl rfl ?_
 intro E Q hP hN hro hret
 obtain ⟨P', nt', w0, F0, p0, S0, β0, ro0⟩ := E
 simp only at hP hN
 subst hP hN
 dsimp only [argT]
 unfold F20 at h
 refine Zh <| Zc <| Z2 I (Zj (v := (.sl 10 [] false)) I I) I <| Zf <| Zg <| Zh <| Zc <| Z2 I (Zj (v := (.sl 10 [] true)) I I) I ?_
 refine Zf <| Zg <| Zh <| Zh <| Zc <| Z2 I (Zj (v := (.int .i64 0)) I I) I <| Zf <| Zg ?_
 refine AWp.ghost (st' := ⟨[(0, (.sl 10 (a0.map Z6) false)), (3, (.vs 3)), (4, (.int .i64 0))], [(3, (.vec 10 (List.map Z6 ([] : List Zb))))]⟩) (fun a w h => (Z1a ⟨[(0, (.sl 10 (a0.map Z6) false)), (3, (.vs 3)), (4, (.int .i64 0))], [(3, (.vec 10 (List.map Z6 ([] : List Zb))))]⟩ (ghost_own (k := 3) (m := 3) (sz := 10) I I a w (Z1a ⟨[(3, (.sl 10 [] true)), (0, (.sl 10 (a0.map Z6) false)), (4, (.int .i64 0))], []⟩ h ⟨rfl, rfl, rfl, trivial⟩ trivial)) ⟨rfl, rfl, rfl, trivial⟩ ⟨rfl, trivial⟩)) <| Z1x (st' := ⟨[(0, (.sl 10 (a0.map Z6) false)), (3, (.vs 3)), (4, (.int .i64 0))], [(3, (.vec 10 (List.map Z6 [])))]⟩) ⟨rfl, rfl, rfl, trivial⟩ ⟨rfl, trivial⟩ ?_
 refine Z1j (V := Int × (List Zb)) (X := (List Zb)) (lp := fun k v => F20_l3 K a0 (F20_c5 K) k v.1 v.2 = some r) (sh := fun v => ⟨[(0, (.sl 10 (a0.map Z6) false)), (3, (.vs 3)), (4, (.int .i64 v.1))], [(3, (.vec 10 (List.map Z6 v.2)))]⟩) (x := fun v => F20_c5 K v = some r) (shx := fun v => ⟨[(3, (.vs 3))], [(3, (.vec 10 (List.map Z6 v)))]⟩) (k := K) (v := (0, [])) h ?_ ?_
 ·intro v h
  revert h
  revert v
  intro v4 h
  try dsimp only at h ⊢
  unfold F20_c5 at h
  refine Zg <| Zh <| Zc <| Z2 I (Zi (v := (.vs 3)) I I) I <| Z2 I (Zj (v := (.vs 3)) I I) I <| Zf <| Zg <| Z1e ?_
  refine At.ghost (st' := ⟨[(2, (.sl 10 (v4.map Z6) false))], []⟩) (fun a w h => (Z1a ⟨[(2, (.sl 10 (v4.map Z6) false))], []⟩ (ghost_freeze (m := 3) (sz := 10) (es := (List.map Z6 v4)) a w (Z1a ⟨[(2, (.vs 3))], [(3, (.vec 10 (List.map Z6 v4)))]⟩ h ⟨rfl, trivial⟩ ⟨rfl, trivial⟩)) ⟨rfl, trivial⟩ trivial)) ?_
  have h := Option.some.inj h
  subst h
  refine (hret _ ?_).1
  exact ⟨[(.sl 10 (v4.map Z6) false)], ⟨rfl, trivial⟩, rfl, trivial⟩
 ·intro N k3 v h IH3 J3
  obtain ⟨v1, v2⟩ := v
  try dsimp only at h IH3 J3 ⊢
  cases k3 with
  | zero => cases h
  | succ k3 =>
   rw [F20_l3] at h
   refine Zh <| Zh <| Zc <| Z2 I (Zi (v := (.int .i64 v1)) I I) I <| Z2 I (Zi (v := (.sl 10 (a0.map Z6) false)) I I) I <| Z2 I (stx_len (l := a0) (enc := Z6) I s29 I) I <| Z2 I (Z1o (k := .i64) (a := v1) (b := (a0.length : Int)) (c := (decide (v1 < (a0.length : Int)))) I I I I) I <| Zf ?_
   refine Zg ?_
   have hif := Z1u h
   refine Z16 I (fun hc => ?_) (fun hc => ?_)
   ·have h := hif.1 hc
    refine Z18 <| Zg <| Zh ?_
    refine AWp.blockJoin (V := (List Zb)) (lp := fun v => F20_j9 K (F20_l3 K a0 (F20_c5 K) k3) v1 v = some r) (sh := fun v => ⟨[(0, (.sl 10 (a0.map Z6) false)), (3, (.vs 3)), (4, (.int .i64 v1))], [(3, (.vec 10 (List.map Z6 v)))]⟩) ?_ ?_
    ·intro v h
     revert h
     revert v
     intro v8 h
     try dsimp only at h ⊢
     unfold F20_j9 at h
     refine Zg <| Zc <| Z2 I (Zi (v := (.int .i64 v1)) I I) I <| Z2 I (Z1h (k := .i64) (a := v1) (b := 1) (c := (IntKind.i64.wrap (v1 + 1))) I I I I) I <| Z2 I (Zj (v := (.int .i64 (IntKind.i64.wrap (v1 + 1)))) I I) I <| Zf ?_
     exact Zw (st' := ⟨[(0, (.sl 10 (a0.map Z6) false)), (3, (.vs 3)), (4, (.int .i64 (IntKind.i64.wrap (v1 + 1))))], [(3, (.vec 10 (List.map Z6 v8)))]⟩) ⟨rfl, rfl, rfl, trivial⟩ ⟨rfl, trivial⟩ (IH3 _ ((IntKind.i64.wrap (v1 + 1)), v8) (Nat.lt_succ_self _) h)
    ·intro J9
     refine Zh <| Zc <| Z2 I (Zj (v := (.int .i64 0)) I I) I <| Zf <| Zg <| Zh <| Z1x (st' := ⟨[(0, (.sl 10 (a0.map Z6) false)), (3, (.vs 3)), (4, (.int .i64 v1)), (5, (.int .i64 0))], [(3, (.vec 10 (List.map Z6 v2)))]⟩) ⟨rfl, rfl, rfl, rfl, trivial⟩ ⟨rfl, trivial⟩ ?_
     refine Z1j (V := Int) (X := Int) (lp := fun k v => F20_l11 K v2 v1 a0 (F20_c13 K v2 v1 a0 (F20_l3 K a0 (F20_c5 K) k3)) k v = some r) (sh := fun v => ⟨[(0, (.sl 10 (a0.map Z6) false)), (3, (.vs 3)), (4, (.int .i64 v1)), (5, (.int .i64 v))], [(3, (.vec 10 (List.map Z6 v2)))]⟩) (x := fun v => F20_c13 K v2 v1 a0 (F20_l3 K a0 (F20_c5 K) k3) v = some r) (shx := fun v => ⟨[(0, (.sl 10 (a0.map Z6) false)), (3, (.vs 3)), (4, (.int .i64 v1)), (5, (.int .i64 v))], [(3, (.vec 10 (List.map Z6 v2)))]⟩) (k := K) (v := 0) h ?_ ?_
     ·intro v h
      revert h
      revert v
      intro v12 h
      try dsimp only at h ⊢
      unfold F20_c13 at h
      refine Zg <| Zh <| Z1s mixed <| Z7 0 I (Zi (v := (.int .i64 v12)) I I) <| Z7 1 I (Zi (v := (.vs 3)) I I) <| Z7 2 I (stx_lenV (l := v2) (enc := Z6) I u29 I I) <| Z7 3 I (Z1o (k := .i64) (a := v12) (b := (v2.length : Int)) (c := (v12 == (v2.length : Int))) I I I I) <| Z7 4 I (Zi (v := (.bool (v12 == (v2.length : Int)))) I I) ?_
      have hif := Z1u h
      refine AOpsD.split (fun hc => ?_) (fun hc => ?_)
      ·have h := hif.1 hc
       refine Zx 5 I I I I I I I <| Zx 6 I I I I I I I <| Zx 7 I I I I I I I <| Zx 8 I I I I I I I <| Zx 9 I I I I I I I <| Zx 10 I I I I I I I <| Zx 11 I I I I I I I <| Zx 12 I I I I I I I ?_
       refine Zx 13 I I I I I I I <| Zx 14 I I I I I I I <| Z7 15 I (st_pickT (v := (.bool true)) I I I) <| Z1v (by kernel_rfl) I <| Zg ?_
       refine Z16 (b := true) I (fun hc => ?_) (fun hc => ?_)
       rotate_left
       ·cases hc
       refine Z1s mixed <| Z7 0 I (Zi (v := (.vs 3)) I I) <| Z7 1 I (Zi (v := (.int .i64 v12)) I I) <| Z7 2 I (Zi (v := (.int .i64 v12)) I I) ?_
       have ⟨hg15, h⟩ := Z10 h
       refine Z7 3 I (stx_slice3V (kh := .i64) (v := (.vs 3)) (n := 3) (off := 0) (len := v2.length) (l := v2) (enc := Z6) (h := v12) I s29 I I (vecR_map _ _ _) I I hg15) <| Z7 4 I (Zi (v := (.sl 10 (a0.map Z6) false)) I I) <| Z7 5 I (Zi (v := (.int .i64 v1)) I I) ?_
       have ⟨hg16, h⟩ := Z10 h
       refine Z7 6 I (Z1r (k := .i64) (l := a0) (enc := Z6) (z := Z8) (n := v1) (cs := (Z6 (a0.getD v1.toNat Z8)).cells) (full := false) I s29 I I hg16 I) <| Z7 7 I (st_loadIA (cs := (Z6 (a0.getD v1.toNat Z8)).cells) (vs := (Z6 (a0.getD v1.toNat Z8)).cells) I a25 I I I) <| Z7 8 I (Z1f (vs := [(Z6 (a0.getD v1.toNat Z8))]) (enc := Z6) (l := [(a0.getD v1.toNat Z8)]) I el29 I I ⟨rfl, trivial⟩ I Z1n I I I I) <| Z7 9 I (Zi (v := (.vs 3)) I I) <| Z7 10 I (Zi (v := (.int .i64 v12)) I I) ?_
       have ⟨hg17, h⟩ := Z10 h
       have ⟨hg18, h⟩ := Z10 h
       refine Z7 11 I (stx_sliceVL (v := (.vs 3)) (n := 3) (off := 0) (len := v2.length) (l := v2) (enc := Z6) (kl := .i64) (lo := v12) I s29 I I (vecR_map _ _ _) I hg17 I) ?_
       have ⟨hg19, h⟩ := Z10 h
       have ⟨hg20, h⟩ := Z10 h
       refine Z7 12 I (st_append (m := 54) (enc := Z6) (l := [(a0.getD v1.toNat Z8)]) (l' := ((v2.drop (0 + v12.toNat)).take ((v2.length : Int).toNat - v12.toNat))) (src := (.vsub 3 (0 + v12.toNat) ((v2.length : Int).toNat - v12.toNat) false)) (rd := [(3, (.vec 10 (List.map Z6 v2)))]) I I el29 I u29 I I I (srcR_vsub hg19) (oneRead I) Z1n hg20) ?_
       have ⟨hg21, h⟩ := Z10 h
       have ⟨hg22, h⟩ := Z10 h
       have ⟨hg23, h⟩ := Z10 h
       refine Z7 13 I (st_appendNew (enc := Z6) (l := ((v2.drop 0).take v12.toNat)) (l' := ([(a0.getD v1.toNat Z8)] ++ ((v2.drop (0 + v12.toNat)).take ((v2.length : Int).toNat - v12.toNat)))) (dst := (.vsub 3 0 v12.toNat true)) (src := (.vs 54)) (rd := [(3, (.vec 10 (List.map Z6 v2)))]) (rd' := [(54, (.vec 10 (List.map Z6 ([(a0.getD v1.toNat Z8)] ++ ((v2.drop (0 + v12.toNat)).take ((v2.length : Int).toNat - v12.toNat))))))]) I el29 I u29 I (srcR_vsub hg21) I (oneRead I) I I (oneRead I) Z1n hg22 (.inr hg23)) <| Z7 14 I (Zj (v := (.vs 59)) I I) <| Z1v (by kernel_rfl) I <| At.end <| At.ghost (st' := ⟨[(0, (.sl 10 (a0.map Z6) false)), (3, (.vs 3)), (4, (.int .i64 v1))], [(3, (.vec 10 (List.map Z6 (((v2.drop 0).take v12.toNat) ++ ([(a0.getD v1.toNat Z8)] ++ ((v2.drop (0 + v12.toNat)).take ((v2.length : Int).toNat - v12.toNat)))))))]⟩) (fun a w h => (Z1a ⟨[(0, (.sl 10 (a0.map Z6) false)), (3, (.vs 3)), (4, (.int .i64 v1))], [(3, (.vec 10 (List.map Z6 (((v2.drop 0).take v12.toNat) ++ ([(a0.getD v1.toNat Z8)] ++ ((v2.drop (0 + v12.toNat)).take ((v2.length : Int).toNat - v12.toNat)))))))]⟩ (ghost_sw (a := 59) (b := 3) I I a w (Z1a ⟨[(0, (.sl 10 (a0.map Z6) false)), (3, (.vs 59)), (4, (.int .i64 v1))], [(59, (.vec 10 (List.map Z6 (((v2.drop 0).take v12.toNat) ++ ([(a0.getD v1.toNat Z8)] ++ ((v2.drop (0 + v12.toNat)).take ((v2.length : Int).toNat - v12.toNat)))))))]⟩ h ⟨rfl, rfl, rfl, trivial⟩ ⟨rfl, trivial⟩)) ⟨rfl, rfl, rfl, trivial⟩ ⟨rfl, trivial⟩)) ?_
       exact Zw (st' := ⟨[(0, (.sl 10 (a0.map Z6) false)), (3, (.vs 3)), (4, (.int .i64 v1))], [(3, (.vec 10 (List.map Z6 (((v2.drop 0).take v12.toNat) ++ ([(a0.getD v1.toNat Z8)] ++ ((v2.drop (0 + v12.toNat)).take ((v2.length : Int).toNat - v12.toNat)))))))]⟩) ⟨rfl, rfl, rfl, trivial⟩ ⟨rfl, trivial⟩ (J9 (((v2.drop 0).take v12.toNat) ++ ([(a0.getD v1.toNat Z8)] ++ ((v2.drop (0 + v12.toNat)).take ((v2.length : Int).toNat - v12.toNat)))) h)
      ·have h := hif.2 hc
       refine Z12 5 I I I I (Zi (v := (.vs 3)) I I) <| Z12 6 I I I I (Zi (v := (.int .i64 v12)) I I) ?_
       have ⟨hg24, h⟩ := Z10 h
       refine Z12 7 I I I I (st_indexV (k := .i64) (v := (.vs 3)) (n := 3) (off := 0) (len := v2.length) (es := (List.map Z6 v2)) (j := v12) (m := v12.toNat) I s29 I I (vecR_map _ _ _) I hg24 (Nat.zero_add _)) ?_
       have ⟨hg25, h⟩ := Z10 h
       refine Z12 8 I I I I (st_loadVA (l := v2) (enc := Z6) (z := Z8) (vs := (Z6 (v2.getD v12.toNat Z8)).cells) I a25 I I hg25 I I) <| Z12 9 I I I I (Zi (v := (.sl 10 (a0.map Z6) false)) I I) <| Z12 10 I I I I (Zi (v := (.int .i64 v1)) I I) ?_
       have ⟨hg26, h⟩ := Z10 h
       refine Z12 11 I I I I (Z1r (k := .i64) (l := a0) (enc := Z6) (z := Z8) (n := v1) (cs := (Z6 (a0.getD v1.toNat Z8)).cells) (full := false) I s29 I I hg26 I) <| Z12 12 I I I I (st_loadIA (cs := (Z6 (a0.getD v1.toNat Z8)).cells) (vs := (Z6 (a0.getD v1.toNat Z8)).cells) I a25 I I I) ?_
       have ⟨v28, hv28, h⟩ := Z19 h
       refine Z12 13 I I I I (Z17 (ar := [(Z6 (v2.getD v12.toNat Z8)), (Z6 (a0.getD v1.toNat Z8))]) (caps := []) Try.call17 (F17_ok K (v2.getD v12.toNat Z8) (a0.getD v1.toNat Z8) v28 hv28) I I ⟨rfl, rfl, trivial⟩ I) <| Z12 14 I I I I (Z1o (k := .i64) (a := v28) (b := 0) (c := (v28 != 0)) I I I I) <| Z7 15 I (Z1p (v := (.bool (v28 != 0))) I I I) <| Z1v (by kernel_rfl) I <| Zg ?_
       refine AWp.join (V := (List Zb)) (lp := fun v => F20_j30 K (F20_l3 K a0 (F20_c5 K) k3) v1 v = some r) (sh := fun v => ⟨[(0, (.sl 10 (a0.map Z6) false)), (3, (.vs 3)), (4, (.int .i64 v1))], [(3, (.vec 10 (List.map Z6 v)))]⟩) ?_ ?_
       ·intro v h
        revert h
        revert v
        intro v29 h
        try dsimp only at h ⊢
        unfold F20_j30 at h
        refine At.end ?_
        exact Zw (st' := ⟨[(0, (.sl 10 (a0.map Z6) false)), (3, (.vs 3)), (4, (.int .i64 v1))], [(3, (.vec 10 (List.map Z6 v29)))]⟩) ⟨rfl, rfl, rfl, trivial⟩ ⟨rfl, trivial⟩ (J9 v29 h)
       ·intro J30
        have hif := Z1u h
        refine Z16 I (fun hc => ?_) (fun hc => ?_)
        ·have h := hif.1 hc
         refine Z1s mixed <| Z7 0 I (Zi (v := (.vs 3)) I I) <| Z7 1 I (Zi (v := (.int .i64 v12)) I I) <| Z7 2 I (Zi (v := (.int .i64 v12)) I I) ?_
         have ⟨hg31, h⟩ := Z10 h
         refine Z7 3 I (stx_slice3V (kh := .i64) (v := (.vs 3)) (n := 3) (off := 0) (len := v2.length) (l := v2) (enc := Z6) (h := v12) I s29 I I (vecR_map _ _ _) I I hg31) <| Z7 4 I (Zi (v := (.sl 10 (a0.map Z6) false)) I I) <| Z7 5 I (Zi (v := (.int .i64 v1)) I I) ?_
         have ⟨hg32, h⟩ := Z10 h
         refine Z7 6 I (Z1r (k := .i64) (l := a0) (enc := Z6) (z := Z8) (n := v1) (cs := (Z6 (a0.getD v1.toNat Z8)).cells) (full := false) I s29 I I hg32 I) <| Z7 7 I (st_loadIA (cs := (Z6 (a0.getD v1.toNat Z8)).cells) (vs := (Z6 (a0.getD v1.toNat Z8)).cells) I a25 I I I) <| Z7 8 I (Z1f (vs := [(Z6 (a0.getD v1.toNat Z8))]) (enc := Z6) (l := [(a0.getD v1.toNat Z8)]) I el29 I I ⟨rfl, trivial⟩ I Z1n I I I I) <| Z7 9 I (Zi (v := (.vs 3)) I I) <| Z7 10 I (Zi (v := (.int .i64 v12)) I I) ?_
         have ⟨hg33, h⟩ := Z10 h
         have ⟨hg34, h⟩ := Z10 h
         refine Z7 11 I (stx_sliceVL (v := (.vs 3)) (n := 3) (off := 0) (len := v2.length) (l := v2) (enc := Z6) (kl := .i64) (lo := v12) I s29 I I (vecR_map _ _ _) I hg33 I) ?_
         have ⟨hg35, h⟩ := Z10 h
         have ⟨hg36, h⟩ := Z10 h
         refine Z7 12 I (st_append (m := 54) (enc := Z6) (l := [(a0.getD v1.toNat Z8)]) (l' := ((v2.drop (0 + v12.toNat)).take ((v2.length : Int).toNat - v12.toNat))) (src := (.vsub 3 (0 + v12.toNat) ((v2.length : Int).toNat - v12.toNat) false)) (rd := [(3, (.vec 10 (List.map Z6 v2)))]) I I el29 I u29 I I I (srcR_vsub hg35) (oneRead I) Z1n hg36) ?_
         have ⟨hg37, h⟩ := Z10 h
         have ⟨hg38, h⟩ := Z10 h
         have ⟨hg39, h⟩ := Z10 h
         refine Z7 13 I (st_appendNew (enc := Z6) (l := ((v2.drop 0).take v12.toNat)) (l' := ([(a0.getD v1.toNat Z8)] ++ ((v2.drop (0 + v12.toNat)).take ((v2.length : Int).toNat - v12.toNat)))) (dst := (.vsub 3 0 v12.toNat true)) (src := (.vs 54)) (rd := [(3, (.vec 10 (List.map Z6 v2)))]) (rd' := [(54, (.vec 10 (List.map Z6 ([(a0.getD v1.toNat Z8)] ++ ((v2.drop (0 + v12.toNat)).take ((v2.length : Int).toNat - v12.toNat))))))]) I el29 I u29 I (srcR_vsub hg37) I (oneRead I) I I (oneRead I) Z1n hg38 (.inr hg39)) <| Z7 14 I (Zj (v := (.vs 59)) I I) <| Z1v (by kernel_rfl) I <| At.ghost (st' := ⟨[(0, (.sl 10 (a0.map Z6) false)), (3, (.vs 3)), (4, (.int .i64 v1))], [(3, (.vec 10 (List.map Z6 (((v2.drop 0).take v12.toNat) ++ ([(a0.getD v1.toNat Z8)] ++ ((v2.drop (0 + v12.toNat)).take ((v2.length : Int).toNat - v12.toNat)))))))]⟩) (fun a w h => (Z1a ⟨[(0, (.sl 10 (a0.map Z6) false)), (3, (.vs 3)), (4, (.int .i64 v1))], [(3, (.vec 10 (List.map Z6 (((v2.drop 0).take v12.toNat) ++ ([(a0.getD v1.toNat Z8)] ++ ((v2.drop (0 + v12.toNat)).take ((v2.length : Int).toNat - v12.toNat)))))))]⟩ (ghost_sw (a := 59) (b := 3) I I a w (Z1a ⟨[(0, (.sl 10 (a0.map Z6) false)), (3, (.vs 59)), (4, (.int .i64 v1))], [(59, (.vec 10 (List.map Z6 (((v2.drop 0).take v12.toNat) ++ ([(a0.getD v1.toNat Z8)] ++ ((v2.drop (0 + v12.toNat)).take ((v2.length : Int).toNat - v12.toNat)))))))]⟩ h ⟨rfl, rfl, rfl, trivial⟩ ⟨rfl, trivial⟩)) ⟨rfl, rfl, rfl, trivial⟩ ⟨rfl, trivial⟩)) ?_
         exact Zw (st' := ⟨[(0, (.sl 10 (a0.map Z6) false)), (3, (.vs 3)), (4, (.int .i64 v1))], [(3, (.vec 10 (List.map Z6 (((v2.drop 0).take v12.toNat) ++ ([(a0.getD v1.toNat Z8)] ++ ((v2.drop (0 + v12.toNat)).take ((v2.length : Int).toNat - v12.toNat)))))))]⟩) ⟨rfl, rfl, rfl, trivial⟩ ⟨rfl, trivial⟩ (J30 (((v2.drop 0).take v12.toNat) ++ ([(a0.getD v1.toNat Z8)] ++ ((v2.drop (0 + v12.toNat)).take ((v2.length : Int).toNat - v12.toNat)))) h)
        ·have h := hif.2 hc
         refine Z18 ?_
         exact Zw (st' := ⟨[(0, (.sl 10 (a0.map Z6) false)), (3, (.vs 3)), (4, (.int .i64 v1))], [(3, (.vec 10 (List.map Z6 v2)))]⟩) ⟨rfl, rfl, rfl, trivial⟩ ⟨rfl, trivial⟩ (J30 v2 h)
     ·intro N k11 v h IH11 J11
      revert h
      revert v
      intro v10 h
      try dsimp only at h IH11 J11 ⊢
      cases k11 with
      | zero => cases h
      | succ k11 =>
       rw [F20_l11] at h
       refine Zh <| Zh <| Z1s mixed <| Z7 0 I (Zi (v := (.int .i64 v10)) I I) <| Z7 1 I (Zi (v := (.vs 3)) I I) <| Z7 2 I (stx_lenV (l := v2) (enc := Z6) I u29 I I) <| Z7 3 I (Z1o (k := .i64) (a := v10) (b := (v2.length : Int)) (c := (decide (v10 < (v2.length : Int)))) I I I I) <| Z7 4 I (Zi (v := (.bool (decide (v10 < (v2.length : Int))))) I I) ?_
       have hif := Z1u h
       refine AOpsD.split (fun hc => ?_) (fun hc => ?_)
       ·have h := hif.1 hc
        refine Z12 5 I I I I (Zi (v := (.vs 3)) I I) <| Z12 6 I I I I (Zi (v := (.int .i64 v10)) I I) ?_
        have ⟨hg41, h⟩ := Z10 h
        refine Z12 7 I I I I (st_indexV (k := .i64) (v := (.vs 3)) (n := 3) (off := 0) (len := v2.length) (es := (List.map Z6 v2)) (j := v10) (m := v10.toNat) I s29 I I (vecR_map _ _ _) I hg41 (Nat.zero_add _)) ?_
        have ⟨hg42, h⟩ := Z10 h
        refine Z12 8 I I I I (st_loadVA (l := v2) (enc := Z6) (z := Z8) (vs := (Z6 (v2.getD v10.toNat Z8)).cells) I a25 I I hg42 I I) <| Z12 9 I I I I (Zi (v := (.sl 10 (a0.map Z6) false)) I I) <| Z12 10 I I I I (Zi (v := (.int .i64 v1)) I I) ?_
        have ⟨hg43, h⟩ := Z10 h
        refine Z12 11 I I I I (Z1r (k := .i64) (l := a0) (enc := Z6) (z := Z8) (n := v1) (cs := (Z6 (a0.getD v1.toNat Z8)).cells) (full := false) I s29 I I hg43 I) <| Z12 12 I I I I (st_loadIA (cs := (Z6 (a0.getD v1.toNat Z8)).cells) (vs := (Z6 (a0.getD v1.toNat Z8)).cells) I a25 I I I) ?_
        have ⟨v45, hv45, h⟩ := Z19 h
        refine Z12 13 I I I I (Z17 (ar := [(Z6 (v2.getD v10.toNat Z8)), (Z6 (a0.getD v1.toNat Z8))]) (caps := []) Try.call17 (F17_ok K (v2.getD v10.toNat Z8) (a0.getD v1.toNat Z8) v45 hv45) I I ⟨rfl, rfl, trivial⟩ I) <| Z12 14 I I I I (Z1o (k := .i64) (a := v45) (b := 0) (c := (decide (v45 < 0))) I I I I) <| Z7 15 I (st_pickT (v := (.bool (decide (v45 < 0)))) I I I) <| Z1v (by kernel_rfl) I <| Zg ?_
        have hif := Z1u h
        refine Z16 I (fun hc => ?_) (fun hc => ?_)
        ·have h := hif.1 hc
         refine Z18 <| Zg <| AWp.block <| Zc <| Z2 I (Zi (v := (.int .i64 v10)) I I) I <| Z2 I (Z1h (k := .i64) (a := v10) (b := 1) (c := (IntKind.i64.wrap (v10 + 1))) I I I I) I <| Z2 I (Zj (v := (.int .i64 (IntKind.i64.wrap (v10 + 1)))) I I) I <| Zf ?_
         refine At.end ?_
         exact Zw (st' := ⟨[(0, (.sl 10 (a0.map Z6) false)), (3, (.vs 3)), (4, (.int .i64 v1)), (5, (.int .i64 (IntKind.i64.wrap (v10 + 1))))], [(3, (.vec 10 (List.map Z6 v2)))]⟩) ⟨rfl, rfl, rfl, rfl, trivial⟩ ⟨rfl, trivial⟩ (IH11 _ (IntKind.i64.wrap (v10 + 1)) (Nat.lt_succ_self _) h)
        ·have h := hif.2 hc
         refine AWp.exit <| At.thru ?_
         exact Zw (st' := ⟨[(0, (.sl 10 (a0.map Z6) false)), (3, (.vs 3)), (4, (.int .i64 v1)), (5, (.int .i64 v10))], [(3, (.vec 10 (List.map Z6 v2)))]⟩) ⟨rfl, rfl, rfl, rfl, trivial⟩ ⟨rfl, trivial⟩ (J11 v10 h)
       ·have h := hif.2 hc
        refine Zx 5 I I I I I I I <| Zx 6 I I I I I I I <| Zx 7 I I I I I I I <| Zx 8 I I I I I I I <| Zx 9 I I I I I I I <| Zx 10 I I I I I I I <| Zx 11 I I I I I I I <| Zx 12 I I I I I I I ?_
        refine Zx 13 I I I I I I I <| Zx 14 I I I I I I I <| Z7 15 I (Z1p (v := (.bool false)) I I I) <| Z1v (by kernel_rfl) I <| Zg ?_
        refine Z16 (b := false) I (fun hc => ?_) (fun hc => ?_)
        ·cases hc
        refine AWp.exit <| At.thru ?_
        exact Zw (st' := ⟨[(0, (.sl 10 (a0.map Z6) false)), (3, (.vs 3)), (4, (.int .i64 v1)), (5, (.int .i64 v10))], [(3, (.vec 10 (List.map Z6 v2)))]⟩) ⟨rfl, rfl, rfl, rfl, trivial⟩ ⟨rfl, trivial⟩ (J11 v10 h)
   ·have h := hif.2 hc
    refine AWp.exit <| At.thru ?_
    exact Zw (st' := ⟨[(3, (.vs 3))], [(3, (.vec 10 (List.map Z6 v2)))]⟩) ⟨rfl, trivial⟩ ⟨rfl, trivial⟩ (J3 v2 h)
end Go.AM.Msg
