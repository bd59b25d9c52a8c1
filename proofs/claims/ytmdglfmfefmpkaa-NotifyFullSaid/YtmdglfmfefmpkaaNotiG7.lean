/- What these functions compute, each with its walk: F44, F15. -/
import Derived.Test.YtmdglfmfefmpkaaNotiT
import Derived.Test.YtmdglfmfefmpkaaNotiG6
namespace Go.AM.Noti
open Go Go.AM Go.Proofs
set_option maxRecDepth 100000
set_option maxHeartbeats 2000000
def F44_c4 (_K : Nat) (a0 : (List Str)) (a1 : Str) (v3 : Int) : Option ((List Str)) :=
 if (decide (v3 < (a0.length : Int))) = true then
 if (0 : Int) ≤ v3 ∧ v3 < (a0.length : Nat) then
 if v3.toNat < a0.length then
 if ((a0.getD v3.toNat []) == a1) = true then
 some a0
 else
 if (0 : Int) ≤ v3 ∧ v3 ≤ (a0.length : Nat) then
 if (0 : Int) ≤ v3 ∧ v3 ≤ (a0.length : Int) ∧ (a0.length : Int) ≤ (a0.length : Nat) then
 if (0 + v3.toNat) + ((a0.length : Int).toNat - v3.toNat) ≤ a0.length then
 if (0 + v3.toNat) + ((a0.length : Int).toNat - v3.toNat) ≤ a0.length then
 if [a1].length + ((a0.drop (0 + v3.toNat)).take ((a0.length : Int).toNat - v3.toNat)).length ≤ 1073741824 then
 if 0 + v3.toNat ≤ a0.length then
 if ((a0.drop 0).take v3.toNat).length + ([a1] ++ ((a0.drop (0 + v3.toNat)).take ((a0.length : Int).toNat - v3.toNat))).length ≤ 1073741824 then
 if ([a1] ++ ((a0.drop (0 + v3.toNat)).take ((a0.length : Int).toNat - v3.toNat))) ≠ [] then
 some (((a0.drop 0).take v3.toNat) ++ ([a1] ++ ((a0.drop (0 + v3.toNat)).take ((a0.length : Int).toNat - v3.toNat))))
 else none
 else none
 else none
 else none
 else none
 else none
 else none
 else none
 else none
 else none
 else
 if (0 : Int) ≤ v3 ∧ v3 ≤ (a0.length : Nat) then
 if (0 : Int) ≤ v3 ∧ v3 ≤ (a0.length : Int) ∧ (a0.length : Int) ≤ (a0.length : Nat) then
 if (0 + v3.toNat) + ((a0.length : Int).toNat - v3.toNat) ≤ a0.length then
 if (0 + v3.toNat) + ((a0.length : Int).toNat - v3.toNat) ≤ a0.length then
 if [a1].length + ((a0.drop (0 + v3.toNat)).take ((a0.length : Int).toNat - v3.toNat)).length ≤ 1073741824 then
 if 0 + v3.toNat ≤ a0.length then
 if ((a0.drop 0).take v3.toNat).length + ([a1] ++ ((a0.drop (0 + v3.toNat)).take ((a0.length : Int).toNat - v3.toNat))).length ≤ 1073741824 then
 if ([a1] ++ ((a0.drop (0 + v3.toNat)).take ((a0.length : Int).toNat - v3.toNat))) ≠ [] then
 some (((a0.drop 0).take v3.toNat) ++ ([a1] ++ ((a0.drop (0 + v3.toNat)).take ((a0.length : Int).toNat - v3.toNat))))
 else none
 else none
 else none
 else none
 else none
 else none
 else none
 else none
def F44_l2 (K : Nat) (a0 : (List Str)) (a1 : Str) (c5 : Int → Option ((List Str))) : Nat → Int → Option ((List Str))
 | 0, _ => none
 | k2 + 1, v1 =>
 if (decide (v1 < (a0.length : Int))) = true then
 if (0 : Int) ≤ v1 ∧ v1 < (a0.length : Nat) then
 if v1.toNat < a0.length then
 if (slt (a0.getD v1.toNat []) a1) = true then
 (F44_l2 K a0 a1 c5 k2) (IntKind.i64.wrap (v1 + 1))
 else
 c5 v1
 else none
 else none
 else
 c5 v1
def F44 (K : Nat) (a0 : (List Str)) (a1 : Str) : Option ((List Str)) :=
 F44_l2 K a0 a1 (F44_c4 K a0 a1) K 0
theorem F44_ok (K : Nat) (a0 : (List Str)) (a1 : Str) (r : (List Str)) (h : F44 K a0 a1 = some r) : ACall P 44 ⟨[(.vs 0), (.str a1)], [(0, .vec 1 (List.map Z1i a0))], .vs 0, [(0, .vec 1 (List.map Z1i r))], [0]⟩ := by
 refine Z1v Try.func44 Try.results44 rfl Try.ntmps44 rfl rfl rfl ?_
 intro E Q hP hN hro hret
 obtain ⟨P', nt', w0, F0, p0, S0, β0, ro0⟩ := E
 simp only at hP hN
 subst hP hN
 dsimp only [argT]
 unfold F44 at h
 refine Zb <| Z5 <| Z1 I (Zd (v := (.sl 1 [] true)) I I) I <| Z7 <| Z8 <| Zb <| Z5 <| Z1 I (Zd (v := (.int .i64 0)) I I) I <| Z7 <| Z8 <| Zb <| Z1r (st' := ⟨[(0, (.vs 0)), (1, (.str a1)), (5, (.int .i64 0))], [(0, (.vec 1 (List.map Z1i a0)))]⟩) ⟨I, I, I, J0⟩ ⟨I, J0⟩ ?_
 refine Z1o (V := Int) (X := Int) (lp := fun k v => F44_l2 K a0 a1 (F44_c4 K a0 a1) k v = some r) (sh := fun v => ⟨[(0, (.vs 0)), (1, (.str a1)), (5, (.int .i64 v))], [(0, (.vec 1 (List.map Z1i a0)))]⟩) (x := fun v => F44_c4 K a0 a1 v = some r) (shx := fun v => ⟨[(0, (.vs 0)), (1, (.str a1)), (5, (.int .i64 v))], [(0, (.vec 1 (List.map Z1i a0)))]⟩) (k := K) (v := 0) h ?_ ?_
 ·intro v h
  revert h
  revert v
  intro v3 h
  try dsimp only at h ⊢
  unfold F44_c4 at h
  refine Z8 <| Zb <| Zb <| Z5 <| Z1 I (Z9 I I) I <| Z1 I (Z9 I I) I <| Z1 I (stx_lenV I u36 I I) I <| Z1 I (Z1c (c := (decide (v3 < (a0.length : Int)))) I I I I) I <| Z1 I (Z9 I I) I ?_
  have hif := Z1h h
  refine Z16 (fun hc => ?_) (fun hc => ?_)
  ·have h := hif.1 hc
   refine Zc I I I I (Z9 I I) I <| Zc I I I I (Z9 I I) I ?_
   have ⟨hg6, h⟩ := Zw h
   refine Zc I I I I (Z32 (k := .i64) (v := (.vs 0)) (n := 0) (off := 0) (len := a0.length) (es := (List.map Z1i a0)) (j := v3) (m := v3.toNat) I s36 I I (Z31 _ _ _) I hg6 (Nat.zero_add _)) I ?_
   have ⟨hg7, h⟩ := Zw h
   refine Zc I I I I (Z3o (l := a0) (enc := Z1i) (z := []) (v := (.str (a0.getD v3.toNat []))) I o9 I I hg7 I) I <| Zc I I I I (Z9 I I) I <| Zc I I I I (Z2z (c := ((a0.getD v3.toNat []) == a1)) I I I I) I <| Z1 I (Z19 I I I) I <| Z7 <| Z8 ?_
   have hif := Z1h h
   refine Zq I (fun hc => ?_) (fun hc => ?_)
   ·have h := hif.1 hc
    refine Zb <| Z5 <| Z1 I (Z9 I I) I <| Z1 I (Zd I I) I <| Z7 <| Z8 <| Z1e <| Zx ?_
    have h := Option.some.inj h
    subst h
    refine (hret _ ?_).1
    exact ⟨[(.vs 0)], ⟨I, J0⟩, I, ⟨I, J0⟩⟩
   have h := hif.2 hc
   refine Z14 <| Z8 <| Zb <| Z1y mixed <| Za 0 I (Z9 I I) <| Za 1 I (Z9 I I) <| Za 2 I (Z9 I I) ?_
   have ⟨hg8, h⟩ := Zw h
   refine Za 3 I (stx_slice3V (kh := .i64) (v := (.vs 0)) (n := 0) (off := 0) (len := a0.length) (l := a0) (enc := Z1i) (h := v3) I s36 I I (Z31 _ _ _) I I hg8) <| Za 4 I (Z9 I I) <| Za 5 I (Z1m (vs := [(.str a1)]) (enc := Z1i) (l := [a1]) I el36 I I ⟨I, J0⟩ I Z39 I I I I) <| Za 6 I (Z9 I I) <| Za 7 I (Z9 I I) ?_
   have ⟨hg9, h⟩ := Zw h
   have ⟨hg10, h⟩ := Zw h
   refine Za 8 I (stx_sliceVL (v := (.vs 0)) (n := 0) (off := 0) (len := a0.length) (l := a0) (enc := Z1i) (kl := .i64) (lo := v3) I s36 I I (Z31 _ _ _) I hg9 I) ?_
   have ⟨hg11, h⟩ := Zw h
   have ⟨hg12, h⟩ := Zw h
   refine Za 9 I (Z2d (m := 38) (enc := Z1i) (l := [a1]) (l' := ((a0.drop (0 + v3.toNat)).take ((a0.length : Int).toNat - v3.toNat))) (src := (.vsub 0 (0 + v3.toNat) ((a0.length : Int).toNat - v3.toNat) false)) (rd := [(0, (.vec 1 (List.map Z1i a0)))]) I I el36 I u36 I I I (srcR_vsub hg11) (oneRead I) Z39 hg12) ?_
   have ⟨hg13, h⟩ := Zw h
   have ⟨hg14, h⟩ := Zw h
   have ⟨hg15, h⟩ := Zw h
   refine Za 10 I (st_appendNew (enc := Z1i) (l := ((a0.drop 0).take v3.toNat)) (l' := ([a1] ++ ((a0.drop (0 + v3.toNat)).take ((a0.length : Int).toNat - v3.toNat)))) (dst := (.vsub 0 0 v3.toNat true)) (src := (.vs 38)) (rd := [(0, (.vec 1 (List.map Z1i a0)))]) (rd' := [(38, (.vec 1 (List.map Z1i ([a1] ++ ((a0.drop (0 + v3.toNat)).take ((a0.length : Int).toNat - v3.toNat))))))]) I el36 I u36 I (srcR_vsub hg13) I (oneRead I) I I (oneRead I) Z39 hg14 (.inr hg15)) <| Za 11 I (Zd I I) <| Z1z (by kernel_rfl) I <| Z8 <| Z1e <| Z2w (st' := ⟨[(4, (.vs 0))], [(0, (.vec 1 (List.map Z1i (((a0.drop 0).take v3.toNat) ++ ([a1] ++ ((a0.drop (0 + v3.toNat)).take ((a0.length : Int).toNat - v3.toNat)))))))]⟩) (fun a w h => (Z1k _ (ghost_sw (a := 43) (b := 0) I I a w (Z1k ⟨[(4, (.vs 43))], [(43, (.vec 1 (List.map Z1i (((a0.drop 0).take v3.toNat) ++ ([a1] ++ ((a0.drop (0 + v3.toNat)).take ((a0.length : Int).toNat - v3.toNat)))))))]⟩ h ⟨I, J0⟩ ⟨I, J0⟩)) ⟨I, J0⟩ ⟨I, J0⟩)) ?_
   have h := Option.some.inj h
   subst h
   refine (hret _ ?_).1
   exact ⟨[(.vs 0)], ⟨I, J0⟩, I, ⟨I, J0⟩⟩
  have h := hif.2 hc
  iterate 6 refine Zg I I I I I I I ?_
  refine Z1 I (Zy (v := (.bool false)) I I I) I <| Z7 <| Z8 ?_
  refine Zq (b := false) I (fun hc => ?_) (fun hc => ?_)
  ·cases hc
  refine Z14 <| Z8 <| Zb <| Z1y mixed <| Za 0 I (Z9 I I) <| Za 1 I (Z9 I I) <| Za 2 I (Z9 I I) ?_
  have ⟨hg16, h⟩ := Zw h
  refine Za 3 I (stx_slice3V (kh := .i64) (v := (.vs 0)) (n := 0) (off := 0) (len := a0.length) (l := a0) (enc := Z1i) (h := v3) I s36 I I (Z31 _ _ _) I I hg16) <| Za 4 I (Z9 I I) <| Za 5 I (Z1m (vs := [(.str a1)]) (enc := Z1i) (l := [a1]) I el36 I I ⟨I, J0⟩ I Z39 I I I I) <| Za 6 I (Z9 I I) <| Za 7 I (Z9 I I) ?_
  have ⟨hg17, h⟩ := Zw h
  have ⟨hg18, h⟩ := Zw h
  refine Za 8 I (stx_sliceVL (v := (.vs 0)) (n := 0) (off := 0) (len := a0.length) (l := a0) (enc := Z1i) (kl := .i64) (lo := v3) I s36 I I (Z31 _ _ _) I hg17 I) ?_
  have ⟨hg19, h⟩ := Zw h
  have ⟨hg20, h⟩ := Zw h
  refine Za 9 I (Z2d (m := 38) (enc := Z1i) (l := [a1]) (l' := ((a0.drop (0 + v3.toNat)).take ((a0.length : Int).toNat - v3.toNat))) (src := (.vsub 0 (0 + v3.toNat) ((a0.length : Int).toNat - v3.toNat) false)) (rd := [(0, (.vec 1 (List.map Z1i a0)))]) I I el36 I u36 I I I (srcR_vsub hg19) (oneRead I) Z39 hg20) ?_
  have ⟨hg21, h⟩ := Zw h
  have ⟨hg22, h⟩ := Zw h
  have ⟨hg23, h⟩ := Zw h
  refine Za 10 I (st_appendNew (enc := Z1i) (l := ((a0.drop 0).take v3.toNat)) (l' := ([a1] ++ ((a0.drop (0 + v3.toNat)).take ((a0.length : Int).toNat - v3.toNat)))) (dst := (.vsub 0 0 v3.toNat true)) (src := (.vs 38)) (rd := [(0, (.vec 1 (List.map Z1i a0)))]) (rd' := [(38, (.vec 1 (List.map Z1i ([a1] ++ ((a0.drop (0 + v3.toNat)).take ((a0.length : Int).toNat - v3.toNat))))))]) I el36 I u36 I (srcR_vsub hg21) I (oneRead I) I I (oneRead I) Z39 hg22 (.inr hg23)) <| Za 11 I (Zd I I) <| Z1z (by kernel_rfl) I <| Z8 <| Z1e <| Z2w (st' := ⟨[(4, (.vs 0))], [(0, (.vec 1 (List.map Z1i (((a0.drop 0).take v3.toNat) ++ ([a1] ++ ((a0.drop (0 + v3.toNat)).take ((a0.length : Int).toNat - v3.toNat)))))))]⟩) (fun a w h => (Z1k _ (ghost_sw (a := 43) (b := 0) I I a w (Z1k ⟨[(4, (.vs 43))], [(43, (.vec 1 (List.map Z1i (((a0.drop 0).take v3.toNat) ++ ([a1] ++ ((a0.drop (0 + v3.toNat)).take ((a0.length : Int).toNat - v3.toNat)))))))]⟩ h ⟨I, J0⟩ ⟨I, J0⟩)) ⟨I, J0⟩ ⟨I, J0⟩)) ?_
  have h := Option.some.inj h
  subst h
  refine (hret _ ?_).1
  exact ⟨[(.vs 0)], ⟨I, J0⟩, I, ⟨I, J0⟩⟩
 intro N k2 v h IH2 J2
 revert h
 revert v
 intro v1 h
 try dsimp only at h IH2 J2 ⊢
 cases k2 with
 | zero => cases h
 | succ k2 =>
  rw [F44_l2] at h
  refine Zb <| Zb <| Z5 <| Z1 I (Z9 I I) I <| Z1 I (Z9 I I) I <| Z1 I (stx_lenV I u36 I I) I <| Z1 I (Z1c (c := (decide (v1 < (a0.length : Int)))) I I I I) I <| Z1 I (Z9 I I) I ?_
  have hif := Z1h h
  refine Z16 (fun hc => ?_) (fun hc => ?_)
  ·have h := hif.1 hc
   refine Zc I I I I (Z9 I I) I <| Zc I I I I (Z9 I I) I ?_
   have ⟨hg25, h⟩ := Zw h
   refine Zc I I I I (Z32 (k := .i64) (v := (.vs 0)) (n := 0) (off := 0) (len := a0.length) (es := (List.map Z1i a0)) (j := v1) (m := v1.toNat) I s36 I I (Z31 _ _ _) I hg25 (Nat.zero_add _)) I ?_
   have ⟨hg26, h⟩ := Zw h
   refine Zc I I I I (Z3o (l := a0) (enc := Z1i) (z := []) (v := (.str (a0.getD v1.toNat []))) I o9 I I hg26 I) I <| Zc I I I I (Z9 I I) I <| Zc I I I I (Z2z (c := (slt (a0.getD v1.toNat []) a1)) I I I I) I <| Z1 I (Z19 I I I) I <| Z7 <| Z8 ?_
   have hif := Z1h h
   refine Zq I (fun hc => ?_) (fun hc => ?_)
   ·have h := hif.1 hc
    refine Z14 <| Z8 <| Z1t <| Z5 <| Z1 I (Z9 I I) I <| Z1 I (Z1p (k := .i64) (b := 1) (c := (IntKind.i64.wrap (v1 + 1))) I I I I) I <| Z1 I (Zd I I) I <| Z7 <| Z27 ?_
    exact Zz (IH2 _ (IntKind.i64.wrap (v1 + 1)) (Nat.lt_succ_self _) h) ⟨I, I, I, J0⟩ ⟨I, J0⟩
   have h := hif.2 hc
   refine Z1u <| Z26 ?_
   exact Zz (J2 v1 h) ⟨I, I, I, J0⟩ ⟨I, J0⟩
  have h := hif.2 hc
  iterate 6 refine Zg I I I I I I I ?_
  refine Z1 I (Zy (v := (.bool false)) I I I) I <| Z7 <| Z8 ?_
  refine Zq (b := false) I (fun hc => ?_) (fun hc => ?_)
  ·cases hc
  refine Z1u <| Z26 ?_
  exact Zz (J2 v1 h) ⟨I, I, I, J0⟩ ⟨I, J0⟩
def F15_c5 (_K : Nat) (v4 : (List Str)) : Option ((List Str)) :=
 some v4
def F15_l3 (K : Nat) (a0 : Ze) (c6 : (List Str) → Option ((List Str))) : Nat → Int → (List Str) → Option ((List Str))
 | 0, _, _ => none
 | k3 + 1, v1, v2 =>
 if (decide (v1 < (a0.Firings.length : Int))) = true then
 if (0 : Int) ≤ v1 ∧ v1 < a0.Firings.length then
 (F19 K a0.Policy (a0.Firings.getD v1.toNat Z12)).bind fun v10 =>
 (F44 K v2 v10).bind fun v12 =>
 (F15_l3 K a0 c6 k3) (IntKind.i64.wrap (v1 + 1)) v12
 else none
 else
 c6 v2
def F15 (K : Nat) (a0 : Ze) : Option ((List Str)) :=
 F15_l3 K a0 (F15_c5 K) K 0 []
theorem F15_ok (K : Nat) (a0 : Ze) (r : (List Str)) (h : F15 K a0 = some r) : ACall P 15 ⟨[(Zf a0)], [], .vs 2, [(2, .vec 1 (List.map Z1i r))], [2]⟩ := by
 refine Z1v Try.func15 Try.results15 rfl Try.ntmps15 rfl rfl rfl ?_
 intro E Q hP hN hro hret
 obtain ⟨P', nt', w0, F0, p0, S0, β0, ro0⟩ := E
 simp only at hP hN
 subst hP hN
 dsimp only [argT]
 unfold F15 at h
 refine Zb <| Z5 <| Z1 I (Z2r I I I I I) I <| Z1 I (Zd (v := (.sl 1 [] false)) I I) I <| Z7 <| Z8 <| Zb <| Z5 <| Z1 I (Zd (v := (.sl 1 [] true)) I I) I <| Z7 <| Z8 <| Zb <| Zb <| Z5 <| Z1 I (Zd (v := (.int .i64 0)) I I) I <| Z7 <| Z8 <| Z2p (st' := ⟨[(1, (.ptr 1 0)), (3, (.vs 3)), (4, (.int .i64 0))], [(1, (.box (Zf a0).cells)), (3, (.vec 1 (List.map Z1i ([] : List Str))))]⟩) (fun a w h => (Z1k _ (ghost_own (k := 3) (m := 3) (sz := 1) I I a w (Z1k ⟨[(3, (.sl 1 [] true)), (1, (.ptr 1 0)), (4, (.int .i64 0))], [(1, (.box (Zf a0).cells))]⟩ h ⟨I, I, I, J0⟩ ⟨I, J0⟩)) ⟨I, I, I, J0⟩ ⟨I, I, J0⟩)) <| Z1r (st' := ⟨[(1, (.ptr 1 0)), (3, (.vs 3)), (4, (.int .i64 0))], [(1, (.box (Zf a0).cells)), (3, (.vec 1 (List.map Z1i [])))]⟩) ⟨I, I, I, J0⟩ ⟨I, I, J0⟩ ?_
 refine Z1o (V := Int × (List Str)) (X := (List Str)) (lp := fun k v => F15_l3 K a0 (F15_c5 K) k v.1 v.2 = some r) (sh := fun v => ⟨[(1, (.ptr 1 0)), (3, (.vs 3)), (4, (.int .i64 v.1))], [(1, (.box (Zf a0).cells)), (3, (.vec 1 (List.map Z1i v.2)))]⟩) (x := fun v => F15_c5 K v = some r) (shx := fun v => ⟨[(3, (.vs 3))], [(3, (.vec 1 (List.map Z1i v)))]⟩) (k := K) (v := (0, [])) h ?_ ?_
 ·intro v h
  revert h
  revert v
  intro v4 h
  try dsimp only at h ⊢
  unfold F15_c5 at h
  refine Z8 <| Zb <| Z5 <| Z1 I (Z9 I I) I <| Z1 I (Zd I I) I <| Z7 <| Z8 <| Z1e <| Z2w (st' := ⟨[(2, (.vs 2))], [(2, (.vec 1 (List.map Z1i v4)))]⟩) (fun a w h => (Z1k _ (ghost_sw (a := 3) (b := 2) I I a w (Z1k ⟨[(2, (.vs 3))], [(3, (.vec 1 (List.map Z1i v4)))]⟩ h ⟨I, J0⟩ ⟨I, J0⟩)) ⟨I, J0⟩ ⟨I, J0⟩)) ?_
  have h := Option.some.inj h
  subst h
  refine (hret _ ?_).1
  exact ⟨[(.vs 2)], ⟨I, J0⟩, I, ⟨I, J0⟩⟩
 intro N k3 v h IH3 J3
 obtain ⟨v1, v2⟩ := v
 try dsimp only at h IH3 J3 ⊢
 cases k3 with
 | zero => cases h
 | succ k3 =>
  rw [F15_l3] at h
  refine Zb <| Zb <| Z5 <| Z1 I (Z9 I I) I <| Z1 I (Zm I f34_1 I I) I <| Z1 I (Zs I o30 I I I) I <| Z1 I (Z24 (l := a0.Firings) (enc := Zh) I s30 I) I <| Z1 I (Z1c (c := (decide (v1 < (a0.Firings.length : Int)))) I I I I) I <| Z7 <| Z8 ?_
  have hif := Z1h h
  refine Zq I (fun hc => ?_) (fun hc => ?_)
  ·have h := hif.1 hc
   refine Z14 <| Z8 <| Zb <| Z1t <| Z1y mixed <| Za 0 I (Z9 I I) <| Za 1 I (Zm I f34_0 I I) <| Za 2 I (Z1n I a29 I I I I) <| Za 3 I (Zm I f34_1 I I) <| Za 4 I (Zs I o30 I I I) <| Za 5 I (Z9 I I) ?_
   have ⟨hg8, h⟩ := Zw h
   refine Za 6 I (Z1s (k := .i64) (l := a0.Firings) (enc := Zh) (z := Z12) (n := v1) (full := false) I s30 I I hg8 I) <| Za 7 I (Z28 I a42 I I I) ?_
   have ⟨v10, hv10, h⟩ := Z1a h
   refine Za 8 I (Z1d (ar := [(Z2i a0.Policy), (Zh (a0.Firings.getD v1.toNat Z12))]) Try.call19 (F19_ok K a0.Policy (a0.Firings.getD v1.toNat Z12) v10 hv10) I I ⟨I, I, J0⟩ I) ?_
   have ⟨v12, hv12, h⟩ := Z1a h
   refine Za 9 I (st_call (d := some 21) (c := ⟨[(.vs 3), (.str v10)] ++ [], [(3, (.vec 1 (List.map Z1i v2)))], .vs 3, [(3, .vec 1 (List.map Z1i v12))], [3]⟩) (ar := [(.vs 3), (.str v10)]) (caps := []) (news := []) (forg := [3]) Try.call44 ((F44_ok K v2 v10 v12 hv12).sw 0 3) I I ⟨I, I, J0⟩ I ⟨I, J0⟩ I) <| Za 10 I (Zd I I) <| Z1z (by kernel_rfl) I <| Z27 <| Z8 <| Z5 <| Z1 I (Z9 I I) I <| Z1 I (Z1p (k := .i64) (b := 1) (c := (IntKind.i64.wrap (v1 + 1))) I I I I) I <| Z1 I (Zd I I) I <| Z7 ?_
   exact Zz (IH3 _ ((IntKind.i64.wrap (v1 + 1)), v12) (Nat.lt_succ_self _) h) ⟨I, I, I, J0⟩ ⟨I, I, J0⟩
  have h := hif.2 hc
  refine Z1u <| Z26 ?_
  exact Zz (J3 v2 h) ⟨I, J0⟩ ⟨I, J0⟩
end Go.AM.Noti
