/- What these functions compute, each with its walk: F55, F56, F30. -/
import Derived.Test.YtmdglfmfefmpkaaNotiT
import Derived.Test.YtmdglfmfefmpkaaNotiG6
import Derived.Test.YtmdglfmfefmpkaaNotiG7
import Derived.Test.YtmdglfmfefmpkaaNotiG10
import Derived.Test.YtmdglfmfefmpkaaNotiG11
namespace Go.AM.Noti
open Go Go.AM Go.Proofs
set_option maxRecDepth 100000
set_option maxHeartbeats 2000000
def F55_c14 (_K : Nat) (v13 : (List Z2)) : Option ((List Z2)) :=
 some v13
def F55_l12 (K : Nat) (v7 : (List Str)) (a2 : Z4) (a3 : Int) (a1 : Str) (c15 : (List Z2) → Option ((List Z2))) : Nat → Int → (List Z2) → Option ((List Z2))
 | 0, _, _ => none
 | k12 + 1, v10, v11 =>
 if (decide (v10 < (v7.length : Int))) = true then
 if (decide (a2.To < a3)) = true then
 if (0 : Int) ≤ v10 ∧ v10 < (v7.length : Nat) then
 if v10.toNat < v7.length then
 if v11.length + ([(⟨a2.To, a1, 3, (v7.getD v10.toNat []), []⟩ : Z2)]).length ≤ 1073741824 then
 (F55_l12 K v7 a2 a3 a1 c15 k12) (IntKind.i64.wrap (v10 + 1)) (v11 ++ ([(⟨a2.To, a1, 3, (v7.getD v10.toNat []), []⟩ : Z2)]))
 else none
 else none
 else none
 else
 c15 v11
 else
 c15 v11
def F55_c8 (K : Nat) (a2 : Z4) (a3 : Int) (a1 : Str) (v6 : (List Z2)) (v7 : (List Str)) : Option ((List Z2)) :=
 F55_l12 K v7 a2 a3 a1 (F55_c14 K) K 0 v6
def F55_j29 (_K : Nat) (b20 : Int → (List Z2) → (List Str) → Option ((List Z2))) (v2 : Int) (v27 : (List Z2)) (v28 : (List Str)) : Option ((List Z2)) :=
 b20 (IntKind.i64.wrap (v2 + 1)) v27 v28
def F55_j24 (K : Nat) (c9 : (List Z2) → (List Str) → Option ((List Z2))) (v3 : (List Z2)) (v4 : (List Str)) (a0 : Ze) (a1 : Str) (a2 : Z4) (v21 : Z2) (b20 : Int → (List Z2) → (List Str) → Option ((List Z2))) (v2 : Int) (v23 : Bool) : Option ((List Z2)) :=
 if v23 = true then
 c9 v3 v4
 else
 (F61 K a0 a1 a2.From v21.At).bind fun v26 =>
 if (!v26) = true then
 (F26 K a0 a1 v21.At).bind fun v31 =>
 if v3.length + [(⟨v21.At, v21.Group, v21.Kind, v21.Who, v31⟩ : Z2)].length ≤ 1073741824 then
 (F44 K v4 v21.Who).bind fun v34 =>
 F55_j29 K b20 v2 (v3 ++ [(⟨v21.At, v21.Group, v21.Kind, v21.Who, v31⟩ : Z2)]) v34
 else none
 else
 F55_j29 K b20 v2 v3 v4
def F55_j22 (K : Nat) (a2 : Z4) (c9 : (List Z2) → (List Str) → Option ((List Z2))) (v3 : (List Z2)) (v4 : (List Str)) (a0 : Ze) (a1 : Str) (b20 : Int → (List Z2) → (List Str) → Option ((List Z2))) (v2 : Int) (a3 : Int) (v21 : Z2) : Option ((List Z2)) :=
 if (decide (v21.At ≥ a2.To)) = true then
 F55_j24 K c9 v3 v4 a0 a1 a2 v21 b20 v2 true
 else
 if (decide (v21.At ≥ a3)) = true then
 F55_j24 K c9 v3 v4 a0 a1 a2 v21 b20 v2 true
 else
 if (v21.Kind == 2) = true then
 F55_j24 K c9 v3 v4 a0 a1 a2 v21 b20 v2 (a0.Policy.Repeat == 0)
 else
 F55_j24 K c9 v3 v4 a0 a1 a2 v21 b20 v2 false
def F55_l5 (K : Nat) (a0 : Ze) (a2 : Z4) (a1 : Str) (a3 : Int) (c9 : (List Z2) → (List Str) → Option ((List Z2))) : Nat → Int → (List Z2) → (List Str) → Option ((List Z2))
 | 0, _, _, _ => none
 | k5 + 1, v2, v3, v4 =>
 if (decide (v2 < (IntKind.i64.wrap ((a0.Policy.Steps.length : Int) + 5000)))) = true then
 if (decide (v2 < (a0.Policy.Steps.length : Int))) = true then
 if (0 : Int) ≤ v2 ∧ v2 < a0.Policy.Steps.length then
 if (0 : Int) ≤ v2 ∧ v2 < a0.Policy.Steps.length then
 F55_j22 K a2 c9 v3 v4 a0 a1 (F55_l5 K a0 a2 a1 a3 c9 k5) v2 a3 (⟨(IntKind.i64.wrap (a2.From + (a0.Policy.Steps.getD v2.toNat Zl).After)), a1, 1, (a0.Policy.Steps.getD v2.toNat Zl).Who, []⟩ : Z2)
 else none
 else none
 else
 F55_j22 K a2 c9 v3 v4 a0 a1 (F55_l5 K a0 a2 a1 a3 c9 k5) v2 a3 (⟨(IntKind.i64.wrap ((IntKind.i64.wrap (a2.From + (a0.Policy.Steps.getD (IntKind.i64.wrap ((a0.Policy.Steps.length : Int) - 1)).toNat Zl).After)) + (IntKind.i64.wrap ((IntKind.i64.wrap ((IntKind.i64.wrap (v2 - (a0.Policy.Steps.length : Int))) + 1)) * a0.Policy.Repeat)))), a1, 2, (a0.Policy.Steps.getD (IntKind.i64.wrap ((a0.Policy.Steps.length : Int) - 1)).toNat Zl).Who, []⟩ : Z2)
 else
 c9 v3 v4
def F55 (K : Nat) (a0 : Ze) (a1 : Str) (a2 : Z4) (a3 : Int) : Option ((List Z2)) :=
 if (0 : Int) ≤ (IntKind.i64.wrap ((a0.Policy.Steps.length : Int) - 1)) ∧ (IntKind.i64.wrap ((a0.Policy.Steps.length : Int) - 1)) < a0.Policy.Steps.length then
 F55_l5 K a0 a2 a1 a3 (F55_c8 K a2 a3 a1) K 0 [] []
 else none
theorem F55_ok (K : Nat) (a0 : Ze) (a1 : Str) (a2 : Z4) (a3 : Int) (r : (List Z2)) (h : F55 K a0 a1 a2 a3 = some r) : ACall P 55 ⟨[(Zf a0), (.str a1), (Z6 a2), (.int .i64 a3)], [], (.sl 5 (r.map Z3) false), [], []⟩ := by
 refine Z1v Try.func55 Try.results55 rfl Try.ntmps55 rfl rfl rfl ?_
 intro E Q hP hN hro hret
 obtain ⟨P', nt', w0, F0, p0, S0, β0, ro0⟩ := E
 simp only at hP hN
 subst hP hN
 dsimp only [argT]
 unfold F55 at h
 refine Zb <| Z5 <| Z1 I (Z2r I I I I I) I <| Z1 I (Z2r I I I I I) I <| Z1 I (Zd (v := (.sl 5 [] false)) I I) I <| Z7 <| Z8 <| Zb <| Z5 <| Z1 I (Zd (v := (.sl 5 [] true)) I I) I <| Z7 <| Z8 <| Zb <| Z5 <| Z1 I (Zd (v := (.sl 1 [] true)) I I) I <| Z7 <| Z8 <| Zb <| Z5 <| Z1 I (Zm I f34_0 I I) I <| Z1 I (Zm I f29_2 I I) I <| Z1 I (Zs I o27 I I I) I <| Z1 I (Zm I f34_0 I I) I <| Z1 I (Zm I f29_2 I I) I ?_
 refine Z1 I (Zs I o27 I I I) I <| Z1 I (Z24 (l := a0.Policy.Steps) (enc := Zj) I s27 I) I <| Z1 I (Z1p (k := .i64) (b := 1) (c := (IntKind.i64.wrap ((a0.Policy.Steps.length : Int) - 1))) I I I I) I ?_
 have ⟨hg1, h⟩ := Zw h
 refine Z1 I (Z1s (k := .i64) (l := a0.Policy.Steps) (enc := Zj) (z := Zl) (n := (IntKind.i64.wrap ((a0.Policy.Steps.length : Int) - 1))) (full := false) I s27 I I hg1 I) I <| Z1 I (Z28 I a71 I I I) I <| Z1 I (Z1x I z71 I I I) I <| Z1 I (Z1f sz71 I I I I I I I I) I <| Z7 <| Z8 <| Zb <| Zb <| Z5 <| Z1 I (Zd (v := (.int .i64 0)) I I) I <| Z7 <| Z8 <| Z2p (st' := ⟨[(1, (.str a1)), (3, (.int .i64 a3)), (4, (.ptr 4 0)), (6, (.ptr 6 0)), (9, (.vs 9)), (10, (.vs 10)), (11, (.ptr 11 0)), (12, (.int .i64 0))], [(4, (.box (Zf a0).cells)), (6, (.box (Z6 a2).cells)), (9, (.vec 5 (List.map Z3 ([] : List Z2)))), (10, (.vec 1 (List.map Z1i ([] : List Str)))), (11, (.box (Zj (a0.Policy.Steps.getD (IntKind.i64.wrap ((a0.Policy.Steps.length : Int) - 1)).toNat Zl)).cells))]⟩) (fun a w h => (Z1k _ (ghost_own (k := 10) (m := 10) (sz := 1) I I a w (Z1k ⟨[(10, (.sl 1 [] true)), (1, (.str a1)), (3, (.int .i64 a3)), (4, (.ptr 4 0)), (6, (.ptr 6 0)), (9, (.vs 9)), (11, (.ptr 11 0)), (12, (.int .i64 0))], [(4, (.box (Zf a0).cells)), (6, (.box (Z6 a2).cells)), (9, (.vec 5 (List.map Z3 ([] : List Z2)))), (11, (.box (Zj (a0.Policy.Steps.getD (IntKind.i64.wrap ((a0.Policy.Steps.length : Int) - 1)).toNat Zl)).cells))]⟩ (Z1k ⟨[(1, (.str a1)), (3, (.int .i64 a3)), (4, (.ptr 4 0)), (6, (.ptr 6 0)), (9, (.vs 9)), (10, (.sl 1 [] true)), (11, (.ptr 11 0)), (12, (.int .i64 0))], [(4, (.box (Zf a0).cells)), (6, (.box (Z6 a2).cells)), (9, (.vec 5 (List.map Z3 ([] : List Z2)))), (11, (.box (Zj (a0.Policy.Steps.getD (IntKind.i64.wrap ((a0.Policy.Steps.length : Int) - 1)).toNat Zl)).cells))]⟩ (ghost_own (k := 9) (m := 9) (sz := 5) I I a w (Z1k ⟨[(9, (.sl 5 [] true)), (1, (.str a1)), (3, (.int .i64 a3)), (4, (.ptr 4 0)), (6, (.ptr 6 0)), (10, (.sl 1 [] true)), (11, (.ptr 11 0)), (12, (.int .i64 0))], [(4, (.box (Zf a0).cells)), (6, (.box (Z6 a2).cells)), (11, (.box (Zj (a0.Policy.Steps.getD (IntKind.i64.wrap ((a0.Policy.Steps.length : Int) - 1)).toNat Zl)).cells))]⟩ h ⟨I, I, I, I, I, I, I, I, J0⟩ ⟨I, I, I, J0⟩)) ⟨I, I, I, I, I, I, I, I, J0⟩ ⟨I, I, I, I, J0⟩) ⟨I, I, I, I, I, I, I, I, J0⟩ ⟨I, I, I, I, J0⟩)) ⟨I, I, I, I, I, I, I, I, J0⟩ ⟨I, I, I, I, I, J0⟩)) <| Z1r (st' := ⟨[(1, (.str a1)), (3, (.int .i64 a3)), (4, (.ptr 4 0)), (6, (.ptr 6 0)), (9, (.vs 9)), (10, (.vs 10)), (11, (.ptr 11 0)), (12, (.int .i64 0))], [(4, (.box (Zf a0).cells)), (6, (.box (Z6 a2).cells)), (9, (.vec 5 (List.map Z3 []))), (10, (.vec 1 (List.map Z1i []))), (11, (.box (Zj (a0.Policy.Steps.getD (IntKind.i64.wrap ((a0.Policy.Steps.length : Int) - 1)).toNat Zl)).cells))]⟩) ⟨I, I, I, I, I, I, I, I, J0⟩ ⟨I, I, I, I, I, J0⟩ ?_
 refine Z1o (V := Int × (List Z2) × (List Str)) (X := (List Z2) × (List Str)) (lp := fun k v => F55_l5 K a0 a2 a1 a3 (F55_c8 K a2 a3 a1) k v.1 v.2.1 v.2.2 = some r) (sh := fun v => ⟨[(1, (.str a1)), (3, (.int .i64 a3)), (4, (.ptr 4 0)), (6, (.ptr 6 0)), (9, (.vs 9)), (10, (.vs 10)), (11, (.ptr 11 0)), (12, (.int .i64 v.1))], [(4, (.box (Zf a0).cells)), (6, (.box (Z6 a2).cells)), (9, (.vec 5 (List.map Z3 v.2.1))), (10, (.vec 1 (List.map Z1i v.2.2))), (11, (.box (Zj (a0.Policy.Steps.getD (IntKind.i64.wrap ((a0.Policy.Steps.length : Int) - 1)).toNat Zl)).cells))]⟩) (x := fun v => F55_c8 K a2 a3 a1 v.1 v.2 = some r) (shx := fun v => ⟨[(1, (.str a1)), (3, (.int .i64 a3)), (6, (.ptr 6 0)), (9, (.vs 9)), (10, (.vs 10))], [(6, (.box (Z6 a2).cells)), (9, (.vec 5 (List.map Z3 v.1))), (10, (.vec 1 (List.map Z1i v.2)))]⟩) (k := K) (v := (0, [], [])) h ?_ ?_
 ·intro v h
  obtain ⟨v6, v7⟩ := v
  try dsimp only at h ⊢
  unfold F55_c8 at h
  refine Z8 <| Zb <| Zb <| Z5 <| Z1 I (Zd (v := (.int .i64 0)) I I) I <| Z7 <| Z8 <| Z1r (st' := ⟨[(1, (.str a1)), (3, (.int .i64 a3)), (6, (.ptr 6 0)), (9, (.vs 9)), (10, (.vs 10)), (14, (.int .i64 0))], [(6, (.box (Z6 a2).cells)), (9, (.vec 5 (List.map Z3 v6))), (10, (.vec 1 (List.map Z1i v7)))]⟩) ⟨I, I, I, I, I, I, J0⟩ ⟨I, I, I, J0⟩ ?_
  refine Z1o (V := Int × (List Z2)) (X := (List Z2)) (lp := fun k v => F55_l12 K v7 a2 a3 a1 (F55_c14 K) k v.1 v.2 = some r) (sh := fun v => ⟨[(1, (.str a1)), (3, (.int .i64 a3)), (6, (.ptr 6 0)), (9, (.vs 9)), (10, (.vs 10)), (14, (.int .i64 v.1))], [(6, (.box (Z6 a2).cells)), (9, (.vec 5 (List.map Z3 v.2))), (10, (.vec 1 (List.map Z1i v7)))]⟩) (x := fun v => F55_c14 K v = some r) (shx := fun v => ⟨[(9, (.vs 9))], [(9, (.vec 5 (List.map Z3 v)))]⟩) (k := K) (v := (0, v6)) h ?_ ?_
  ·intro v h
   revert h
   revert v
   intro v13 h
   try dsimp only at h ⊢
   unfold F55_c14 at h
   refine Z8 <| Zb <| Z5 <| Z1 I (Z9 I I) I <| Z1 I (Zd I I) I <| Z7 <| Z8 <| Z1e <| Z2w (st' := ⟨[(8, (.sl 5 (v13.map Z3) false))], []⟩) (fun a w h => (Z1k _ (Z22 (m := 9) (sz := 5) (es := (List.map Z3 v13)) a w (Z1k ⟨[(8, (.vs 9))], [(9, (.vec 5 (List.map Z3 v13)))]⟩ h ⟨I, J0⟩ ⟨I, J0⟩)) ⟨I, J0⟩ J0)) ?_
   have h := Option.some.inj h
   subst h
   refine (hret _ ?_).1
   exact ⟨[(.sl 5 (v13.map Z3) false)], ⟨I, J0⟩, I, J0⟩
  intro N k12 v h IH12 J12
  obtain ⟨v10, v11⟩ := v
  try dsimp only at h IH12 J12 ⊢
  cases k12 with
  | zero => cases h
  | succ k12 =>
   rw [F55_l12] at h
   refine Zb <| Zb <| Z5 <| Z1 I (Z9 I I) I <| Z1 I (Z9 I I) I <| Z1 I (stx_lenV I u36 I I) I <| Z1 I (Z1c (c := (decide (v10 < (v7.length : Int)))) I I I I) I <| Z1 I (Z9 I I) I ?_
   have hif := Z1h h
   refine Z16 (fun hc => ?_) (fun hc => ?_)
   ·have h := hif.1 hc
    refine Zc I I I I (Zm I f40_1 I I) I <| Zc I I I I (Zs I o3 I I I) I <| Zc I I I I (Z9 I I) I <| Zc I I I I (Z1c (c := (decide (a2.To < a3))) I I I I) I <| Z1 I (Z19 I I I) I <| Z7 <| Z8 ?_
    have hif := Z1h h
    refine Zq I (fun hc => ?_) (fun hc => ?_)
    ·have h := hif.1 hc
     refine Z14 <| Z8 <| Zb <| Z1t <| Z1y mixed <| Za 0 I (Z9 I I) <| Za 1 I (Zm I f40_1 I I) <| Za 2 I (Zs I o3 I I I) <| Za 3 I (Z9 I I) <| Za 4 I (Z9 I I) <| Za 5 I (Z9 I I) ?_
     have ⟨hg17, h⟩ := Zw h
     refine Za 6 I (Z32 (k := .i64) (v := (.vs 10)) (n := 10) (off := 0) (len := v7.length) (es := (List.map Z1i v7)) (j := v10) (m := v10.toNat) I s36 I I (Z31 _ _ _) I hg17 (Nat.zero_add _)) ?_
     have ⟨hg18, h⟩ := Zw h
     refine Za 7 I (Z3o (l := v7) (enc := Z1i) (z := []) (v := (.str (v7.getD v10.toNat []))) I o9 I I hg18 I) <| Za 8 I (Z23 (vs := [(0, (.int .i64 a2.To)), (1, (.str a1)), (2, (.int .i64 3)), (3, (.str (v7.getD v10.toNat [])))]) I st60 ⟨I, I, I, I, I, I, I, I, J0⟩ I) <| Za 9 I (Z1m (vs := [(.ag [(.int .i64 a2.To), (.str a1), (.int .i64 3), (.str (v7.getD v10.toNat [])), (.sl 1 [] false)])]) (enc := Z3) (l := [(⟨a2.To, a1, 3, (v7.getD v10.toNat []), []⟩ : Z2)]) I el50 I I ⟨I, J0⟩ I Z2g I I I I) ?_
     have ⟨hg19, h⟩ := Zw h
     refine Za 10 I (Z2d (m := 9) (enc := Z3) (l := v11) (l' := ([(⟨a2.To, a1, 3, (v7.getD v10.toNat []), []⟩ : Z2)])) (src := (.vs 147)) (rd := [(147, (.vec 5 (List.map Z3 ([(⟨a2.To, a1, 3, (v7.getD v10.toNat []), []⟩ : Z2)]))))]) I I el50 I u50 I I I I (oneRead I) Z2g hg19) <| Za 11 I (Zd I I) <| Z1z (by kernel_rfl) I <| Z27 <| Z8 <| Z5 <| Z1 I (Z9 I I) I <| Z1 I (Z1p (k := .i64) (b := 1) (c := (IntKind.i64.wrap (v10 + 1))) I I I I) I <| Z1 I (Zd I I) I <| Z7 ?_
     exact Zz (IH12 _ ((IntKind.i64.wrap (v10 + 1)), (v11 ++ ([(⟨a2.To, a1, 3, (v7.getD v10.toNat []), []⟩ : Z2)]))) (Nat.lt_succ_self _) h) ⟨I, I, I, I, I, I, J0⟩ ⟨I, I, I, J0⟩
    have h := hif.2 hc
    refine Z1u <| Z26 ?_
    exact Zz (J12 v11 h) ⟨I, J0⟩ ⟨I, J0⟩
   have h := hif.2 hc
   iterate 4 refine Zg I I I I I I I ?_
   refine Z1 I (Zy (v := (.bool false)) I I I) I <| Z7 <| Z8 ?_
   refine Zq (b := false) I (fun hc => ?_) (fun hc => ?_)
   ·cases hc
   refine Z1u <| Z26 ?_
   exact Zz (J12 v11 h) ⟨I, J0⟩ ⟨I, J0⟩
 intro N k5 v h IH5 J5
 obtain ⟨v2, v3, v4⟩ := v
 try dsimp only at h IH5 J5 ⊢
 cases k5 with
 | zero => cases h
 | succ k5 =>
  rw [F55_l5] at h
  refine Zb <| Zb <| Z5 <| Z1 I (Z9 I I) I <| Z1 I (Zm I f34_0 I I) I <| Z1 I (Zm I f29_2 I I) I <| Z1 I (Zs I o27 I I I) I <| Z1 I (Z24 (l := a0.Policy.Steps) (enc := Zj) I s27 I) I <| Z1 I (Z1p (k := .i64) (b := 5000) (c := (IntKind.i64.wrap ((a0.Policy.Steps.length : Int) + 5000))) I I I I) I <| Z1 I (Z1c (c := (decide (v2 < (IntKind.i64.wrap ((a0.Policy.Steps.length : Int) + 5000))))) I I I I) I <| Z7 <| Z8 ?_
  have hif := Z1h h
  refine Zq I (fun hc => ?_) (fun hc => ?_)
  ·have h := hif.1 hc
   refine Z14 <| Z8 <| Zb <| Z1t <| Zb <| Z5 <| Z1 I (Z9 I I) I <| Z1 I (Zm I f71_1 I I) I <| Z1 I (Zs I o9 I I I) I <| Z1 I (Z23 (vs := [(1, (.str a1)), (2, (.int .i64 2)), (3, (.str (a0.Policy.Steps.getD (IntKind.i64.wrap ((a0.Policy.Steps.length : Int) - 1)).toNat Zl).Who))]) I st60 ⟨I, I, I, I, I, I, J0⟩ I) I <| Z1 I (Z1x I z60 I I I) I <| Z1 I (Z1f sz60 I I I I I I I I) I <| Z7 <| Z8 <| Zb <| Zb <| Z5 <| Z1 I (Z9 I I) I <| Z1 I (Zm I f34_0 I I) I <| Z1 I (Zm I f29_2 I I) I <| Z1 I (Zs I o27 I I I) I <| Z1 I (Z24 (l := a0.Policy.Steps) (enc := Zj) I s27 I) I <| Z1 I (Z1c (c := (decide (v2 < (a0.Policy.Steps.length : Int)))) I I I I) I <| Z7 ?_
   refine Z8 ?_
   refine Z21 (V := Z2) (lp := fun v => F55_j22 K a2 (F55_c8 K a2 a3 a1) v3 v4 a0 a1 (F55_l5 K a0 a2 a1 a3 (F55_c8 K a2 a3 a1) k5) v2 a3 v = some r) (sh := fun v => ⟨[(1, (.str a1)), (3, (.int .i64 a3)), (4, (.ptr 4 0)), (6, (.ptr 6 0)), (9, (.vs 9)), (10, (.vs 10)), (11, (.ptr 11 0)), (12, (.int .i64 v2)), (13, (.ptr 13 0))], [(4, (.box (Zf a0).cells)), (6, (.box (Z6 a2).cells)), (9, (.vec 5 (List.map Z3 v3))), (10, (.vec 1 (List.map Z1i v4))), (11, (.box (Zj (a0.Policy.Steps.getD (IntKind.i64.wrap ((a0.Policy.Steps.length : Int) - 1)).toNat Zl)).cells)), (13, (.box (Z3 v).cells))]⟩) ?_ ?_
   ·intro v h
    revert h
    revert v
    intro v21 h
    try dsimp only at h ⊢
    unfold F55_j22 at h
    refine Z8 <| Zb <| Zb ?_
    refine Z21 (V := Bool) (lp := fun v => F55_j24 K (F55_c8 K a2 a3 a1) v3 v4 a0 a1 a2 v21 (F55_l5 K a0 a2 a1 a3 (F55_c8 K a2 a3 a1) k5) v2 v = some r) (sh := fun v => ⟨[(1, (.str a1)), (3, (.int .i64 a3)), (4, (.ptr 4 0)), (6, (.ptr 6 0)), (9, (.vs 9)), (10, (.vs 10)), (11, (.ptr 11 0)), (12, (.int .i64 v2)), (13, (.ptr 13 0)), (103, (.bool v))], [(4, (.box (Zf a0).cells)), (6, (.box (Z6 a2).cells)), (9, (.vec 5 (List.map Z3 v3))), (10, (.vec 1 (List.map Z1i v4))), (11, (.box (Zj (a0.Policy.Steps.getD (IntKind.i64.wrap ((a0.Policy.Steps.length : Int) - 1)).toNat Zl)).cells)), (13, (.box (Z3 v21).cells))]⟩) ?_ ?_
    ·intro v h
     revert h
     revert v
     intro v23 h
     try dsimp only at h ⊢
     unfold F55_j24 at h
     refine Z8 ?_
     have hif := Z1h h
     refine Zq I (fun hc => ?_) (fun hc => ?_)
     ·have h := hif.1 hc
      refine Z1u <| Z26 <| At.over I <| Z26 ?_
      exact Zz (J5 (v3, v4) h) ⟨I, I, I, I, I, J0⟩ ⟨I, I, I, J0⟩
     have h := hif.2 hc
     refine Z14 <| Z8 <| Zb <| Z5 <| Z1 I (Z1n I a34 I I I I) I <| Z1 I (Z9 I I) I <| Z1 I (Zm I f40_0 I I) I <| Z1 I (Zs I o3 I I I) I <| Z1 I (Zm I f60_0 I I) I <| Z1 I (Zs I o3 I I I) I ?_
     have ⟨v26, hv26, h⟩ := Z1a h
     refine Z1 I (Z1d (ar := [(Zf a0), (.str a1), (.int .i64 a2.From), (.int .i64 v21.At)]) Try.call61 (F61_ok K a0 a1 a2.From v21.At v26 hv26) I I ⟨I, I, I, I, J0⟩ I) I <| Z1 I (Z2c I I) I <| Z7 <| Z8 ?_
     refine Z21 (V := (List Z2) × (List Str)) (lp := fun v => F55_j29 K (F55_l5 K a0 a2 a1 a3 (F55_c8 K a2 a3 a1) k5) v2 v.1 v.2 = some r) (sh := fun v => ⟨[(1, (.str a1)), (3, (.int .i64 a3)), (4, (.ptr 4 0)), (6, (.ptr 6 0)), (9, (.vs 9)), (10, (.vs 10)), (11, (.ptr 11 0)), (12, (.int .i64 v2))], [(4, (.box (Zf a0).cells)), (6, (.box (Z6 a2).cells)), (9, (.vec 5 (List.map Z3 v.1))), (10, (.vec 1 (List.map Z1i v.2))), (11, (.box (Zj (a0.Policy.Steps.getD (IntKind.i64.wrap ((a0.Policy.Steps.length : Int) - 1)).toNat Zl)).cells))]⟩) ?_ ?_
     ·intro v h
      obtain ⟨v27, v28⟩ := v
      try dsimp only at h ⊢
      unfold F55_j29 at h
      refine Z27 <| Z8 <| Z5 <| Z1 I (Z9 I I) I <| Z1 I (Z1p (k := .i64) (b := 1) (c := (IntKind.i64.wrap (v2 + 1))) I I I I) I <| Z1 I (Zd I I) I <| Z7 ?_
      exact Zz (IH5 _ ((IntKind.i64.wrap (v2 + 1)), v27, v28) (Nat.lt_succ_self _) h) ⟨I, I, I, I, I, I, I, I, J0⟩ ⟨I, I, I, I, I, J0⟩
     intro J29
     have hif := Z1h h
     refine Zq I (fun hc => ?_) (fun hc => ?_)
     ·have h := hif.1 hc
      refine Zb <| Z5 <| Z1 I (Z1n I a34 I I I I) I <| Z1 I (Z9 I I) I <| Z1 I (Zm I f60_0 I I) I <| Z1 I (Zs I o3 I I I) I ?_
      have ⟨v31, hv31, h⟩ := Z1a h
      refine Z1 I (Z1d (ar := [(Zf a0), (.str a1), (.int .i64 v21.At)]) Try.call26 (F26_ok K a0 a1 v21.At v31 hv31) I I ⟨I, I, I, J0⟩ I) I <| Z1 I (Zm I f60_4 I I) I <| Z1 I (Z1f sz36 I I I I I I I I) I <| Z7 <| Z8 <| Z1y mixed <| Za 0 I (Z9 I I) <| Za 1 I (Z1n I a60 I I I I) <| Za 2 I (Z1m (vs := [(.ag [(.int .i64 v21.At), (.str v21.Group), (.int .i64 v21.Kind), (.str v21.Who), (.sl 1 (v31.map Z1i) false)])]) (enc := Z3) (l := [(⟨v21.At, v21.Group, v21.Kind, v21.Who, v31⟩ : Z2)]) I el50 I I ⟨I, J0⟩ I Z2g I I I I) ?_
      have ⟨hg32, h⟩ := Zw h
      refine Za 3 I (Z2d (m := 9) (enc := Z3) (l := v3) (l' := [(⟨v21.At, v21.Group, v21.Kind, v21.Who, v31⟩ : Z2)]) (src := (.vs 120)) (rd := [(120, (.vec 5 (List.map Z3 [(⟨v21.At, v21.Group, v21.Kind, v21.Who, v31⟩ : Z2)])))]) I I el50 I u50 I I I I (oneRead I) Z2g hg32) <| Za 4 I (Z9 I I) <| Za 5 I (Zm I f60_3 I I) <| Za 6 I (Zs I o9 I I I) ?_
      have ⟨v34, hv34, h⟩ := Z1a h
      refine Za 7 I (st_call (d := some 125) (c := ⟨[(.vs 10), (.str v21.Who)] ++ [], [(10, (.vec 1 (List.map Z1i v4)))], .vs 10, [(10, .vec 1 (List.map Z1i v34))], [10]⟩) (ar := [(.vs 10), (.str v21.Who)]) (caps := []) (news := []) (forg := [10]) Try.call44 ((F44_ok K v4 v21.Who v34 hv34).sw 0 10) I I ⟨I, I, J0⟩ I ⟨I, J0⟩ I) <| Za 8 I (Zd I I) <| Za 9 I (Zd I I) <| Z1z (by kernel_rfl) I ?_
      exact Zz (J29 ((v3 ++ [(⟨v21.At, v21.Group, v21.Kind, v21.Who, v31⟩ : Z2)]), v34) h) ⟨I, I, I, I, I, I, I, I, J0⟩ ⟨I, I, I, I, I, J0⟩
     have h := hif.2 hc
     refine Z14 ?_
     exact Zz (J29 (v3, v4) h) ⟨I, I, I, I, I, I, I, I, J0⟩ ⟨I, I, I, I, I, J0⟩
    intro J24
    refine Z5 <| Z1 I (Zm I f60_0 I I) I <| Z1 I (Zs I o3 I I I) I <| Z1 I (Zm I f40_1 I I) I <| Z1 I (Zs I o3 I I I) I <| Z1 I (Z1c (c := (decide (v21.At ≥ a2.To))) I I I I) I <| Z1 I (Z9 I I) I ?_
    have hif := Z1h h
    refine Z16 (fun hc => ?_) (fun hc => ?_)
    ·have h := hif.1 hc
     iterate 4 refine Zg I I I I I I I ?_
     refine Z1 I (Z19 (v := (.bool true)) I I I) I <| Z1 I (Z9 (v := (.bool true)) I I) I ?_
     iterate 4 refine Zg I I I I I I I ?_
     iterate 4 refine Zg (u := .tup []) I I I I I I I ?_
     refine Zg I I I I I I I <| Z1 I (Z19 (v := (.bool true)) I I I) I <| Z7 ?_
     exact Zz (J24 true h) ⟨I, I, I, I, I, I, I, I, I, I, J0⟩ ⟨I, I, I, I, I, I, J0⟩
    have h := hif.2 hc
    refine Zc I I I I (Zm I f60_0 I I) I <| Zc I I I I (Zs I o3 I I I) I <| Zc I I I I (Z9 I I) I <| Zc I I I I (Z1c (c := (decide (v21.At ≥ a3))) I I I I) I <| Z1 I (Zy I I I) I <| Z1 I (Z9 I I) I ?_
    have hif := Z1h h
    refine Z16 (fun hc => ?_) (fun hc => ?_)
    ·have h := hif.1 hc
     iterate 4 refine Zg I I I I I I I ?_
     iterate 4 refine Zg (u := .tup []) I I I I I I I ?_
     refine Zg I I I I I I I <| Z1 I (Z19 (v := (.bool true)) I I I) I <| Z7 ?_
     exact Zz (J24 true h) ⟨I, I, I, I, I, I, I, I, I, I, J0⟩ ⟨I, I, I, I, I, I, J0⟩
    have h := hif.2 hc
    refine Zc I I I I (Zm I f60_2 I I) I <| Zc I I I I (Zs I o3 I I I) I <| Zc I I I I (Z1c (b := 2) (c := (v21.Kind == 2)) I I I I) I <| Zc I I I I (Z9 I I) I ?_
    have hif := Z1h h
    refine Z16 (fun hc => ?_) (fun hc => ?_)
    ·have h := hif.1 hc
     refine Zc I I I I (Zm I f34_0 I I) I <| Zc I I I I (Zm I f29_1 I I) I <| Zc I I I I (Zs I o3 I I I) I <| Zc I I I I (Z1c (b := 0) (c := (a0.Policy.Repeat == 0)) I I I I) I <| Zc I I I I (Z19 I I I) I <| Z1 I (Zy I I I) I <| Z7 ?_
     exact Zz (J24 (a0.Policy.Repeat == 0) h) ⟨I, I, I, I, I, I, I, I, I, I, J0⟩ ⟨I, I, I, I, I, I, J0⟩
    have h := hif.2 hc
    iterate 4 refine Zg I I I I I I I ?_
    refine Zc I I I I (Zy (v := (.bool false)) I I I) I <| Z1 I (Zy (v := (.bool false)) I I I) I <| Z7 ?_
    exact Zz (J24 false h) ⟨I, I, I, I, I, I, I, I, I, I, J0⟩ ⟨I, I, I, I, I, I, J0⟩
   intro J22
   have hif := Z1h h
   refine Zq I (fun hc => ?_) (fun hc => ?_)
   ·have h := hif.1 hc
    refine Z1y mixed <| Za 0 I (Zm I f34_0 I I) <| Za 1 I (Zm I f29_2 I I) <| Za 2 I (Zs I o27 I I I) <| Za 3 I (Z9 I I) ?_
    have ⟨hg35, h⟩ := Zw h
    refine Za 4 I (Z1s (k := .i64) (l := a0.Policy.Steps) (enc := Zj) (z := Zl) (n := v2) (full := false) I s27 I I hg35 I) <| Za 5 I (Z1w I f71_1 I I I) <| Za 6 I (Z1l I o9 I I) <| Za 7 I (Zm I f40_0 I I) <| Za 8 I (Zs I o3 I I I) <| Za 9 I (Zm I f34_0 I I) <| Za 10 I (Zm I f29_2 I I) <| Za 11 I (Zs I o27 I I I) <| Za 12 I (Z9 I I) ?_
    have ⟨hg36, h⟩ := Zw h
    refine Za 13 I (Z1s (k := .i64) (l := a0.Policy.Steps) (enc := Zj) (z := Zl) (n := v2) (full := false) I s27 I I hg36 I) <| Za 14 I (Z1w I f71_0 I I I) <| Za 15 I (Z1l I o3 I I) <| Za 16 I (Z1p (k := .i64) (c := (IntKind.i64.wrap (a2.From + (a0.Policy.Steps.getD v2.toNat Zl).After))) I I I I) <| Za 17 I (Zm I f60_2 I I) <| Za 18 I (Z1f (cs := [(.int .i64 0), (.str a1), (.int .i64 2), (.str (a0.Policy.Steps.getD (IntKind.i64.wrap ((a0.Policy.Steps.length : Int) - 1)).toNat Zl).Who), (.sl 1 [] false)]) (vs := [(.int .i64 1)]) (ds := [(.int .i64 0), (.str a1), (.int .i64 1), (.str (a0.Policy.Steps.getD (IntKind.i64.wrap ((a0.Policy.Steps.length : Int) - 1)).toNat Zl).Who), (.sl 1 [] false)]) (v := (.int .i64 1)) sz3 I I I I I I I I) <| Za 19 I (Zm I f60_3 I I) <| Za 20 I (Z1f sz9 I I I I I I I I) <| Za 21 I (Zm I f60_0 I I) <| Za 22 I (Z1f sz3 I I I I I I I I) <| Z1z (by kernel_rfl) I ?_
    exact Zz (J22 (⟨(IntKind.i64.wrap (a2.From + (a0.Policy.Steps.getD v2.toNat Zl).After)), a1, 1, (a0.Policy.Steps.getD v2.toNat Zl).Who, []⟩ : Z2) h) ⟨I, I, I, I, I, I, I, I, I, J0⟩ ⟨I, I, I, I, I, I, J0⟩
   have h := hif.2 hc
   refine Z5 <| Z1 I (Zm I f40_0 I I) I <| Z1 I (Zs I o3 I I I) I <| Z1 I (Zm I f71_0 I I) I <| Z1 I (Zs I o3 I I I) I <| Z1 I (Z1p (k := .i64) (c := (IntKind.i64.wrap (a2.From + (a0.Policy.Steps.getD (IntKind.i64.wrap ((a0.Policy.Steps.length : Int) - 1)).toNat Zl).After))) I I I I) I <| Z1 I (Z9 I I) I <| Z1 I (Zm I f34_0 I I) I <| Z1 I (Zm I f29_2 I I) I <| Z1 I (Zs I o27 I I I) I <| Z1 I (Z24 (l := a0.Policy.Steps) (enc := Zj) I s27 I) I <| Z1 I (Z1p (k := .i64) (c := (IntKind.i64.wrap (v2 - (a0.Policy.Steps.length : Int)))) I I I I) I <| Z1 I (Z1p (k := .i64) (b := 1) (c := (IntKind.i64.wrap ((IntKind.i64.wrap (v2 - (a0.Policy.Steps.length : Int))) + 1))) I I I I) I <| Z1 I (Zm I f34_0 I I) I <| Z1 I (Zm I f29_1 I I) I <| Z1 I (Zs I o3 I I I) I <| Z1 I (Z1p (k := .i64) (c := (IntKind.i64.wrap ((IntKind.i64.wrap ((IntKind.i64.wrap (v2 - (a0.Policy.Steps.length : Int))) + 1)) * a0.Policy.Repeat))) I I I I) I <| Z1 I (Z1p (k := .i64) (c := (IntKind.i64.wrap ((IntKind.i64.wrap (a2.From + (a0.Policy.Steps.getD (IntKind.i64.wrap ((a0.Policy.Steps.length : Int) - 1)).toNat Zl).After)) + (IntKind.i64.wrap ((IntKind.i64.wrap ((IntKind.i64.wrap (v2 - (a0.Policy.Steps.length : Int))) + 1)) * a0.Policy.Repeat))))) I I I I) I <| Z1 I (Zm I f60_0 I I) I <| Z1 I (Z1f sz3 I I I I I I I I) I <| Z7 ?_
   exact Zz (J22 (⟨(IntKind.i64.wrap ((IntKind.i64.wrap (a2.From + (a0.Policy.Steps.getD (IntKind.i64.wrap ((a0.Policy.Steps.length : Int) - 1)).toNat Zl).After)) + (IntKind.i64.wrap ((IntKind.i64.wrap ((IntKind.i64.wrap (v2 - (a0.Policy.Steps.length : Int))) + 1)) * a0.Policy.Repeat)))), a1, 2, (a0.Policy.Steps.getD (IntKind.i64.wrap ((a0.Policy.Steps.length : Int) - 1)).toNat Zl).Who, []⟩ : Z2) h) ⟨I, I, I, I, I, I, I, I, I, J0⟩ ⟨I, I, I, I, I, I, J0⟩
  have h := hif.2 hc
  refine Z1u <| Z26 ?_
  exact Zz (J5 (v3, v4) h) ⟨I, I, I, I, I, J0⟩ ⟨I, I, I, J0⟩
def F56 (_K : Nat) (a0 : Z2) (a1 : Z2) : Option (Bool) :=
 if (a0.At != a1.At) = true then
 some (decide (a0.At < a1.At))
 else
 if (!(a0.Group == a1.Group)) = true then
 some (slt a0.Group a1.Group)
 else
 if (a0.Kind != a1.Kind) = true then
 some (decide (a0.Kind < a1.Kind))
 else
 some (slt a0.Who a1.Who)
theorem F56_ok (K : Nat) (a0 : Z2) (a1 : Z2) (r : Bool) (h : F56 K a0 a1 = some r) : ACall P 56 ⟨[(Z3 a0), (Z3 a1)], [], (.bool r), [], []⟩ := by
 refine Z1v Try.func56 Try.results56 rfl Try.ntmps56 rfl rfl rfl ?_
 intro E Q hP hN hro hret
 obtain ⟨P', nt', w0, F0, p0, S0, β0, ro0⟩ := E
 simp only at hP hN
 subst hP hN
 dsimp only [argT]
 unfold F56 at h
 refine Zb <| Z5 <| Z1 I (Z2r I I I I I) I <| Z1 I (Z2r I I I I I) I <| Z1 I (Zd (v := (.bool false)) I I) I <| Z7 <| Z8 <| Zb <| Z1t <| Zb <| Z5 <| Z1 I (Zm I f60_0 I I) I <| Z1 I (Zs I o3 I I I) I <| Z1 I (Zm I f60_0 I I) I <| Z1 I (Zs I o3 I I I) I <| Z1 I (Z1c (c := (a0.At != a1.At)) I I I I) I <| Z1 I (Zd I I) I <| Z7 <| Z8 ?_
 have hif := Z1h h
 refine Zq I (fun hc => ?_) (fun hc => ?_)
 ·have h := hif.1 hc
  refine Zb <| Z5 <| Z1 I (Zm I f60_0 I I) I <| Z1 I (Zs I o3 I I I) I <| Z1 I (Zm I f60_0 I I) I <| Z1 I (Zs I o3 I I I) I <| Z1 I (Z1c (c := (decide (a0.At < a1.At))) I I I I) I <| Z1 I (Zd I I) I <| Z7 <| Z8 <| Z1e <| Z18 <| Zx ?_
  have h := Option.some.inj h
  subst h
  refine (hret _ ?_).1
  exact ⟨[(.bool (decide (a0.At < a1.At)))], ⟨I, J0⟩, I, J0⟩
 have h := hif.2 hc
 refine Zb <| Z5 <| Z1 I (Zm I f60_1 I I) I <| Z1 I (Zs I o9 I I I) I <| Z1 I (Zm I f60_1 I I) I <| Z1 I (Zs I o9 I I I) I <| Z1 I (Z2z (c := (!(a0.Group == a1.Group))) I I I I) I <| Z1 I (Zd I I) I <| Z7 <| Z8 ?_
 have hif := Z1h h
 refine Zq I (fun hc => ?_) (fun hc => ?_)
 ·have h := hif.1 hc
  refine Zb <| Z5 <| Z1 I (Zm I f60_1 I I) I <| Z1 I (Zs I o9 I I I) I <| Z1 I (Zm I f60_1 I I) I <| Z1 I (Zs I o9 I I I) I <| Z1 I (Z2z (c := (slt a0.Group a1.Group)) I I I I) I <| Z1 I (Zd I I) I <| Z7 <| Z8 <| Z1e <| Z18 <| Zx ?_
  have h := Option.some.inj h
  subst h
  refine (hret _ ?_).1
  exact ⟨[(.bool (slt a0.Group a1.Group))], ⟨I, J0⟩, I, J0⟩
 have h := hif.2 hc
 refine Zb <| Z5 <| Z1 I (Zm I f60_2 I I) I <| Z1 I (Zs I o3 I I I) I <| Z1 I (Zm I f60_2 I I) I <| Z1 I (Zs I o3 I I I) I <| Z1 I (Z1c (c := (a0.Kind != a1.Kind)) I I I I) I <| Z1 I (Zd I I) I <| Z7 <| Z8 ?_
 have hif := Z1h h
 refine Zq I (fun hc => ?_) (fun hc => ?_)
 ·have h := hif.1 hc
  refine Zb <| Z5 <| Z1 I (Zm I f60_2 I I) I <| Z1 I (Zs I o3 I I I) I <| Z1 I (Zm I f60_2 I I) I <| Z1 I (Zs I o3 I I I) I <| Z1 I (Z1c (c := (decide (a0.Kind < a1.Kind))) I I I I) I <| Z1 I (Zd I I) I <| Z7 <| Z8 <| Z1e <| Z18 <| Zx ?_
  have h := Option.some.inj h
  subst h
  refine (hret _ ?_).1
  exact ⟨[(.bool (decide (a0.Kind < a1.Kind)))], ⟨I, J0⟩, I, J0⟩
 have h := hif.2 hc
 refine Z14 <| Z27 <| Z8 <| Zb <| Z5 <| Z1 I (Zm I f60_3 I I) I <| Z1 I (Zs I o9 I I I) I <| Z1 I (Zm I f60_3 I I) I <| Z1 I (Zs I o9 I I I) I <| Z1 I (Z2z (c := (slt a0.Who a1.Who)) I I I I) I <| Z1 I (Zd I I) I <| Z7 <| Z8 <| Z1e ?_
 have h := Option.some.inj h
 subst h
 refine (hret _ ?_).1
 exact ⟨[(.bool (slt a0.Who a1.Who))], ⟨I, J0⟩, I, J0⟩
def F30_c7 (_K : Nat) (v6 : (List Z2)) : Option ((List Z2)) :=
 some v6
def F30_c18 (_K : Nat) (b9 : Int → (List Z2) → Option ((List Z2))) (v3 : Int) (v17 : (List Z2)) : Option ((List Z2)) :=
 b9 (IntKind.i64.wrap (v3 + 1)) v17
def F30_c30 (_K : Nat) (b20 : Int → (List Z2) → Option ((List Z2))) (v14 : Int) (v29 : (List Z2)) : Option ((List Z2)) :=
 b20 (IntKind.i64.wrap (v14 + 1)) v29
def F30_c36 (_K : Nat) (v27 : (List Z2)) (v26 : Int) (v25 : (List Z2)) (b32 : Int → (List Z2) → Option ((List Z2))) (v35 : Int) : Option ((List Z2)) :=
 if (0 : Int) ≤ v35 ∧ v35 ≤ (v27.length : Nat) then
 if (0 : Int) ≤ v26 ∧ v26 < v25.length then
 if (0 : Int) ≤ v35 ∧ v35 ≤ (v27.length : Int) ∧ (v27.length : Int) ≤ (v27.length : Nat) then
 if (0 + v35.toNat) + ((v27.length : Int).toNat - v35.toNat) ≤ v27.length then
 if (0 + v35.toNat) + ((v27.length : Int).toNat - v35.toNat) ≤ v27.length then
 if [(v25.getD v26.toNat Zi)].length + ((v27.drop (0 + v35.toNat)).take ((v27.length : Int).toNat - v35.toNat)).length ≤ 1073741824 then
 if 0 + v35.toNat ≤ v27.length then
 if ((v27.drop 0).take v35.toNat).length + ([(v25.getD v26.toNat Zi)] ++ ((v27.drop (0 + v35.toNat)).take ((v27.length : Int).toNat - v35.toNat))).length ≤ 1073741824 then
 if ([(v25.getD v26.toNat Zi)] ++ ((v27.drop (0 + v35.toNat)).take ((v27.length : Int).toNat - v35.toNat))) ≠ [] then
 b32 (IntKind.i64.wrap (v26 + 1)) (((v27.drop 0).take v35.toNat) ++ ([(v25.getD v26.toNat Zi)] ++ ((v27.drop (0 + v35.toNat)).take ((v27.length : Int).toNat - v35.toNat))))
 else none
 else none
 else none
 else none
 else none
 else none
 else none
 else none
 else none
def F30_l34 (K : Nat) (v26 : Int) (v25 : (List Z2)) (v27 : (List Z2)) (c37 : Int → Option ((List Z2))) : Nat → Int → Option ((List Z2))
 | 0, _ => none
 | k34 + 1, v33 =>
 if (decide (v33 > 0)) = true then
 if (0 : Int) ≤ v26 ∧ v26 < v25.length then
 if (0 : Int) ≤ (IntKind.i64.wrap (v33 - 1)) ∧ (IntKind.i64.wrap (v33 - 1)) < (v27.length : Nat) then
 if (IntKind.i64.wrap (v33 - 1)).toNat < v27.length then
 (F56 K (v25.getD v26.toNat Zi) (v27.getD (IntKind.i64.wrap (v33 - 1)).toNat Zi)).bind fun v52 =>
 if v52 = true then
 (F30_l34 K v26 v25 v27 c37 k34) (IntKind.i64.wrap (v33 - 1))
 else
 c37 v33
 else none
 else none
 else none
 else
 c37 v33
def F30_l28 (K : Nat) (v25 : (List Z2)) (c31 : (List Z2) → Option ((List Z2))) : Nat → Int → (List Z2) → Option ((List Z2))
 | 0, _, _ => none
 | k28 + 1, v26, v27 =>
 if (decide (v26 < (v25.length : Int))) = true then
 F30_l34 K v26 v25 v27 (F30_c36 K v27 v26 v25 (F30_l28 K v25 c31 k28)) K (v27.length : Int)
 else
 c31 v27
def F30_l16 (K : Nat) (v13 : (List Z4)) (v3 : Int) (v2 : (List Str)) (a0 : Ze) (a1 : Int) (c19 : (List Z2) → Option ((List Z2))) : Nat → Int → (List Z2) → Option ((List Z2))
 | 0, _, _ => none
 | k16 + 1, v14, v15 =>
 if (decide (v14 < (v13.length : Int))) = true then
 if (0 : Int) ≤ v3 ∧ v3 < (v2.length : Nat) then
 if v3.toNat < v2.length then
 if (0 : Int) ≤ v14 ∧ v14 < v13.length then
 (F55 K a0 (v2.getD v3.toNat []) (v13.getD v14.toNat Z10) a1).bind fun v25 =>
 F30_l28 K v25 (F30_c30 K (F30_l16 K v13 v3 v2 a0 a1 c19 k16) v14) K 0 v15
 else none
 else none
 else none
 else
 c19 v15
def F30_l5 (K : Nat) (v2 : (List Str)) (a0 : Ze) (a1 : Int) (c8 : (List Z2) → Option ((List Z2))) : Nat → Int → (List Z2) → Option ((List Z2))
 | 0, _, _ => none
 | k5 + 1, v3, v4 =>
 if (decide (v3 < (v2.length : Int))) = true then
 if (0 : Int) ≤ v3 ∧ v3 < (v2.length : Nat) then
 if v3.toNat < v2.length then
 (F24 K a0 (v2.getD v3.toNat [])).bind fun v13 =>
 F30_l16 K v13 v3 v2 a0 a1 (F30_c18 K (F30_l5 K v2 a0 a1 c8 k5) v3) K 0 v4
 else none
 else none
 else
 c8 v4
def F30 (K : Nat) (a0 : Ze) (a1 : Int) : Option ((List Z2)) :=
 (F15 K a0).bind fun v2 =>
 F30_l5 K v2 a0 a1 (F30_c7 K) K 0 []
theorem F30_ok (K : Nat) (a0 : Ze) (a1 : Int) (r : (List Z2)) (h : F30 K a0 a1 = some r) : ACall P 30 ⟨[(Zf a0), (.int .i64 a1)], [], (.sl 5 (r.map Z3) false), [], []⟩ := by
 refine Z1v Try.func30 Try.results30 rfl Try.ntmps30 rfl rfl rfl ?_
 intro E Q hP hN hro hret
 obtain ⟨P', nt', w0, F0, p0, S0, β0, ro0⟩ := E
 simp only at hP hN
 subst hP hN
 dsimp only [argT]
 unfold F30 at h
 refine Zb <| Z5 <| Z1 I (Z2r I I I I I) I <| Z1 I (Zd (v := (.sl 5 [] false)) I I) I <| Z7 <| Z8 <| Zb <| Z5 <| Z1 I (Zd (v := (.sl 5 [] true)) I I) I <| Z7 <| Z8 <| Zb <| Z5 <| Z1 I (Z1n I a34 I I I I) I ?_
 have ⟨v2, hv2, h⟩ := Z1a h
 refine Z1 I (st_callO (sz := 1) (es := (List.map Z1i v2)) (ar := [(Zf a0)]) (caps := []) Try.call15 ((F15_ok K a0 v2 hv2).sw 2 14) I I ⟨I, J0⟩ I) I <| Z1 I (Zd I I) I <| Z7 <| Z8 <| Zb <| Zb <| Z5 <| Z1 I (Zd (v := (.int .i64 0)) I I) I <| Z7 <| Z8 <| Z2p (st' := ⟨[(1, (.int .i64 a1)), (2, (.ptr 2 0)), (5, (.vs 5)), (6, (.vs 6)), (7, (.int .i64 0))], [(2, (.box (Zf a0).cells)), (5, (.vec 5 (List.map Z3 ([] : List Z2)))), (6, (.vec 1 (List.map Z1i v2)))]⟩) (fun a w h => (Z1k _ (ghost_sw (a := 14) (b := 6) I I a w (Z1k ⟨[(1, (.int .i64 a1)), (2, (.ptr 2 0)), (5, (.vs 5)), (6, (.vs 14)), (7, (.int .i64 0))], [(2, (.box (Zf a0).cells)), (5, (.vec 5 (List.map Z3 ([] : List Z2)))), (14, (.vec 1 (List.map Z1i v2)))]⟩ (Z1k ⟨[(1, (.int .i64 a1)), (2, (.ptr 2 0)), (5, (.vs 5)), (6, (.vs 14)), (7, (.int .i64 0))], [(2, (.box (Zf a0).cells)), (5, (.vec 5 (List.map Z3 ([] : List Z2)))), (14, (.vec 1 (List.map Z1i v2)))]⟩ (ghost_own (k := 5) (m := 5) (sz := 5) I I a w (Z1k ⟨[(5, (.sl 5 [] true)), (1, (.int .i64 a1)), (2, (.ptr 2 0)), (6, (.vs 14)), (7, (.int .i64 0))], [(2, (.box (Zf a0).cells)), (14, (.vec 1 (List.map Z1i v2)))]⟩ h ⟨I, I, I, I, I, J0⟩ ⟨I, I, J0⟩)) ⟨I, I, I, I, I, J0⟩ ⟨I, I, I, J0⟩) ⟨I, I, I, I, I, J0⟩ ⟨I, I, I, J0⟩)) ⟨I, I, I, I, I, J0⟩ ⟨I, I, I, J0⟩)) <| Z1r (st' := ⟨[(1, (.int .i64 a1)), (2, (.ptr 2 0)), (5, (.vs 5)), (6, (.vs 6)), (7, (.int .i64 0))], [(2, (.box (Zf a0).cells)), (5, (.vec 5 (List.map Z3 []))), (6, (.vec 1 (List.map Z1i v2)))]⟩) ⟨I, I, I, I, I, J0⟩ ⟨I, I, I, J0⟩ ?_
 refine Z1o (V := Int × (List Z2)) (X := (List Z2)) (lp := fun k v => F30_l5 K v2 a0 a1 (F30_c7 K) k v.1 v.2 = some r) (sh := fun v => ⟨[(1, (.int .i64 a1)), (2, (.ptr 2 0)), (5, (.vs 5)), (6, (.vs 6)), (7, (.int .i64 v.1))], [(2, (.box (Zf a0).cells)), (5, (.vec 5 (List.map Z3 v.2))), (6, (.vec 1 (List.map Z1i v2)))]⟩) (x := fun v => F30_c7 K v = some r) (shx := fun v => ⟨[(5, (.vs 5))], [(5, (.vec 5 (List.map Z3 v)))]⟩) (k := K) (v := (0, [])) h ?_ ?_
 ·intro v h
  revert h
  revert v
  intro v6 h
  try dsimp only at h ⊢
  unfold F30_c7 at h
  refine Z8 <| Zb <| Z5 <| Z1 I (Z9 I I) I <| Z1 I (Zd I I) I <| Z7 <| Z8 <| Z1e <| Z2w (st' := ⟨[(4, (.sl 5 (v6.map Z3) false))], []⟩) (fun a w h => (Z1k _ (Z22 (m := 5) (sz := 5) (es := (List.map Z3 v6)) a w (Z1k ⟨[(4, (.vs 5))], [(5, (.vec 5 (List.map Z3 v6)))]⟩ h ⟨I, J0⟩ ⟨I, J0⟩)) ⟨I, J0⟩ J0)) ?_
  have h := Option.some.inj h
  subst h
  refine (hret _ ?_).1
  exact ⟨[(.sl 5 (v6.map Z3) false)], ⟨I, J0⟩, I, J0⟩
 intro N k5 v h IH5 J5
 obtain ⟨v3, v4⟩ := v
 try dsimp only at h IH5 J5 ⊢
 cases k5 with
 | zero => cases h
 | succ k5 =>
  rw [F30_l5] at h
  refine Zb <| Zb <| Z5 <| Z1 I (Z9 I I) I <| Z1 I (Z9 I I) I <| Z1 I (stx_lenV I u36 I I) I <| Z1 I (Z1c (c := (decide (v3 < (v2.length : Int)))) I I I I) I <| Z7 <| Z8 ?_
  have hif := Z1h h
  refine Zq I (fun hc => ?_) (fun hc => ?_)
  ·have h := hif.1 hc
   refine Z14 <| Z8 <| Zb <| Z1t <| Zb <| Z1y mixed <| Za 0 I (Z1n I a34 I I I I) <| Za 1 I (Z9 I I) <| Za 2 I (Z9 I I) ?_
   have ⟨hg10, h⟩ := Zw h
   refine Za 3 I (Z32 (k := .i64) (v := (.vs 6)) (n := 6) (off := 0) (len := v2.length) (es := (List.map Z1i v2)) (j := v3) (m := v3.toNat) I s36 I I (Z31 _ _ _) I hg10 (Nat.zero_add _)) ?_
   have ⟨hg11, h⟩ := Zw h
   refine Za 4 I (Z3o (l := v2) (enc := Z1i) (z := []) (v := (.str (v2.getD v3.toNat []))) I o9 I I hg11 I) ?_
   have ⟨v13, hv13, h⟩ := Z1a h
   refine Za 5 I (Z1d (ar := [(Zf a0), (.str (v2.getD v3.toNat []))]) Try.call24 (F24_ok K a0 (v2.getD v3.toNat []) v13 hv13) I I ⟨I, I, J0⟩ I) <| Za 6 I (Zd I I) <| Z1z (by kernel_rfl) I <| Z8 <| Zb <| Z5 <| Z1 I (Zd (v := (.int .i64 0)) I I) I <| Z7 <| Z8 <| Z1r (st' := ⟨[(1, (.int .i64 a1)), (2, (.ptr 2 0)), (5, (.vs 5)), (6, (.vs 6)), (7, (.int .i64 v3)), (8, (.sl 2 (v13.map Z6) false)), (9, (.int .i64 0))], [(2, (.box (Zf a0).cells)), (5, (.vec 5 (List.map Z3 v4))), (6, (.vec 1 (List.map Z1i v2)))]⟩) ⟨I, I, I, I, I, I, I, J0⟩ ⟨I, I, I, J0⟩ ?_
   refine Z1o (V := Int × (List Z2)) (X := (List Z2)) (lp := fun k v => F30_l16 K v13 v3 v2 a0 a1 (F30_c18 K (F30_l5 K v2 a0 a1 (F30_c7 K) k5) v3) k v.1 v.2 = some r) (sh := fun v => ⟨[(1, (.int .i64 a1)), (2, (.ptr 2 0)), (5, (.vs 5)), (6, (.vs 6)), (7, (.int .i64 v3)), (8, (.sl 2 (v13.map Z6) false)), (9, (.int .i64 v.1))], [(2, (.box (Zf a0).cells)), (5, (.vec 5 (List.map Z3 v.2))), (6, (.vec 1 (List.map Z1i v2)))]⟩) (x := fun v => F30_c18 K (F30_l5 K v2 a0 a1 (F30_c7 K) k5) v3 v = some r) (shx := fun v => ⟨[(1, (.int .i64 a1)), (2, (.ptr 2 0)), (5, (.vs 5)), (6, (.vs 6)), (7, (.int .i64 v3))], [(2, (.box (Zf a0).cells)), (5, (.vec 5 (List.map Z3 v))), (6, (.vec 1 (List.map Z1i v2)))]⟩) (k := K) (v := (0, v4)) h ?_ ?_
   ·intro v h
    revert h
    revert v
    intro v17 h
    try dsimp only at h ⊢
    unfold F30_c18 at h
    refine Z27 <| Z8 <| Z5 <| Z1 I (Z9 I I) I <| Z1 I (Z1p (k := .i64) (b := 1) (c := (IntKind.i64.wrap (v3 + 1))) I I I I) I <| Z1 I (Zd I I) I <| Z7 ?_
    exact Zz (IH5 _ ((IntKind.i64.wrap (v3 + 1)), v17) (Nat.lt_succ_self _) h) ⟨I, I, I, I, I, J0⟩ ⟨I, I, I, J0⟩
   intro N k16 v h IH16 J16
   obtain ⟨v14, v15⟩ := v
   try dsimp only at h IH16 J16 ⊢
   cases k16 with
   | zero => cases h
   | succ k16 =>
    rw [F30_l16] at h
    refine Zb <| Zb <| Z5 <| Z1 I (Z9 I I) I <| Z1 I (Z9 I I) I <| Z1 I (Z24 (l := v13) (enc := Z6) I s45 I) I <| Z1 I (Z1c (c := (decide (v14 < (v13.length : Int)))) I I I I) I <| Z7 <| Z8 ?_
    have hif := Z1h h
    refine Zq I (fun hc => ?_) (fun hc => ?_)
    ·have h := hif.1 hc
     refine Z14 <| Z8 <| Zb <| Z1t <| Zb <| Z1y mixed <| Za 0 I (Z1n I a34 I I I I) <| Za 1 I (Z9 I I) <| Za 2 I (Z9 I I) ?_
     have ⟨hg21, h⟩ := Zw h
     refine Za 3 I (Z32 (k := .i64) (v := (.vs 6)) (n := 6) (off := 0) (len := v2.length) (es := (List.map Z1i v2)) (j := v3) (m := v3.toNat) I s36 I I (Z31 _ _ _) I hg21 (Nat.zero_add _)) ?_
     have ⟨hg22, h⟩ := Zw h
     refine Za 4 I (Z3o (l := v2) (enc := Z1i) (z := []) (v := (.str (v2.getD v3.toNat []))) I o9 I I hg22 I) <| Za 5 I (Z9 I I) <| Za 6 I (Z9 I I) ?_
     have ⟨hg23, h⟩ := Zw h
     refine Za 7 I (Z1s (k := .i64) (l := v13) (enc := Z6) (z := Z10) (n := v14) (full := false) I s45 I I hg23 I) <| Za 8 I (Z28 I a40 I I I) <| Za 9 I (Z9 I I) ?_
     have ⟨v25, hv25, h⟩ := Z1a h
     refine Za 10 I (Z1d (ar := [(Zf a0), (.str (v2.getD v3.toNat [])), (Z6 (v13.getD v14.toNat Z10)), (.int .i64 a1)]) Try.call55 (F55_ok K a0 (v2.getD v3.toNat []) (v13.getD v14.toNat Z10) a1 v25 hv25) I I ⟨I, I, I, I, J0⟩ I) <| Za 11 I (Zd I I) <| Z1z (by kernel_rfl) I <| Z8 <| Zb <| Z5 <| Z1 I (Zd (v := (.int .i64 0)) I I) I <| Z7 <| Z8 <| Z1r (st' := ⟨[(1, (.int .i64 a1)), (2, (.ptr 2 0)), (5, (.vs 5)), (6, (.vs 6)), (7, (.int .i64 v3)), (8, (.sl 2 (v13.map Z6) false)), (9, (.int .i64 v14)), (10, (.sl 5 (v25.map Z3) false)), (11, (.int .i64 0))], [(2, (.box (Zf a0).cells)), (5, (.vec 5 (List.map Z3 v15))), (6, (.vec 1 (List.map Z1i v2)))]⟩) ⟨I, I, I, I, I, I, I, I, I, J0⟩ ⟨I, I, I, J0⟩ ?_
     refine Z1o (V := Int × (List Z2)) (X := (List Z2)) (lp := fun k v => F30_l28 K v25 (F30_c30 K (F30_l16 K v13 v3 v2 a0 a1 (F30_c18 K (F30_l5 K v2 a0 a1 (F30_c7 K) k5) v3) k16) v14) k v.1 v.2 = some r) (sh := fun v => ⟨[(1, (.int .i64 a1)), (2, (.ptr 2 0)), (5, (.vs 5)), (6, (.vs 6)), (7, (.int .i64 v3)), (8, (.sl 2 (v13.map Z6) false)), (9, (.int .i64 v14)), (10, (.sl 5 (v25.map Z3) false)), (11, (.int .i64 v.1))], [(2, (.box (Zf a0).cells)), (5, (.vec 5 (List.map Z3 v.2))), (6, (.vec 1 (List.map Z1i v2)))]⟩) (x := fun v => F30_c30 K (F30_l16 K v13 v3 v2 a0 a1 (F30_c18 K (F30_l5 K v2 a0 a1 (F30_c7 K) k5) v3) k16) v14 v = some r) (shx := fun v => ⟨[(1, (.int .i64 a1)), (2, (.ptr 2 0)), (5, (.vs 5)), (6, (.vs 6)), (7, (.int .i64 v3)), (8, (.sl 2 (v13.map Z6) false)), (9, (.int .i64 v14))], [(2, (.box (Zf a0).cells)), (5, (.vec 5 (List.map Z3 v))), (6, (.vec 1 (List.map Z1i v2)))]⟩) (k := K) (v := (0, v15)) h ?_ ?_
     ·intro v h
      revert h
      revert v
      intro v29 h
      try dsimp only at h ⊢
      unfold F30_c30 at h
      refine Z27 <| Z8 <| Z5 <| Z1 I (Z9 I I) I <| Z1 I (Z1p (k := .i64) (b := 1) (c := (IntKind.i64.wrap (v14 + 1))) I I I I) I <| Z1 I (Zd I I) I <| Z7 ?_
      exact Zz (IH16 _ ((IntKind.i64.wrap (v14 + 1)), v29) (Nat.lt_succ_self _) h) ⟨I, I, I, I, I, I, I, J0⟩ ⟨I, I, I, J0⟩
     intro N k28 v h IH28 J28
     obtain ⟨v26, v27⟩ := v
     try dsimp only at h IH28 J28 ⊢
     cases k28 with
     | zero => cases h
     | succ k28 =>
      rw [F30_l28] at h
      refine Zb <| Zb <| Z5 <| Z1 I (Z9 I I) I <| Z1 I (Z9 I I) I <| Z1 I (Z24 (l := v25) (enc := Z3) I s50 I) I <| Z1 I (Z1c (c := (decide (v26 < (v25.length : Int)))) I I I I) I <| Z7 <| Z8 ?_
      have hif := Z1h h
      refine Zq I (fun hc => ?_) (fun hc => ?_)
      ·have h := hif.1 hc
       refine Z14 <| Z8 <| Zb <| Z1t <| Zb <| Z5 <| Z1 I (Z9 I I) I <| Z1 I (stx_lenV I u50 I I) I <| Z1 I (Zd I I) I <| Z7 <| Z8 <| Zb <| Z1r (st' := ⟨[(1, (.int .i64 a1)), (2, (.ptr 2 0)), (5, (.vs 5)), (6, (.vs 6)), (7, (.int .i64 v3)), (8, (.sl 2 (v13.map Z6) false)), (9, (.int .i64 v14)), (10, (.sl 5 (v25.map Z3) false)), (11, (.int .i64 v26)), (12, (.int .i64 (v27.length : Int)))], [(2, (.box (Zf a0).cells)), (5, (.vec 5 (List.map Z3 v27))), (6, (.vec 1 (List.map Z1i v2)))]⟩) ⟨I, I, I, I, I, I, I, I, I, I, J0⟩ ⟨I, I, I, J0⟩ ?_
       refine Z1o (V := Int) (X := Int) (lp := fun k v => F30_l34 K v26 v25 v27 (F30_c36 K v27 v26 v25 (F30_l28 K v25 (F30_c30 K (F30_l16 K v13 v3 v2 a0 a1 (F30_c18 K (F30_l5 K v2 a0 a1 (F30_c7 K) k5) v3) k16) v14) k28)) k v = some r) (sh := fun v => ⟨[(1, (.int .i64 a1)), (2, (.ptr 2 0)), (5, (.vs 5)), (6, (.vs 6)), (7, (.int .i64 v3)), (8, (.sl 2 (v13.map Z6) false)), (9, (.int .i64 v14)), (10, (.sl 5 (v25.map Z3) false)), (11, (.int .i64 v26)), (12, (.int .i64 v))], [(2, (.box (Zf a0).cells)), (5, (.vec 5 (List.map Z3 v27))), (6, (.vec 1 (List.map Z1i v2)))]⟩) (x := fun v => F30_c36 K v27 v26 v25 (F30_l28 K v25 (F30_c30 K (F30_l16 K v13 v3 v2 a0 a1 (F30_c18 K (F30_l5 K v2 a0 a1 (F30_c7 K) k5) v3) k16) v14) k28) v = some r) (shx := fun v => ⟨[(1, (.int .i64 a1)), (2, (.ptr 2 0)), (5, (.vs 5)), (6, (.vs 6)), (7, (.int .i64 v3)), (8, (.sl 2 (v13.map Z6) false)), (9, (.int .i64 v14)), (10, (.sl 5 (v25.map Z3) false)), (11, (.int .i64 v26)), (12, (.int .i64 v))], [(2, (.box (Zf a0).cells)), (5, (.vec 5 (List.map Z3 v27))), (6, (.vec 1 (List.map Z1i v2)))]⟩) (k := K) (v := (v27.length : Int)) h ?_ ?_
       ·intro v h
        revert h
        revert v
        intro v35 h
        try dsimp only at h ⊢
        unfold F30_c36 at h
        refine Z8 <| Z1y mixed <| Za 0 I (Z9 I I) <| Za 1 I (Z9 I I) <| Za 2 I (Z9 I I) ?_
        have ⟨hg38, h⟩ := Zw h
        refine Za 3 I (stx_slice3V (kh := .i64) (v := (.vs 5)) (n := 5) (off := 0) (len := v27.length) (l := v27) (enc := Z3) (h := v35) I s50 I I (Z31 _ _ _) I I hg38) <| Za 4 I (Z9 I I) <| Za 5 I (Z9 I I) ?_
        have ⟨hg39, h⟩ := Zw h
        refine Za 6 I (Z1s (k := .i64) (l := v25) (enc := Z3) (z := Zi) (n := v26) (full := false) I s50 I I hg39 I) <| Za 7 I (Z28 I a60 I I I) <| Za 8 I (Z1m (vs := [(Z3 (v25.getD v26.toNat Zi))]) (enc := Z3) (l := [(v25.getD v26.toNat Zi)]) I el50 I I ⟨I, J0⟩ I Z2g I I I I) <| Za 9 I (Z9 I I) <| Za 10 I (Z9 I I) ?_
        have ⟨hg40, h⟩ := Zw h
        have ⟨hg41, h⟩ := Zw h
        refine Za 11 I (stx_sliceVL (v := (.vs 5)) (n := 5) (off := 0) (len := v27.length) (l := v27) (enc := Z3) (kl := .i64) (lo := v35) I s50 I I (Z31 _ _ _) I hg40 I) ?_
        have ⟨hg42, h⟩ := Zw h
        have ⟨hg43, h⟩ := Zw h
        refine Za 12 I (Z2d (m := 76) (enc := Z3) (l := [(v25.getD v26.toNat Zi)]) (l' := ((v27.drop (0 + v35.toNat)).take ((v27.length : Int).toNat - v35.toNat))) (src := (.vsub 5 (0 + v35.toNat) ((v27.length : Int).toNat - v35.toNat) false)) (rd := [(5, (.vec 5 (List.map Z3 v27)))]) I I el50 I u50 I I I (srcR_vsub hg42) (oneRead I) Z2g hg43) ?_
        have ⟨hg44, h⟩ := Zw h
        have ⟨hg45, h⟩ := Zw h
        have ⟨hg46, h⟩ := Zw h
        refine Za 13 I (st_appendNew (enc := Z3) (l := ((v27.drop 0).take v35.toNat)) (l' := ([(v25.getD v26.toNat Zi)] ++ ((v27.drop (0 + v35.toNat)).take ((v27.length : Int).toNat - v35.toNat)))) (dst := (.vsub 5 0 v35.toNat true)) (src := (.vs 76)) (rd := [(5, (.vec 5 (List.map Z3 v27)))]) (rd' := [(76, (.vec 5 (List.map Z3 ([(v25.getD v26.toNat Zi)] ++ ((v27.drop (0 + v35.toNat)).take ((v27.length : Int).toNat - v35.toNat))))))]) I el50 I u50 I (srcR_vsub hg44) I (oneRead I) I I (oneRead I) Z2g hg45 (.inr hg46)) <| Za 14 I (Zd I I) <| Z1z (by kernel_rfl) I <| Z27 <| Z8 <| Z5 <| Z1 I (Z9 I I) I <| Z1 I (Z1p (k := .i64) (b := 1) (c := (IntKind.i64.wrap (v26 + 1))) I I I I) I <| Z1 I (Zd I I) I <| Z7 <| Z2w (st' := ⟨[(1, (.int .i64 a1)), (2, (.ptr 2 0)), (5, (.vs 5)), (6, (.vs 6)), (7, (.int .i64 v3)), (8, (.sl 2 (v13.map Z6) false)), (9, (.int .i64 v14)), (10, (.sl 5 (v25.map Z3) false)), (11, (.int .i64 (IntKind.i64.wrap (v26 + 1))))], [(2, (.box (Zf a0).cells)), (5, (.vec 5 (List.map Z3 (((v27.drop 0).take v35.toNat) ++ ([(v25.getD v26.toNat Zi)] ++ ((v27.drop (0 + v35.toNat)).take ((v27.length : Int).toNat - v35.toNat))))))), (6, (.vec 1 (List.map Z1i v2)))]⟩) (fun a w h => (Z1k _ (ghost_sw (a := 81) (b := 5) I I a w (Z1k ⟨[(1, (.int .i64 a1)), (2, (.ptr 2 0)), (5, (.vs 81)), (6, (.vs 6)), (7, (.int .i64 v3)), (8, (.sl 2 (v13.map Z6) false)), (9, (.int .i64 v14)), (10, (.sl 5 (v25.map Z3) false)), (11, (.int .i64 (IntKind.i64.wrap (v26 + 1))))], [(2, (.box (Zf a0).cells)), (6, (.vec 1 (List.map Z1i v2))), (81, (.vec 5 (List.map Z3 (((v27.drop 0).take v35.toNat) ++ ([(v25.getD v26.toNat Zi)] ++ ((v27.drop (0 + v35.toNat)).take ((v27.length : Int).toNat - v35.toNat)))))))]⟩ h ⟨I, I, I, I, I, I, I, I, I, J0⟩ ⟨I, I, I, J0⟩)) ⟨I, I, I, I, I, I, I, I, I, J0⟩ ⟨I, I, I, J0⟩)) ?_
        exact Zz (IH28 _ ((IntKind.i64.wrap (v26 + 1)), (((v27.drop 0).take v35.toNat) ++ ([(v25.getD v26.toNat Zi)] ++ ((v27.drop (0 + v35.toNat)).take ((v27.length : Int).toNat - v35.toNat))))) (Nat.lt_succ_self _) h) ⟨I, I, I, I, I, I, I, I, I, J0⟩ ⟨I, I, I, J0⟩
       intro N k34 v h IH34 J34
       revert h
       revert v
       intro v33 h
       try dsimp only at h IH34 J34 ⊢
       cases k34 with
       | zero => cases h
       | succ k34 =>
        rw [F30_l34] at h
        refine Zb <| Zb <| Z1y mixed <| Za 0 I (Z9 I I) <| Za 1 I (Z1c (b := 0) (c := (decide (v33 > 0))) I I I I) <| Za 2 I (Z9 I I) ?_
        have hif := Z1h h
        refine Z3f (fun hc => ?_) (fun hc => ?_)
        ·have h := hif.1 hc
         refine Z17 3 I I I I (Z9 I I) <| Z17 4 I I I I (Z9 I I) ?_
         have ⟨hg48, h⟩ := Zw h
         refine Z17 5 I I I I (Z1s (k := .i64) (l := v25) (enc := Z3) (z := Zi) (n := v26) (full := false) I s50 I I hg48 I) <| Z17 6 I I I I (Z28 I a60 I I I) <| Z17 7 I I I I (Z9 I I) <| Z17 8 I I I I (Z9 I I) <| Z17 9 I I I I (Z1p (k := .i64) (b := 1) (c := (IntKind.i64.wrap (v33 - 1))) I I I I) ?_
         have ⟨hg49, h⟩ := Zw h
         refine Z17 10 I I I I (Z32 (k := .i64) (v := (.vs 5)) (n := 5) (off := 0) (len := v27.length) (es := (List.map Z3 v27)) (j := (IntKind.i64.wrap (v33 - 1))) (m := (IntKind.i64.wrap (v33 - 1)).toNat) I s50 I I (Z31 _ _ _) I hg49 (Nat.zero_add _)) ?_
         have ⟨hg50, h⟩ := Zw h
         refine Z17 11 I I I I (st_loadVA (l := v27) (enc := Z3) (z := Zi) (vs := (Z3 (v27.getD (IntKind.i64.wrap (v33 - 1)).toNat Zi)).cells) I a60 I I hg50 I I) ?_
         have ⟨v52, hv52, h⟩ := Z1a h
         refine Z17 12 I I I I (Z1d (ar := [(Z3 (v25.getD v26.toNat Zi)), (Z3 (v27.getD (IntKind.i64.wrap (v33 - 1)).toNat Zi))]) Try.call56 (F56_ok K (v25.getD v26.toNat Zi) (v27.getD (IntKind.i64.wrap (v33 - 1)).toNat Zi) v52 hv52) I I ⟨I, I, J0⟩ I) <| Za 13 I (Z19 I I I) <| Z1z (by kernel_rfl) I <| Z8 ?_
         have hif := Z1h h
         refine Zq I (fun hc => ?_) (fun hc => ?_)
         ·have h := hif.1 hc
          refine Z14 <| Z8 <| Z1t <| Z5 <| Z1 I (Z9 I I) I <| Z1 I (Z1p (k := .i64) (b := 1) (c := (IntKind.i64.wrap (v33 - 1))) I I I I) I <| Z1 I (Zd I I) I <| Z7 <| Z27 ?_
          exact Zz (IH34 _ (IntKind.i64.wrap (v33 - 1)) (Nat.lt_succ_self _) h) ⟨I, I, I, I, I, I, I, I, I, I, J0⟩ ⟨I, I, I, J0⟩
         have h := hif.2 hc
         refine Z1u <| Z26 ?_
         exact Zz (J34 v33 h) ⟨I, I, I, I, I, I, I, I, I, I, J0⟩ ⟨I, I, I, J0⟩
        have h := hif.2 hc
        refine Z11 3 I I I I I I I <| Z11 4 I I I I I I I <| Z11 5 I I I I I I I <| Z11 6 I I I I I I I <| Z11 7 I I I I I I I <| Z11 8 I I I I I I I <| Z11 9 I I I I I I I <| Z11 10 I I I I I I I <| Z11 11 I I I I I I I <| Z11 12 I I I I I I I <| Za 13 I (Zy (v := (.bool false)) I I I) <| Z1z (by kernel_rfl) I <| Z8 ?_
        refine Zq (b := false) I (fun hc => ?_) (fun hc => ?_)
        ·cases hc
        refine Z1u <| Z26 ?_
        exact Zz (J34 v33 h) ⟨I, I, I, I, I, I, I, I, I, I, J0⟩ ⟨I, I, I, J0⟩
      have h := hif.2 hc
      refine Z1u <| Z26 ?_
      exact Zz (J28 v27 h) ⟨I, I, I, I, I, I, I, J0⟩ ⟨I, I, I, J0⟩
    have h := hif.2 hc
    refine Z1u <| Z26 ?_
    exact Zz (J16 v15 h) ⟨I, I, I, I, I, J0⟩ ⟨I, I, I, J0⟩
  have h := hif.2 hc
  refine Z1u <| Z26 ?_
  exact Zz (J5 v4 h) ⟨I, J0⟩ ⟨I, J0⟩
end Go.AM.Noti
