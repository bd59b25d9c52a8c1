/- What these functions compute, each with its walk: F17. -/
import Derived.Test.YtcfcnnkaiboddaaGraT
import Derived.Test.YtcfcnnkaiboddaaGraG5
import Derived.Test.YtcfcnnkaiboddaaGraG7
namespace Go.AM.Gra
open Go Go.AM Go.Proofs
set_option maxRecDepth 100000
set_option maxHeartbeats 2000000
def F17_c10 (K : Nat) (v9 : (List Int)) : Option ((List Int)) :=
 some v9
def F17_c16 (K : Nat) (v7 : (List Int)) (b12 : Int → (List Int) → Option ((List Int))) (v15 : Int) : Option ((List Int)) :=
 if v7.length + [v15].length ≤ 1073741824 then
  b12 v15 (v7 ++ [v15])
 else none
def F17_j20 (K : Nat) (b19 : Int → Option ((List Int))) (v13 : Int) : Option ((List Int)) :=
 b19 (IntKind.i64.wrap (v13 + 1))
def F17_l14 (K : Nat) (a0 : (List (List Bool))) (v6 : Int) (v4 : (List Int)) (c17 : Int → Option ((List Int))) : Nat → Int → Option ((List Int))
 | 0, _ => none
 | k14 + 1, v13 =>
  if (decide (v13 < (a0.length : Int))) = true then
   if (0 : Int) ≤ v6 ∧ v6 < a0.length then
    if (0 : Int) ≤ v13 ∧ v13 < (a0.getD v6.toNat []).length then
     if ((a0.getD v6.toNat []).getD v13.toNat false) = true then
      if (0 : Int) ≤ v13 ∧ v13 < v4.length then
       if (0 : Int) ≤ v6 ∧ v6 < v4.length then
        if ((v4.getD v13.toNat 0) == (IntKind.i64.wrap ((v4.getD v6.toNat 0) - 1))) = true then
         c17 v13
        else
         F17_j20 K (F17_l14 K a0 v6 v4 c17 k14) v13
       else none
      else none
     else
      F17_j20 K (F17_l14 K a0 v6 v4 c17 k14) v13
    else none
   else none
  else
   c17 v6
def F17_l8 (K : Nat) (a2 : Int) (a0 : (List (List Bool))) (v4 : (List Int)) (c11 : (List Int) → Option ((List Int))) : Nat → Int → (List Int) → Option ((List Int))
 | 0, _, _ => none
 | k8 + 1, v6, v7 =>
  if (v6 != a2) = true then
   F17_l14 K a0 v6 v4 (F17_c16 K v7 (F17_l8 K a2 a0 v4 c11 k8)) K 0
  else
   c11 v7
def F17 (K : Nat) (a0 : (List (List Bool))) (a1 : Int) (a2 : Int) : Option ((List Int)) :=
 (F31 K a0).bind fun v2 =>
  (F32 K v2 a2).bind fun v4 =>
   if (0 : Int) ≤ a1 ∧ a1 < v4.length then
    if (decide ((v4.getD a1.toNat 0) < 0)) = true then
     some []
    else
     F17_l8 K a2 a0 v4 (F17_c10 K) K a1 [a1]
   else none
theorem F17_ok (K : Nat) (a0 : (List (List Bool))) (a1 : Int) (a2 : Int) (r : (List Int)) (h : F17 K a0 a1 a2 = some r) : ACall P 17 ⟨[(.sl 1 (a0.map Zg) false), (.int .i64 a1), (.int .i64 a2)], [], (.sl 1 (r.map Z8) false), [], []⟩ := by
 refine acall_of Try.func17 Try.results17 rfl Try.ntmps17 rfl rfl rfl ?_
 intro E Q hP hN hro hret
 obtain ⟨P', nt', w0, F0, p0, S0, β0, ro0⟩ := E
 simp only at hP hN
 subst hP hN
 dsimp only [argT]
 unfold F17 at h
 refine Z9 <| Z3 <| Z1 I (Ze (v := (.sl 1 [] false)) I I) I <| Z6 <| Z7 <| Z9 <| Z3 <| Z1 I (Z5 (v := (.sl 1 (a0.map Zg) false)) I I) I ?_
 have ⟨v2, hv2, h⟩ := of_bind h
 refine Z1 I (st_call0 (ar := [(.sl 1 (a0.map Zg) false)]) (caps := []) Try.call31 (F31_ok K a0 v2 hv2) I I ⟨rfl, trivial⟩ I) I <| Z1 I (Z5 (v := (.int .i64 a2)) I I) I ?_
 have ⟨v4, hv4, h⟩ := of_bind h
 refine Z1 I (st_call0 (ar := [(.sl 1 (v2.map Zg) false), (.int .i64 a2)]) (caps := []) Try.call32 (F32_ok K v2 a2 v4 hv4) I I ⟨rfl, rfl, trivial⟩ I) I <| Z1 I (Ze (v := (.sl 1 (v4.map Z8) false)) I I) I <| Z6 <| Z7 <| Z9 <| Z9 <| Z3 <| Z1 I (Z5 (v := (.sl 1 (v4.map Z8) false)) I I) I ?_
 refine Z1 I (Z5 (v := (.int .i64 a1)) I I) I ?_
 have ⟨hg5, h⟩ := Zh h
 refine Z1 I (st_index (k := .i64) (l := v4) (enc := Z8) (z := 0) (n := a1) (cs := [(.int .i64 (v4.getD a1.toNat 0))]) (full := false) I s29 I I hg5 I) I <| Z1 I (st_loadI (cs := [(.int .i64 (v4.getD a1.toNat 0))]) (v := (.int .i64 (v4.getD a1.toNat 0))) I o3 I I) I <| Z1 I (st_cmp (k := .i64) (a := (v4.getD a1.toNat 0)) (b := 0) (c := (decide ((v4.getD a1.toNat 0) < 0))) I I I I) I <| Z6 <| Z7 ?_
 have hif := of_if h
 refine Zo I (fun hc => ?_) (fun hc => ?_)
 ·have h := hif.1 hc
  refine Z9 <| Z3 <| Z1 I (Ze (v := (.sl 1 [] false)) I I) I <| Z6 <| Z7 <| AWp.ret <| At.thruR ?_
  have h := Option.some.inj h
  subst h
  refine (hret _ ?_).1
  exact ⟨[(.sl 1 [] false)], ⟨rfl, trivial⟩, rfl, trivial⟩
 ·have h := hif.2 hc
  refine Zr <| Z7 <| Z9 <| Z3 <| Z1 I (Z5 (v := (.int .i64 a1)) I I) I <| Z1 I (stx_buildSlice (vs := [(.int .i64 a1)]) (enc := Z8) (l := [a1]) I el29 I I ⟨rfl, trivial⟩ I els_i64 I I I I) I <| Z1 I (Ze (v := (.vs 21)) I I) I <| Z6 ?_
  refine Z7 <| Z9 <| Z9 <| Z3 <| Z1 I (Z5 (v := (.int .i64 a1)) I I) I <| Z1 I (Ze (v := (.int .i64 a1)) I I) I <| Z6 <| Z7 ?_
  refine AWp.ghost (st' := ⟨[(0, (.sl 1 (a0.map Zg) false)), (2, (.int .i64 a2)), (7, (.sl 1 (v4.map Z8) false)), (8, (.vs 8)), (9, (.int .i64 a1))], [(8, (.vec 1 (List.map Z8 [a1])))]⟩) (fun a w h => (Zq ⟨[(0, (.sl 1 (a0.map Zg) false)), (2, (.int .i64 a2)), (7, (.sl 1 (v4.map Z8) false)), (8, (.vs 8)), (9, (.int .i64 a1))], [(8, (.vec 1 (List.map Z8 [a1])))]⟩ (ghost_sw (a := 21) (b := 8) I I a w (Zq ⟨[(0, (.sl 1 (a0.map Zg) false)), (2, (.int .i64 a2)), (7, (.sl 1 (v4.map Z8) false)), (8, (.vs 21)), (9, (.int .i64 a1))], [(21, (.vec 1 (List.map Z8 [a1])))]⟩ h ⟨rfl, rfl, rfl, rfl, rfl, trivial⟩ ⟨rfl, trivial⟩)) ⟨rfl, rfl, rfl, rfl, rfl, trivial⟩ ⟨rfl, trivial⟩)) <| Zv (st' := ⟨[(0, (.sl 1 (a0.map Zg) false)), (2, (.int .i64 a2)), (7, (.sl 1 (v4.map Z8) false)), (8, (.vs 8)), (9, (.int .i64 a1))], [(8, (.vec 1 (List.map Z8 [a1])))]⟩) ⟨rfl, rfl, rfl, rfl, rfl, trivial⟩ ⟨rfl, trivial⟩ ?_
  refine Zp (V := Int × (List Int)) (X := (List Int)) (lp := fun k v => F17_l8 K a2 a0 v4 (F17_c10 K) k v.1 v.2 = some r) (sh := fun v => ⟨[(0, (.sl 1 (a0.map Zg) false)), (2, (.int .i64 a2)), (7, (.sl 1 (v4.map Z8) false)), (8, (.vs 8)), (9, (.int .i64 v.1))], [(8, (.vec 1 (List.map Z8 v.2)))]⟩) (x := fun v => F17_c10 K v = some r) (shx := fun v => ⟨[(8, (.vs 8))], [(8, (.vec 1 (List.map Z8 v)))]⟩) (k := K) (v := (a1, [a1])) h ?_ ?_
  ·intro v h
   revert h
   revert v
   intro v9 h
   try dsimp only at h ⊢
   unfold F17_c10 at h
   refine Z7 <| Z9 <| Z3 <| Z1 I (Z5 (v := (.vs 8)) I I) I <| Z1 I (Ze (v := (.vs 8)) I I) I <| Z6 <| Z7 <| AWp.ret ?_
   refine At.ghost (st' := ⟨[(6, (.sl 1 (v9.map Z8) false))], []⟩) (fun a w h => (Zq ⟨[(6, (.sl 1 (v9.map Z8) false))], []⟩ (ghost_freeze (m := 8) (sz := 1) (es := (List.map Z8 v9)) a w (Zq ⟨[(6, (.vs 8))], [(8, (.vec 1 (List.map Z8 v9)))]⟩ h ⟨rfl, trivial⟩ ⟨rfl, trivial⟩)) ⟨rfl, trivial⟩ trivial)) ?_
   have h := Option.some.inj h
   subst h
   refine (hret _ ?_).1
   exact ⟨[(.sl 1 (v9.map Z8) false)], ⟨rfl, trivial⟩, rfl, trivial⟩
  ·intro N k8 v h IH8 J8
   obtain ⟨v6, v7⟩ := v
   try dsimp only at h IH8 J8 ⊢
   cases k8 with
   | zero => cases h
   | succ k8 =>
    rw [F17_l8] at h
    refine Z9 <| Z9 <| Z3 <| Z1 I (Z5 (v := (.int .i64 v6)) I I) I <| Z1 I (Z5 (v := (.int .i64 a2)) I I) I <| Z1 I (st_cmp (k := .i64) (a := v6) (b := a2) (c := (v6 != a2)) I I I I) I <| Z6 <| Z7 ?_
    have hif := of_if h
    refine Zo I (fun hc => ?_) (fun hc => ?_)
    ·have h := hif.1 hc
     refine Zr <| Z7 <| AWp.block <| Z9 <| Z9 <| Z3 <| Z1 I (Ze (v := (.int .i64 0)) I I) I <| Z6 ?_
     refine Z7 <| Zv (st' := ⟨[(0, (.sl 1 (a0.map Zg) false)), (2, (.int .i64 a2)), (7, (.sl 1 (v4.map Z8) false)), (8, (.vs 8)), (9, (.int .i64 v6)), (10, (.int .i64 0))], [(8, (.vec 1 (List.map Z8 v7)))]⟩) ⟨rfl, rfl, rfl, rfl, rfl, rfl, trivial⟩ ⟨rfl, trivial⟩ ?_
     refine Zp (V := Int) (X := Int) (lp := fun k v => F17_l14 K a0 v6 v4 (F17_c16 K v7 (F17_l8 K a2 a0 v4 (F17_c10 K) k8)) k v = some r) (sh := fun v => ⟨[(0, (.sl 1 (a0.map Zg) false)), (2, (.int .i64 a2)), (7, (.sl 1 (v4.map Z8) false)), (8, (.vs 8)), (9, (.int .i64 v6)), (10, (.int .i64 v))], [(8, (.vec 1 (List.map Z8 v7)))]⟩) (x := fun v => F17_c16 K v7 (F17_l8 K a2 a0 v4 (F17_c10 K) k8) v = some r) (shx := fun v => ⟨[(0, (.sl 1 (a0.map Zg) false)), (2, (.int .i64 a2)), (7, (.sl 1 (v4.map Z8) false)), (8, (.vs 8)), (9, (.int .i64 v))], [(8, (.vec 1 (List.map Z8 v7)))]⟩) (k := K) (v := 0) h ?_ ?_
     ·intro v h
      revert h
      revert v
      intro v15 h
      try dsimp only at h ⊢
      unfold F17_c16 at h
      refine Z7 <| Z3 <| Z1 I (Z5 (v := (.vs 8)) I I) I <| Z1 I (Z5 (v := (.int .i64 v15)) I I) I <| Z1 I (stx_buildSlice (vs := [(.int .i64 v15)]) (enc := Z8) (l := [v15]) I el29 I I ⟨rfl, trivial⟩ I els_i64 I I I I) I ?_
      have ⟨hg18, h⟩ := Zh h
      refine Z1 I (st_append (m := 8) (enc := Z8) (l := v7) (l' := [v15]) (src := (.vs 54)) (rd := [(54, (.vec 1 (List.map Z8 [v15])))]) I I el29 I u29 I I I I (oneRead I) els_i64 hg18) I <| Z1 I (Ze (v := (.vs 8)) I I) I <| Z6 <| At.end ?_
      exact Zj (st' := ⟨[(0, (.sl 1 (a0.map Zg) false)), (2, (.int .i64 a2)), (7, (.sl 1 (v4.map Z8) false)), (8, (.vs 8)), (9, (.int .i64 v15))], [(8, (.vec 1 (List.map Z8 (v7 ++ [v15]))))]⟩) ⟨rfl, rfl, rfl, rfl, rfl, trivial⟩ ⟨rfl, trivial⟩ (IH8 _ (v15, (v7 ++ [v15])) (Nat.lt_succ_self _) h)
     ·intro N k14 v h IH14 J14
      revert h
      revert v
      intro v13 h
      try dsimp only at h IH14 J14 ⊢
      cases k14 with
      | zero => cases h
      | succ k14 =>
       rw [F17_l14] at h
       refine Z9 <| Z9 <| Z3 <| Z1 I (Z5 (v := (.int .i64 v13)) I I) I <| Z1 I (Z5 (v := (.sl 1 (a0.map Zg) false)) I I) I <| Z1 I (stx_len (l := a0) (enc := Zg) I s27 I) I <| Z1 I (st_cmp (k := .i64) (a := v13) (b := (a0.length : Int)) (c := (decide (v13 < (a0.length : Int)))) I I I I) I <| Z6 ?_
       refine Z7 ?_
       have hif := of_if h
       refine Zo I (fun hc => ?_) (fun hc => ?_)
       ·have h := hif.1 hc
        refine Zr <| Z7 <| Z9 ?_
        refine AWp.blockJoin (V := Unit) (lp := fun v => F17_j20 K (F17_l14 K a0 v6 v4 (F17_c16 K v7 (F17_l8 K a2 a0 v4 (F17_c10 K) k8)) k14) v13 = some r) (sh := fun v => ⟨[(0, (.sl 1 (a0.map Zg) false)), (2, (.int .i64 a2)), (7, (.sl 1 (v4.map Z8) false)), (8, (.vs 8)), (9, (.int .i64 v6)), (10, (.int .i64 v13))], [(8, (.vec 1 (List.map Z8 v7)))]⟩) ?_ ?_
        ·intro v h
         try dsimp only at h ⊢
         unfold F17_j20 at h
         refine Z7 <| Z3 <| Z1 I (Z5 (v := (.int .i64 v13)) I I) I <| Z1 I (Zw (k := .i64) (a := v13) (b := 1) (c := (IntKind.i64.wrap (v13 + 1))) I I I I) I <| Z1 I (Ze (v := (.int .i64 (IntKind.i64.wrap (v13 + 1)))) I I) I <| Z6 ?_
         exact Zj (st' := ⟨[(0, (.sl 1 (a0.map Zg) false)), (2, (.int .i64 a2)), (7, (.sl 1 (v4.map Z8) false)), (8, (.vs 8)), (9, (.int .i64 v6)), (10, (.int .i64 (IntKind.i64.wrap (v13 + 1))))], [(8, (.vec 1 (List.map Z8 v7)))]⟩) ⟨rfl, rfl, rfl, rfl, rfl, rfl, trivial⟩ ⟨rfl, trivial⟩ (IH14 _ (IntKind.i64.wrap (v13 + 1)) (Nat.lt_succ_self _) h)
        ·intro J20
         refine Z9 <| AWp.regionD mixed <| Zf 0 I (Z5 (v := (.sl 1 (a0.map Zg) false)) I I) <| Zf 1 I (Z5 (v := (.int .i64 v6)) I I) ?_
         have ⟨hg21, h⟩ := Zh h
         refine Zf 2 I (st_index (k := .i64) (l := a0) (enc := Zg) (z := []) (n := v6) (cs := [(.sl 1 ((a0.getD v6.toNat []).map Zl) false)]) (full := false) I s27 I I hg21 I) <| Zf 3 I (st_loadI (cs := [(.sl 1 ((a0.getD v6.toNat []).map Zl) false)]) (v := (.sl 1 ((a0.getD v6.toNat []).map Zl) false)) I o49 I I) <| Zf 4 I (Z5 (v := (.int .i64 v13)) I I) ?_
         have ⟨hg22, h⟩ := Zh h
         refine Zf 5 I (st_index (k := .i64) (l := (a0.getD v6.toNat [])) (enc := Zl) (z := false) (n := v13) (cs := [(.bool ((a0.getD v6.toNat []).getD v13.toNat false))]) (full := false) I s49 I I hg22 I) <| Zf 6 I (st_loadI (cs := [(.bool ((a0.getD v6.toNat []).getD v13.toNat false))]) (v := (.bool ((a0.getD v6.toNat []).getD v13.toNat false))) I o4 I I) <| Zf 7 I (Z5 (v := (.bool ((a0.getD v6.toNat []).getD v13.toNat false))) I I) ?_
         have hif := of_if h
         refine AOpsD.split (fun hc => ?_) (fun hc => ?_)
         ·have h := hif.1 hc
          refine AOpsD.consT 8 I I I I (Z5 (v := (.sl 1 (v4.map Z8) false)) I I) <| AOpsD.consT 9 I I I I (Z5 (v := (.int .i64 v13)) I I) ?_
          have ⟨hg23, h⟩ := Zh h
          refine AOpsD.consT 10 I I I I (st_index (k := .i64) (l := v4) (enc := Z8) (z := 0) (n := v13) (cs := [(.int .i64 (v4.getD v13.toNat 0))]) (full := false) I s29 I I hg23 I) <| AOpsD.consT 11 I I I I (st_loadI (cs := [(.int .i64 (v4.getD v13.toNat 0))]) (v := (.int .i64 (v4.getD v13.toNat 0))) I o3 I I) <| AOpsD.consT 12 I I I I (Z5 (v := (.sl 1 (v4.map Z8) false)) I I) <| AOpsD.consT 13 I I I I (Z5 (v := (.int .i64 v6)) I I) ?_
          have ⟨hg24, h⟩ := Zh h
          refine AOpsD.consT 14 I I I I (st_index (k := .i64) (l := v4) (enc := Z8) (z := 0) (n := v6) (cs := [(.int .i64 (v4.getD v6.toNat 0))]) (full := false) I s29 I I hg24 I) <| AOpsD.consT 15 I I I I (st_loadI (cs := [(.int .i64 (v4.getD v6.toNat 0))]) (v := (.int .i64 (v4.getD v6.toNat 0))) I o3 I I) <| AOpsD.consT 16 I I I I (Zw (k := .i64) (a := (v4.getD v6.toNat 0)) (b := 1) (c := (IntKind.i64.wrap ((v4.getD v6.toNat 0) - 1))) I I I I) <| AOpsD.consT 17 I I I I (st_cmp (k := .i64) (a := (v4.getD v13.toNat 0)) (b := (IntKind.i64.wrap ((v4.getD v6.toNat 0) - 1))) (c := ((v4.getD v13.toNat 0) == (IntKind.i64.wrap ((v4.getD v6.toNat 0) - 1)))) I I I I) <| Zf 18 I (st_pickT (v := (.bool ((v4.getD v13.toNat 0) == (IntKind.i64.wrap ((v4.getD v6.toNat 0) - 1))))) I I I) <| AOpsD.nil (by kernel_rfl) I <| Z7 ?_
          have hif := of_if h
          refine Zo I (fun hc => ?_) (fun hc => ?_)
          ·have h := hif.1 hc
           refine Z9 <| Z3 <| Z1 I (Z5 (v := (.int .i64 v13)) I I) I <| Z1 I (Ze (v := (.int .i64 v13)) I I) I <| Z6 <| Z7 <| AWp.exit <| At.over I ?_
           refine At.thru ?_
           exact Zj (st' := ⟨[(0, (.sl 1 (a0.map Zg) false)), (2, (.int .i64 a2)), (7, (.sl 1 (v4.map Z8) false)), (8, (.vs 8)), (9, (.int .i64 v13))], [(8, (.vec 1 (List.map Z8 v7)))]⟩) ⟨rfl, rfl, rfl, rfl, rfl, trivial⟩ ⟨rfl, trivial⟩ (J14 v13 h)
          ·have h := hif.2 hc
           refine Zr <| At.end ?_
           exact Zj (st' := ⟨[(0, (.sl 1 (a0.map Zg) false)), (2, (.int .i64 a2)), (7, (.sl 1 (v4.map Z8) false)), (8, (.vs 8)), (9, (.int .i64 v6)), (10, (.int .i64 v13))], [(8, (.vec 1 (List.map Z8 v7)))]⟩) ⟨rfl, rfl, rfl, rfl, rfl, rfl, trivial⟩ ⟨rfl, trivial⟩ (J20 () h)
         ·have h := hif.2 hc
          refine Zs 8 I I I I I I I <| Zs 9 I I I I I I I <| Zs 10 I I I I I I I <| Zs 11 I I I I I I I <| Zs 12 I I I I I I I <| Zs 13 I I I I I I I <| Zs 14 I I I I I I I <| Zs 15 I I I I I I I ?_
          refine Zs 16 I I I I I I I <| Zs 17 I I I I I I I <| Zf 18 I (Zt (v := (.bool false)) I I I) <| AOpsD.nil (by kernel_rfl) I <| Z7 ?_
          refine Zo (b := false) I (fun hc => ?_) (fun hc => ?_)
          ·cases hc
          refine Zr <| At.end ?_
          exact Zj (st' := ⟨[(0, (.sl 1 (a0.map Zg) false)), (2, (.int .i64 a2)), (7, (.sl 1 (v4.map Z8) false)), (8, (.vs 8)), (9, (.int .i64 v6)), (10, (.int .i64 v13))], [(8, (.vec 1 (List.map Z8 v7)))]⟩) ⟨rfl, rfl, rfl, rfl, rfl, rfl, trivial⟩ ⟨rfl, trivial⟩ (J20 () h)
       ·have h := hif.2 hc
        refine AWp.exit <| At.thru ?_
        exact Zj (st' := ⟨[(0, (.sl 1 (a0.map Zg) false)), (2, (.int .i64 a2)), (7, (.sl 1 (v4.map Z8) false)), (8, (.vs 8)), (9, (.int .i64 v6))], [(8, (.vec 1 (List.map Z8 v7)))]⟩) ⟨rfl, rfl, rfl, rfl, rfl, trivial⟩ ⟨rfl, trivial⟩ (J14 v6 h)
    ·have h := hif.2 hc
     refine AWp.exit <| At.thru ?_
     exact Zj (st' := ⟨[(8, (.vs 8))], [(8, (.vec 1 (List.map Z8 v7)))]⟩) ⟨rfl, trivial⟩ ⟨rfl, trivial⟩ (J8 v7 h)
end Go.AM.Gra
