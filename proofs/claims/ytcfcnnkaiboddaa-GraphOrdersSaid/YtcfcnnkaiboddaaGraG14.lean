/- What these functions compute, each with its walk: F22, F4. -/
import Derived.Test.YtcfcnnkaiboddaaGraT
import Derived.Test.YtcfcnnkaiboddaaGraG1
import Derived.Test.YtcfcnnkaiboddaaGraG2
import Derived.Test.YtcfcnnkaiboddaaGraG5
import Derived.Test.YtcfcnnkaiboddaaGraG6
import Derived.Test.YtcfcnnkaiboddaaGraG7
import Derived.Test.YtcfcnnkaiboddaaGraG8
import Derived.Test.YtcfcnnkaiboddaaGraG9
namespace Go.AM.Gra
open Go Go.AM Go.Proofs
set_option maxRecDepth 100000
set_option maxHeartbeats 2000000
def F22_c5 (K : Nat) : Option ((List Int)) :=
 some []
def F22_c20 (K : Nat) (a0 : (List (List Bool))) (v3 : Int) (v19 : Int) : Option ((List Int)) :=
 (F17 K a0 v19 v3).bind fun v23 =>
  if (0 : Int) ≤ 0 ∧ 0 ≤ (IntKind.i64.wrap ((v23.length : Int) - 1)) ∧ (IntKind.i64.wrap ((v23.length : Int) - 1)) ≤ v23.length then
   if [v3].length + (v23.take (IntKind.i64.wrap ((v23.length : Int) - 1)).toNat).length ≤ 1073741824 then
    some ([v3] ++ (v23.take (IntKind.i64.wrap ((v23.length : Int) - 1)).toNat))
   else none
  else none
def F22_j30 (K : Nat) (b26 : Int → Int → Option ((List Int))) (v17 : Int) (v29 : Int) : Option ((List Int)) :=
 b26 v29 (IntKind.i64.wrap (v17 + 1))
def F22_j28 (K : Nat) (b26 : Int → Int → Option ((List Int))) (v17 : Int) (v16 : Int) (v27 : Bool) : Option ((List Int)) :=
 if v27 = true then
  F22_j30 K b26 v17 v17
 else
  F22_j30 K b26 v17 v16
def F22_l18 (K : Nat) (a0 : (List (List Bool))) (v3 : Int) (v15 : (List Int)) (c21 : Int → Option ((List Int))) : Nat → Int → Int → Option ((List Int))
 | 0, _, _ => none
 | k18 + 1, v16, v17 =>
  if (decide (v17 < (a0.length : Int))) = true then
   if (0 : Int) ≤ v3 ∧ v3 < a0.length then
    if (0 : Int) ≤ v17 ∧ v17 < (a0.getD v3.toNat []).length then
     if ((a0.getD v3.toNat []).getD v17.toNat false) = true then
      if (0 : Int) ≤ v17 ∧ v17 < v15.length then
       if (decide ((v15.getD v17.toNat 0) ≥ 0)) = true then
        if (decide (v16 < 0)) = true then
         F22_j28 K (F22_l18 K a0 v3 v15 c21 k18) v17 v16 true
        else
         if (0 : Int) ≤ v17 ∧ v17 < v15.length then
          if (0 : Int) ≤ v16 ∧ v16 < v15.length then
           F22_j28 K (F22_l18 K a0 v3 v15 c21 k18) v17 v16 (decide ((v15.getD v17.toNat 0) < (v15.getD v16.toNat 0)))
          else none
         else none
       else
        F22_j28 K (F22_l18 K a0 v3 v15 c21 k18) v17 v16 false
      else none
     else
      F22_j28 K (F22_l18 K a0 v3 v15 c21 k18) v17 v16 false
    else none
   else none
  else
   c21 v16
def F22_l4 (K : Nat) (a0 : (List (List Bool))) (v2 : (List (List Bool))) (c6 : Option ((List Int))) : Nat → Int → Option ((List Int))
 | 0, _ => none
 | k4 + 1, v3 =>
  if (decide (v3 < (a0.length : Int))) = true then
   if (0 : Int) ≤ v3 ∧ v3 < v2.length then
    if (0 : Int) ≤ v3 ∧ v3 < (v2.getD v3.toNat []).length then
     if (!((v2.getD v3.toNat []).getD v3.toNat false)) = true then
      (F22_l4 K a0 v2 c6 k4) (IntKind.i64.wrap (v3 + 1))
     else
      if (0 : Int) ≤ v3 ∧ v3 < a0.length then
       if (0 : Int) ≤ v3 ∧ v3 < (a0.getD v3.toNat []).length then
        if ((a0.getD v3.toNat []).getD v3.toNat false) = true then
         some [v3]
        else
         (F31 K a0).bind fun v13 =>
          (F32 K v13 v3).bind fun v15 =>
           F22_l18 K a0 v3 v15 (F22_c20 K a0 v3) K (Int.negSucc 0) 0
       else none
      else none
    else none
   else none
  else
   c6
def F22 (K : Nat) (a0 : (List (List Bool))) : Option ((List Int)) :=
 (F40 K a0).bind fun v2 =>
  F22_l4 K a0 v2 (F22_c5 K) K 0
theorem F22_ok (K : Nat) (a0 : (List (List Bool))) (r : (List Int)) (h : F22 K a0 = some r) : ACall P 22 ⟨[(.sl 1 (a0.map Zg) false)], [], (.sl 1 (r.map Z8) false), [], []⟩ := by
 refine acall_of Try.func22 Try.results22 rfl Try.ntmps22 rfl rfl rfl ?_
 intro E Q hP hN hro hret
 obtain ⟨P', nt', w0, F0, p0, S0, β0, ro0⟩ := E
 simp only at hP hN
 subst hP hN
 dsimp only [argT]
 unfold F22 at h
 refine Z9 <| Z3 <| Z1 I (Ze (v := (.sl 1 [] true)) I I) I <| Z6 <| Z7 <| Z9 <| Z3 <| Z1 I (Z5 (v := (.sl 1 (a0.map Zg) false)) I I) I ?_
 have ⟨v2, hv2, h⟩ := of_bind h
 refine Z1 I (st_call0 (ar := [(.sl 1 (a0.map Zg) false)]) (caps := []) Try.call40 (F40_ok K a0 v2 hv2) I I ⟨rfl, trivial⟩ I) I <| Z1 I (Ze (v := (.sl 1 (v2.map Zg) false)) I I) I <| Z6 <| Z7 <| Z9 <| Z9 <| Z3 <| Z1 I (Ze (v := (.int .i64 0)) I I) I ?_
 refine Z6 <| Z7 <| Zv (st' := ⟨[(0, (.sl 1 (a0.map Zg) false)), (3, (.sl 1 (v2.map Zg) false)), (4, (.int .i64 0))], []⟩) ⟨rfl, rfl, rfl, trivial⟩ trivial ?_
 refine Zp (V := Int) (X := Unit) (lp := fun k v => F22_l4 K a0 v2 (F22_c5 K) k v = some r) (sh := fun v => ⟨[(0, (.sl 1 (a0.map Zg) false)), (3, (.sl 1 (v2.map Zg) false)), (4, (.int .i64 v))], []⟩) (x := fun v => F22_c5 K = some r) (shx := fun v => ⟨[], []⟩) (k := K) (v := 0) h ?_ ?_
 ·intro v h
  try dsimp only at h ⊢
  unfold F22_c5 at h
  refine Z7 <| Z9 <| Z3 <| Z1 I (Ze (v := (.sl 1 [] true)) I I) I <| Z6 <| Z7 <| AWp.ret <| At.ghost (st' := ⟨[(2, (.sl 1 [] false))], []⟩) (fun a w h => (Zq ⟨[(2, (.sl 1 [] false))], []⟩ (ghost_loose a w (Zq ⟨[(2, (.sl 1 [] true))], []⟩ h ⟨rfl, trivial⟩ trivial)) ⟨rfl, trivial⟩ trivial)) ?_
  have h := Option.some.inj h
  subst h
  refine (hret _ ?_).1
  exact ⟨[(.sl 1 [] false)], ⟨rfl, trivial⟩, rfl, trivial⟩
 ·intro N k4 v h IH4 J4
  revert h
  revert v
  intro v3 h
  try dsimp only at h IH4 J4 ⊢
  cases k4 with
  | zero => cases h
  | succ k4 =>
   rw [F22_l4] at h
   refine Z9 <| Z9 <| Z3 <| Z1 I (Z5 (v := (.int .i64 v3)) I I) I <| Z1 I (Z5 (v := (.sl 1 (a0.map Zg) false)) I I) I <| Z1 I (stx_len (l := a0) (enc := Zg) I s27 I) I <| Z1 I (st_cmp (k := .i64) (a := v3) (b := (a0.length : Int)) (c := (decide (v3 < (a0.length : Int)))) I I I I) I <| Z6 ?_
   refine Z7 ?_
   have hif := of_if h
   refine Zo I (fun hc => ?_) (fun hc => ?_)
   ·have h := hif.1 hc
    refine Zr <| Z7 <| Z9 <| AWp.block <| Z9 <| Z9 <| Z3 <| Z1 I (Z5 (v := (.sl 1 (v2.map Zg) false)) I I) I ?_
    refine Z1 I (Z5 (v := (.int .i64 v3)) I I) I ?_
    have ⟨hg8, h⟩ := Zh h
    refine Z1 I (st_index (k := .i64) (l := v2) (enc := Zg) (z := []) (n := v3) (cs := [(.sl 1 ((v2.getD v3.toNat []).map Zl) false)]) (full := false) I s27 I I hg8 I) I <| Z1 I (st_loadI (cs := [(.sl 1 ((v2.getD v3.toNat []).map Zl) false)]) (v := (.sl 1 ((v2.getD v3.toNat []).map Zl) false)) I o49 I I) I <| Z1 I (Z5 (v := (.int .i64 v3)) I I) I ?_
    have ⟨hg9, h⟩ := Zh h
    refine Z1 I (st_index (k := .i64) (l := (v2.getD v3.toNat [])) (enc := Zl) (z := false) (n := v3) (cs := [(.bool ((v2.getD v3.toNat []).getD v3.toNat false))]) (full := false) I s49 I I hg9 I) I <| Z1 I (st_loadI (cs := [(.bool ((v2.getD v3.toNat []).getD v3.toNat false))]) (v := (.bool ((v2.getD v3.toNat []).getD v3.toNat false))) I o4 I I) I <| Z1 I (st_not (b := ((v2.getD v3.toNat []).getD v3.toNat false)) I I) I <| Z6 <| Z7 ?_
    have hif := of_if h
    refine Zo I (fun hc => ?_) (fun hc => ?_)
    ·have h := hif.1 hc
     refine AWp.exit <| At.thru <| At.out <| Z7 <| Z3 <| Z1 I (Z5 (v := (.int .i64 v3)) I I) I <| Z1 I (Zw (k := .i64) (a := v3) (b := 1) (c := (IntKind.i64.wrap (v3 + 1))) I I I I) I <| Z1 I (Ze (v := (.int .i64 (IntKind.i64.wrap (v3 + 1)))) I I) I ?_
     refine Z6 ?_
     exact Zj (st' := ⟨[(0, (.sl 1 (a0.map Zg) false)), (3, (.sl 1 (v2.map Zg) false)), (4, (.int .i64 (IntKind.i64.wrap (v3 + 1))))], []⟩) ⟨rfl, rfl, rfl, trivial⟩ trivial (IH4 _ (IntKind.i64.wrap (v3 + 1)) (Nat.lt_succ_self _) h)
    ·have h := hif.2 hc
     refine Zr <| Z7 <| Z9 <| Z9 <| Z3 <| Z1 I (Z5 (v := (.sl 1 (a0.map Zg) false)) I I) I <| Z1 I (Z5 (v := (.int .i64 v3)) I I) I ?_
     have ⟨hg10, h⟩ := Zh h
     refine Z1 I (st_index (k := .i64) (l := a0) (enc := Zg) (z := []) (n := v3) (cs := [(.sl 1 ((a0.getD v3.toNat []).map Zl) false)]) (full := false) I s27 I I hg10 I) I <| Z1 I (st_loadI (cs := [(.sl 1 ((a0.getD v3.toNat []).map Zl) false)]) (v := (.sl 1 ((a0.getD v3.toNat []).map Zl) false)) I o49 I I) I <| Z1 I (Z5 (v := (.int .i64 v3)) I I) I ?_
     have ⟨hg11, h⟩ := Zh h
     refine Z1 I (st_index (k := .i64) (l := (a0.getD v3.toNat [])) (enc := Zl) (z := false) (n := v3) (cs := [(.bool ((a0.getD v3.toNat []).getD v3.toNat false))]) (full := false) I s49 I I hg11 I) I <| Z1 I (st_loadI (cs := [(.bool ((a0.getD v3.toNat []).getD v3.toNat false))]) (v := (.bool ((a0.getD v3.toNat []).getD v3.toNat false))) I o4 I I) I <| Z6 <| Z7 ?_
     have hif := of_if h
     refine Zo I (fun hc => ?_) (fun hc => ?_)
     ·have h := hif.1 hc
      refine Z9 <| Z3 <| Z1 I (Z5 (v := (.int .i64 v3)) I I) I <| Z1 I (stx_buildSlice (vs := [(.int .i64 v3)]) (enc := Z8) (l := [v3]) I el29 I I ⟨rfl, trivial⟩ I els_i64 I I I I) I <| Z1 I (Ze (v := (.vs 33)) I I) I <| Z6 <| Z7 <| AWp.ret ?_
      refine At.thruR <| At.overR <| At.thruR ?_
      refine At.thruR (At.overR ?_)
      refine At.thruR <| At.ghost (st' := ⟨[(2, (.sl 1 ([v3].map Z8) false))], []⟩) (fun a w h => (Zq ⟨[(2, (.sl 1 ([v3].map Z8) false))], []⟩ (ghost_freeze (m := 33) (sz := 1) (es := (List.map Z8 [v3])) a w (Zq ⟨[(2, (.vs 33))], [(33, (.vec 1 (List.map Z8 [v3])))]⟩ h ⟨rfl, trivial⟩ ⟨rfl, trivial⟩)) ⟨rfl, trivial⟩ trivial)) ?_
      have h := Option.some.inj h
      subst h
      refine (hret _ ?_).1
      exact ⟨[(.sl 1 ([v3].map Z8) false)], ⟨rfl, trivial⟩, rfl, trivial⟩
     ·have h := hif.2 hc
      refine Zr <| Z7 <| Z9 <| Z3 <| Z1 I (Z5 (v := (.sl 1 (a0.map Zg) false)) I I) I ?_
      have ⟨v13, hv13, h⟩ := of_bind h
      refine Z1 I (st_call0 (ar := [(.sl 1 (a0.map Zg) false)]) (caps := []) Try.call31 (F31_ok K a0 v13 hv13) I I ⟨rfl, trivial⟩ I) I <| Z1 I (Z5 (v := (.int .i64 v3)) I I) I ?_
      have ⟨v15, hv15, h⟩ := of_bind h
      refine Z1 I (st_call0 (ar := [(.sl 1 (v13.map Zg) false), (.int .i64 v3)]) (caps := []) Try.call32 (F32_ok K v13 v3 v15 hv15) I I ⟨rfl, rfl, trivial⟩ I) I <| Z1 I (Ze (v := (.sl 1 (v15.map Z8) false)) I I) I <| Z6 <| Z7 <| Z9 <| Z3 <| Z1 I (Ze (v := (.int .i64 (Int.negSucc 0))) I I) I <| Z6 ?_
      refine Z7 <| Z9 <| Z9 <| Z3 <| Z1 I (Ze (v := (.int .i64 0)) I I) I <| Z6 <| Z7 <| Zv (st' := ⟨[(0, (.sl 1 (a0.map Zg) false)), (4, (.int .i64 v3)), (5, (.sl 1 (v15.map Z8) false)), (6, (.int .i64 (Int.negSucc 0))), (7, (.int .i64 0))], []⟩) ⟨rfl, rfl, rfl, rfl, rfl, trivial⟩ trivial ?_
      refine Zp (V := Int × Int) (X := Int) (lp := fun k v => F22_l18 K a0 v3 v15 (F22_c20 K a0 v3) k v.1 v.2 = some r) (sh := fun v => ⟨[(0, (.sl 1 (a0.map Zg) false)), (4, (.int .i64 v3)), (5, (.sl 1 (v15.map Z8) false)), (6, (.int .i64 v.1)), (7, (.int .i64 v.2))], []⟩) (x := fun v => F22_c20 K a0 v3 v = some r) (shx := fun v => ⟨[(0, (.sl 1 (a0.map Zg) false)), (4, (.int .i64 v3)), (6, (.int .i64 v))], []⟩) (k := K) (v := ((Int.negSucc 0), 0)) h ?_ ?_
      ·intro v h
       revert h
       revert v
       intro v19 h
       try dsimp only at h ⊢
       unfold F22_c20 at h
       refine Z7 <| Z9 <| Z3 <| Z1 I (Z5 (v := (.sl 1 (a0.map Zg) false)) I I) I <| Z1 I (Z5 (v := (.int .i64 v19)) I I) I <| Z1 I (Z5 (v := (.int .i64 v3)) I I) I ?_
       have ⟨v23, hv23, h⟩ := of_bind h
       refine Z1 I (st_call0 (ar := [(.sl 1 (a0.map Zg) false), (.int .i64 v19), (.int .i64 v3)]) (caps := []) Try.call17 (F17_ok K a0 v19 v3 v23 hv23) I I ⟨rfl, rfl, rfl, trivial⟩ I) I <| Z1 I (Ze (v := (.sl 1 (v23.map Z8) false)) I I) I <| Z6 <| Z7 <| Z9 <| Z3 <| Z1 I (Z5 (v := (.int .i64 v3)) I I) I <| Z1 I (stx_buildSlice (vs := [(.int .i64 v3)]) (enc := Z8) (l := [v3]) I el29 I I ⟨rfl, trivial⟩ I els_i64 I I I I) I ?_
       refine Z1 I (Z5 (v := (.sl 1 (v23.map Z8) false)) I I) I <| Z1 I (Z5 (v := (.sl 1 (v23.map Z8) false)) I I) I <| Z1 I (stx_len (l := v23) (enc := Z8) I s29 I) I <| Z1 I (Zw (k := .i64) (a := (v23.length : Int)) (b := 1) (c := (IntKind.i64.wrap ((v23.length : Int) - 1))) I I I I) I ?_
       have ⟨hg24, h⟩ := Zh h
       refine Z1 I (stx_sliceH (l := v23) (enc := Z8) (kh := .i64) (hi := (IntKind.i64.wrap ((v23.length : Int) - 1))) I s29 I I hg24) I ?_
       have ⟨hg25, h⟩ := Zh h
       refine Z1 I (st_append (m := 79) (enc := Z8) (l := [v3]) (l' := (v23.take (IntKind.i64.wrap ((v23.length : Int) - 1)).toNat)) (src := (.sl 1 ((v23.take (IntKind.i64.wrap ((v23.length : Int) - 1)).toNat).map Z8) false)) (rd := []) I I el29 I u29 I I I ⟨rfl, rfl, rfl⟩ noReads els_i64 hg25) I <| Z1 I (Ze (v := (.vs 79)) I I) I <| Z6 <| Z7 <| AWp.ret <| At.overR <| At.thruR ?_
       refine At.thruR (At.overR ?_)
       refine At.thruR <| At.ghost (st' := ⟨[(2, (.sl 1 (([v3] ++ (v23.take (IntKind.i64.wrap ((v23.length : Int) - 1)).toNat)).map Z8) false))], []⟩) (fun a w h => (Zq ⟨[(2, (.sl 1 (([v3] ++ (v23.take (IntKind.i64.wrap ((v23.length : Int) - 1)).toNat)).map Z8) false))], []⟩ (ghost_freeze (m := 79) (sz := 1) (es := (List.map Z8 ([v3] ++ (v23.take (IntKind.i64.wrap ((v23.length : Int) - 1)).toNat)))) a w (Zq ⟨[(2, (.vs 79))], [(79, (.vec 1 (List.map Z8 ([v3] ++ (v23.take (IntKind.i64.wrap ((v23.length : Int) - 1)).toNat)))))]⟩ h ⟨rfl, trivial⟩ ⟨rfl, trivial⟩)) ⟨rfl, trivial⟩ trivial)) ?_
       have h := Option.some.inj h
       subst h
       refine (hret _ ?_).1
       exact ⟨[(.sl 1 (([v3] ++ (v23.take (IntKind.i64.wrap ((v23.length : Int) - 1)).toNat)).map Z8) false)], ⟨rfl, trivial⟩, rfl, trivial⟩
      ·intro N k18 v h IH18 J18
       obtain ⟨v16, v17⟩ := v
       try dsimp only at h IH18 J18 ⊢
       cases k18 with
       | zero => cases h
       | succ k18 =>
        rw [F22_l18] at h
        refine Z9 <| Z9 <| Z3 <| Z1 I (Z5 (v := (.int .i64 v17)) I I) I <| Z1 I (Z5 (v := (.sl 1 (a0.map Zg) false)) I I) I <| Z1 I (stx_len (l := a0) (enc := Zg) I s27 I) I <| Z1 I (st_cmp (k := .i64) (a := v17) (b := (a0.length : Int)) (c := (decide (v17 < (a0.length : Int)))) I I I I) I <| Z6 ?_
        refine Z7 ?_
        have hif := of_if h
        refine Zo I (fun hc => ?_) (fun hc => ?_)
        ·have h := hif.1 hc
         refine Zr <| Z7 <| Z9 <| AWp.block <| Z9 ?_
         refine AWp.join (V := Bool) (lp := fun v => F22_j28 K (F22_l18 K a0 v3 v15 (F22_c20 K a0 v3) k18) v17 v16 v = some r) (sh := fun v => ⟨[(0, (.sl 1 (a0.map Zg) false)), (4, (.int .i64 v3)), (5, (.sl 1 (v15.map Z8) false)), (6, (.int .i64 v16)), (7, (.int .i64 v17)), (72, (.bool v))], []⟩) ?_ ?_
         ·intro v h
          revert h
          revert v
          intro v27 h
          try dsimp only at h ⊢
          unfold F22_j28 at h
          refine Z7 ?_
          refine AWp.join (V := Int) (lp := fun v => F22_j30 K (F22_l18 K a0 v3 v15 (F22_c20 K a0 v3) k18) v17 v = some r) (sh := fun v => ⟨[(0, (.sl 1 (a0.map Zg) false)), (4, (.int .i64 v3)), (5, (.sl 1 (v15.map Z8) false)), (6, (.int .i64 v)), (7, (.int .i64 v17))], []⟩) ?_ ?_
          ·intro v h
           revert h
           revert v
           intro v29 h
           try dsimp only at h ⊢
           unfold F22_j30 at h
           refine At.end <| Z7 <| Z3 <| Z1 I (Z5 (v := (.int .i64 v17)) I I) I <| Z1 I (Zw (k := .i64) (a := v17) (b := 1) (c := (IntKind.i64.wrap (v17 + 1))) I I I I) I <| Z1 I (Ze (v := (.int .i64 (IntKind.i64.wrap (v17 + 1)))) I I) I <| Z6 ?_
           exact Zj (st' := ⟨[(0, (.sl 1 (a0.map Zg) false)), (4, (.int .i64 v3)), (5, (.sl 1 (v15.map Z8) false)), (6, (.int .i64 v29)), (7, (.int .i64 (IntKind.i64.wrap (v17 + 1))))], []⟩) ⟨rfl, rfl, rfl, rfl, rfl, trivial⟩ trivial (IH18 _ (v29, (IntKind.i64.wrap (v17 + 1))) (Nat.lt_succ_self _) h)
          ·intro J30
           have hif := of_if h
           refine Zo I (fun hc => ?_) (fun hc => ?_)
           ·have h := hif.1 hc
            refine Z3 <| Z1 I (Z5 (v := (.int .i64 v17)) I I) I <| Z1 I (Ze (v := (.int .i64 v17)) I I) I <| Z6 ?_
            exact Zj (st' := ⟨[(0, (.sl 1 (a0.map Zg) false)), (4, (.int .i64 v3)), (5, (.sl 1 (v15.map Z8) false)), (6, (.int .i64 v17)), (7, (.int .i64 v17))], []⟩) ⟨rfl, rfl, rfl, rfl, rfl, trivial⟩ trivial (J30 v17 h)
           ·have h := hif.2 hc
            refine Zr ?_
            exact Zj (st' := ⟨[(0, (.sl 1 (a0.map Zg) false)), (4, (.int .i64 v3)), (5, (.sl 1 (v15.map Z8) false)), (6, (.int .i64 v16)), (7, (.int .i64 v17))], []⟩) ⟨rfl, rfl, rfl, rfl, rfl, trivial⟩ trivial (J30 v16 h)
         ·intro J28
          refine AWp.regionD mixed <| Zf 0 I (Z5 (v := (.sl 1 (a0.map Zg) false)) I I) <| Zf 1 I (Z5 (v := (.int .i64 v3)) I I) ?_
          have ⟨hg31, h⟩ := Zh h
          refine Zf 2 I (st_index (k := .i64) (l := a0) (enc := Zg) (z := []) (n := v3) (cs := [(.sl 1 ((a0.getD v3.toNat []).map Zl) false)]) (full := false) I s27 I I hg31 I) <| Zf 3 I (st_loadI (cs := [(.sl 1 ((a0.getD v3.toNat []).map Zl) false)]) (v := (.sl 1 ((a0.getD v3.toNat []).map Zl) false)) I o49 I I) <| Zf 4 I (Z5 (v := (.int .i64 v17)) I I) ?_
          have ⟨hg32, h⟩ := Zh h
          refine Zf 5 I (st_index (k := .i64) (l := (a0.getD v3.toNat [])) (enc := Zl) (z := false) (n := v17) (cs := [(.bool ((a0.getD v3.toNat []).getD v17.toNat false))]) (full := false) I s49 I I hg32 I) <| Zf 6 I (st_loadI (cs := [(.bool ((a0.getD v3.toNat []).getD v17.toNat false))]) (v := (.bool ((a0.getD v3.toNat []).getD v17.toNat false))) I o4 I I) <| Zf 7 I (Z5 (v := (.bool ((a0.getD v3.toNat []).getD v17.toNat false))) I I) ?_
          have hif := of_if h
          refine AOpsD.split (fun hc => ?_) (fun hc => ?_)
          ·have h := hif.1 hc
           refine AOpsD.consT 8 I I I I (Z5 (v := (.sl 1 (v15.map Z8) false)) I I) <| AOpsD.consT 9 I I I I (Z5 (v := (.int .i64 v17)) I I) ?_
           have ⟨hg33, h⟩ := Zh h
           refine AOpsD.consT 10 I I I I (st_index (k := .i64) (l := v15) (enc := Z8) (z := 0) (n := v17) (cs := [(.int .i64 (v15.getD v17.toNat 0))]) (full := false) I s29 I I hg33 I) <| AOpsD.consT 11 I I I I (st_loadI (cs := [(.int .i64 (v15.getD v17.toNat 0))]) (v := (.int .i64 (v15.getD v17.toNat 0))) I o3 I I) <| AOpsD.consT 12 I I I I (st_cmp (k := .i64) (a := (v15.getD v17.toNat 0)) (b := 0) (c := (decide ((v15.getD v17.toNat 0) ≥ 0))) I I I I) <| Zf 13 I (st_pickT (v := (.bool (decide ((v15.getD v17.toNat 0) ≥ 0)))) I I I) <| Zf 14 I (Z5 (v := (.bool (decide ((v15.getD v17.toNat 0) ≥ 0)))) I I) ?_
           have hif := of_if h
           refine AOpsD.split (fun hc => ?_) (fun hc => ?_)
           ·have h := hif.1 hc
            refine AOpsD.consT 15 I I I I (Z5 (v := (.int .i64 v16)) I I) <| AOpsD.consT 16 I I I I (st_cmp (k := .i64) (a := v16) (b := 0) (c := (decide (v16 < 0))) I I I I) <| AOpsD.consT 17 I I I I (Z5 (v := (.bool (decide (v16 < 0)))) I I) ?_
            have hif := of_if h
            refine AOpsD.split (fun hc => ?_) (fun hc => ?_)
            ·have h := hif.1 hc
             refine Zs 18 I I I I I I I <| Zs 19 I I I I I I I <| Zs 20 I I I I I I I <| Zs 21 I I I I I I I <| Zs 22 I I I I I I I <| Zs 23 I I I I I I I <| Zs 24 I I I I I I I <| Zs 25 I I I I I I I ?_
             refine Zs 26 I I I I I I I <| AOpsD.consT 27 I I I I (st_pickT (v := (.bool true)) I I I) <| Zf 28 I (st_pickT (v := (.bool true)) I I I) <| AOpsD.nil (by kernel_rfl) I ?_
             exact Zj (st' := ⟨[(0, (.sl 1 (a0.map Zg) false)), (4, (.int .i64 v3)), (5, (.sl 1 (v15.map Z8) false)), (6, (.int .i64 v16)), (7, (.int .i64 v17)), (72, (.bool true))], []⟩) ⟨rfl, rfl, rfl, rfl, rfl, rfl, trivial⟩ trivial (J28 true h)
            ·have h := hif.2 hc
             refine AOpsD.consT 18 I I I I (Z5 (v := (.sl 1 (v15.map Z8) false)) I I) <| AOpsD.consT 19 I I I I (Z5 (v := (.int .i64 v17)) I I) ?_
             have ⟨hg34, h⟩ := Zh h
             refine AOpsD.consT 20 I I I I (st_index (k := .i64) (l := v15) (enc := Z8) (z := 0) (n := v17) (cs := [(.int .i64 (v15.getD v17.toNat 0))]) (full := false) I s29 I I hg34 I) <| AOpsD.consT 21 I I I I (st_loadI (cs := [(.int .i64 (v15.getD v17.toNat 0))]) (v := (.int .i64 (v15.getD v17.toNat 0))) I o3 I I) <| AOpsD.consT 22 I I I I (Z5 (v := (.sl 1 (v15.map Z8) false)) I I) <| AOpsD.consT 23 I I I I (Z5 (v := (.int .i64 v16)) I I) ?_
             have ⟨hg35, h⟩ := Zh h
             refine AOpsD.consT 24 I I I I (st_index (k := .i64) (l := v15) (enc := Z8) (z := 0) (n := v16) (cs := [(.int .i64 (v15.getD v16.toNat 0))]) (full := false) I s29 I I hg35 I) <| AOpsD.consT 25 I I I I (st_loadI (cs := [(.int .i64 (v15.getD v16.toNat 0))]) (v := (.int .i64 (v15.getD v16.toNat 0))) I o3 I I) <| AOpsD.consT 26 I I I I (st_cmp (k := .i64) (a := (v15.getD v17.toNat 0)) (b := (v15.getD v16.toNat 0)) (c := (decide ((v15.getD v17.toNat 0) < (v15.getD v16.toNat 0)))) I I I I) <| AOpsD.consT 27 I I I I (Zt (v := (.bool (decide ((v15.getD v17.toNat 0) < (v15.getD v16.toNat 0))))) I I I) <| Zf 28 I (st_pickT (v := (.bool (decide ((v15.getD v17.toNat 0) < (v15.getD v16.toNat 0))))) I I I) <| AOpsD.nil (by kernel_rfl) I ?_
             exact Zj (st' := ⟨[(0, (.sl 1 (a0.map Zg) false)), (4, (.int .i64 v3)), (5, (.sl 1 (v15.map Z8) false)), (6, (.int .i64 v16)), (7, (.int .i64 v17)), (72, (.bool (decide ((v15.getD v17.toNat 0) < (v15.getD v16.toNat 0)))))], []⟩) ⟨rfl, rfl, rfl, rfl, rfl, rfl, trivial⟩ trivial (J28 (decide ((v15.getD v17.toNat 0) < (v15.getD v16.toNat 0))) h)
           ·have h := hif.2 hc
            refine Zs 15 I I I I I I I <| Zs 16 I I I I I I I <| Zs 17 I I I I I I I <| Zs 18 (u := .tup []) I I I I I I I <| Zs 19 (u := .tup []) I I I I I I I <| Zs 20 (u := .tup []) I I I I I I I <| Zs 21 (u := .tup []) I I I I I I I <| Zs 22 (u := .tup []) I I I I I I I ?_
            refine Zs 23 (u := .tup []) I I I I I I I <| Zs 24 (u := .tup []) I I I I I I I <| Zs 25 (u := .tup []) I I I I I I I <| Zs 26 (u := .tup []) I I I I I I I <| Zs 27 I I I I I I I <| Zf 28 I (Zt (v := (.bool false)) I I I) <| AOpsD.nil (by kernel_rfl) I ?_
            exact Zj (st' := ⟨[(0, (.sl 1 (a0.map Zg) false)), (4, (.int .i64 v3)), (5, (.sl 1 (v15.map Z8) false)), (6, (.int .i64 v16)), (7, (.int .i64 v17)), (72, (.bool false))], []⟩) ⟨rfl, rfl, rfl, rfl, rfl, rfl, trivial⟩ trivial (J28 false h)
          ·have h := hif.2 hc
           refine Zs 8 I I I I I I I <| Zs 9 I I I I I I I <| Zs 10 I I I I I I I <| Zs 11 I I I I I I I <| Zs 12 I I I I I I I <| Zf 13 I (Zt (v := (.bool false)) I I I) <| Zf 14 I (Z5 (v := (.bool false)) I I) <| Zs 15 I I I I I I I ?_
           refine Zs 16 I I I I I I I <| Zs 17 I I I I I I I <| Zs 18 (u := .tup []) I I I I I I I <| Zs 19 (u := .tup []) I I I I I I I <| Zs 20 (u := .tup []) I I I I I I I <| Zs 21 (u := .tup []) I I I I I I I <| Zs 22 (u := .tup []) I I I I I I I <| Zs 23 (u := .tup []) I I I I I I I ?_
           refine Zs 24 (u := .tup []) I I I I I I I <| Zs 25 (u := .tup []) I I I I I I I <| Zs 26 (u := .tup []) I I I I I I I <| Zs 27 I I I I I I I <| Zf 28 I (Zt (v := (.bool false)) I I I) <| AOpsD.nil (by kernel_rfl) I ?_
           exact Zj (st' := ⟨[(0, (.sl 1 (a0.map Zg) false)), (4, (.int .i64 v3)), (5, (.sl 1 (v15.map Z8) false)), (6, (.int .i64 v16)), (7, (.int .i64 v17)), (72, (.bool false))], []⟩) ⟨rfl, rfl, rfl, rfl, rfl, rfl, trivial⟩ trivial (J28 false h)
        ·have h := hif.2 hc
         refine AWp.exit <| At.thru ?_
         exact Zj (st' := ⟨[(0, (.sl 1 (a0.map Zg) false)), (4, (.int .i64 v3)), (6, (.int .i64 v16))], []⟩) ⟨rfl, rfl, rfl, trivial⟩ trivial (J18 v16 h)
   ·have h := hif.2 hc
    refine AWp.exit <| At.thru ?_
    exact Zj (st' := ⟨[], []⟩) trivial trivial (J4 () h)
def F4_j16 (K : Nat) (v15 : Bool) : Option (Bool) :=
 some v15
def F4_j22 (K : Nat) (v21 : Bool) : Option (Bool) :=
 some v21
def F4 (K : Nat) (a0 : Zx) : Option (Bool) :=
 (F13 K).bind fun v2 =>
  if (!v2) = true then
   some false
  else
   (F14 K a0).bind fun v4 =>
    (F16 K v4).bind fun v6 =>
     (F19 K v6).bind fun v8 =>
      (F16 K v4).bind fun v10 =>
       (F20 K v10).bind fun v12 =>
        (F21 K v4).bind fun v14 =>
         if (!v14.2) = true then
          if ((v8.1.length : Int) == 0) = true then
           if (v8.2 == 35) = true then
            if v12.2 = true then
             (F22 K v4).bind fun v18 =>
              (F18 K v12.1 v18).bind fun v20 =>
               F4_j16 K v20
            else
             F4_j16 K false
           else
            F4_j16 K false
          else
           F4_j16 K false
         else
          if (v8.2 == 0) = true then
           (F18 K v8.1 v14.1).bind fun v24 =>
            if v24 = true then
             if (!v12.2) = true then
              F4_j22 K ((v12.1.length : Int) == 0)
             else
              F4_j22 K false
            else
             F4_j22 K false
          else
           F4_j22 K false
theorem F4_ok (K : Nat) (a0 : Zx) (r : Bool) (h : F4 K a0 = some r) : ACall P 4 ⟨[(Zn a0)], [], (.bool r), [], []⟩ := by
 refine acall_of Try.func4 Try.results4 rfl Try.ntmps4 rfl rfl rfl ?_
 intro E Q hP hN hro hret
 obtain ⟨P', nt', w0, F0, p0, S0, β0, ro0⟩ := E
 simp only at hP hN
 subst hP hN
 dsimp only [argT]
 unfold F4 at h
 refine Z9 <| Z3 <| Z1 I (st_box (v := (Zn a0)) (cs := (Zn a0).cells) I I I I I) I <| Z1 I (Ze (v := (.bool false)) I I) I <| Z6 <| Z7 <| Z9 <| Z9 ?_
 refine Z3 ?_
 have ⟨v2, hv2, h⟩ := of_bind h
 refine Z1 I (st_call0 (ar := []) (caps := []) Try.call13 (F13_ok K v2 hv2) I I trivial I) I <| Z1 I (st_not (b := v2) I I) I <| Z6 <| Z7 ?_
 have hif := of_if h
 refine Zo I (fun hc => ?_) (fun hc => ?_)
 ·have h := hif.1 hc
  refine Z9 <| Z3 <| Z1 I (Ze (v := (.bool false)) I I) I <| Z6 <| Z7 <| AWp.ret <| At.thruR ?_
  have h := Option.some.inj h
  subst h
  refine (hret _ ?_).1
  exact ⟨[(.bool false)], ⟨rfl, trivial⟩, rfl, trivial⟩
 ·have h := hif.2 hc
  refine Zr <| Z7 <| Z9 <| Z3 <| Z1 I (st_loadPA (cs := (Zn a0).cells) (vs := (Zn a0).cells) I a24 I I I I) I ?_
  have ⟨v4, hv4, h⟩ := of_bind h
  refine Z1 I (st_call0 (ar := [(Zn a0)]) (caps := []) Try.call14 (F14_ok K a0 v4 hv4) I I ⟨rfl, trivial⟩ I) I <| Z1 I (Ze (v := (.sl 1 (v4.map Zg) false)) I I) I <| Z6 <| Z7 <| Z9 <| Z3 <| Z1 I (Z5 (v := (.sl 1 (v4.map Zg) false)) I I) I ?_
  have ⟨v6, hv6, h⟩ := of_bind h
  refine Z1 I (st_call0 (ar := [(.sl 1 (v4.map Zg) false)]) (caps := []) Try.call16 (F16_ok K v4 v6 hv6) I I ⟨rfl, trivial⟩ I) I ?_
  have ⟨v8, hv8, h⟩ := of_bind h
  refine Z1 I (st_call0 (ar := [(Zd v6)]) (caps := []) Try.call19 (F19_ok K v6 v8 hv8) I I ⟨rfl, trivial⟩ I) I <| Z1 I (Z5 (v := (.tup [(.sl 1 (v8.1.map Z8) false), (.int .i64 v8.2)])) I I) I <| Z1 I (st_extract (vs := [(.sl 1 (v8.1.map Z8) false), (.int .i64 v8.2)]) (v := (.sl 1 (v8.1.map Z8) false)) I I I) I <| Z1 I (st_extract (vs := [(.sl 1 (v8.1.map Z8) false), (.int .i64 v8.2)]) (v := (.int .i64 v8.2)) I I I) I <| Z1 I (Ze (v := (.sl 1 (v8.1.map Z8) false)) I I) I <| Z1 I (Ze (v := (.int .i64 v8.2)) I I) I <| Z6 <| Z7 ?_
  refine Z9 <| Z3 <| Z1 I (Z5 (v := (.sl 1 (v4.map Zg) false)) I I) I ?_
  have ⟨v10, hv10, h⟩ := of_bind h
  refine Z1 I (st_call0 (ar := [(.sl 1 (v4.map Zg) false)]) (caps := []) Try.call16 (F16_ok K v4 v10 hv10) I I ⟨rfl, trivial⟩ I) I ?_
  have ⟨v12, hv12, h⟩ := of_bind h
  refine Z1 I (st_call0 (ar := [(Zd v10)]) (caps := []) Try.call20 (F20_ok K v10 v12 hv12) I I ⟨rfl, trivial⟩ I) I <| Z1 I (Z5 (v := (.tup [(.sl 1 (v12.1.map Z8) false), (.bool v12.2)])) I I) I <| Z1 I (st_extract (vs := [(.sl 1 (v12.1.map Z8) false), (.bool v12.2)]) (v := (.sl 1 (v12.1.map Z8) false)) I I I) I <| Z1 I (st_extract (vs := [(.sl 1 (v12.1.map Z8) false), (.bool v12.2)]) (v := (.bool v12.2)) I I I) I <| Z1 I (Ze (v := (.sl 1 (v12.1.map Z8) false)) I I) I <| Z1 I (Ze (v := (.bool v12.2)) I I) I <| Z6 <| Z7 ?_
  refine Z9 <| Z3 <| Z1 I (Z5 (v := (.sl 1 (v4.map Zg) false)) I I) I ?_
  have ⟨v14, hv14, h⟩ := of_bind h
  refine Z1 I (st_call0 (ar := [(.sl 1 (v4.map Zg) false)]) (caps := []) Try.call21 (F21_ok K v4 v14 hv14) I I ⟨rfl, trivial⟩ I) I <| Z1 I (Z5 (v := (.tup [(.sl 1 (v14.1.map Z8) false), (.bool v14.2)])) I I) I <| Z1 I (st_extract (vs := [(.sl 1 (v14.1.map Z8) false), (.bool v14.2)]) (v := (.sl 1 (v14.1.map Z8) false)) I I I) I <| Z1 I (st_extract (vs := [(.sl 1 (v14.1.map Z8) false), (.bool v14.2)]) (v := (.bool v14.2)) I I I) I <| Z1 I (Ze (v := (.sl 1 (v14.1.map Z8) false)) I I) I <| Z1 I (Ze (v := (.bool v14.2)) I I) I <| Z6 <| Z7 ?_
  refine Z9 <| Z9 <| Z3 <| Z1 I (Z5 (v := (.bool v14.2)) I I) I <| Z1 I (st_not (b := v14.2) I I) I <| Z6 <| Z7 ?_
  have hif := of_if h
  refine Zo I (fun hc => ?_) (fun hc => ?_)
  ·have h := hif.1 hc
   refine Z9 ?_
   refine AWp.join (V := Bool) (lp := fun v => F4_j16 K v = some r) (sh := fun v => ⟨[(2, (.bool v))], []⟩) ?_ ?_
   ·intro v h
    revert h
    revert v
    intro v15 h
    try dsimp only at h ⊢
    unfold F4_j16 at h
    refine Z7 <| AWp.ret <| At.thruR ?_
    have h := Option.some.inj h
    subst h
    refine (hret _ ?_).1
    exact ⟨[(.bool v15)], ⟨rfl, trivial⟩, rfl, trivial⟩
   ·intro J16
    refine Z3 <| Z1 I (Z5 (v := (.sl 1 (v8.1.map Z8) false)) I I) I <| Z1 I (stx_len (l := v8.1) (enc := Z8) I s29 I) I <| Z1 I (st_cmp (k := .i64) (a := (v8.1.length : Int)) (b := 0) (c := ((v8.1.length : Int) == 0)) I I I I) I <| Z1 I (Z5 (v := (.bool ((v8.1.length : Int) == 0))) I I) I ?_
    have hif := of_if h
    refine AOps.split (fun hc => ?_) (fun hc => ?_)
    ·have h := hif.1 hc
     refine Zk I I I I (Z5 (v := (.int .i64 v8.2)) I I) I <| Zk I I I I (st_cmp (k := .i64) (a := v8.2) (b := 35) (c := (v8.2 == 35)) I I I I) I <| Z1 I (st_pickT (v := (.bool (v8.2 == 35))) I I I) I <| Z1 I (Z5 (v := (.bool (v8.2 == 35))) I I) I ?_
     have hif := of_if h
     refine AOps.split (fun hc => ?_) (fun hc => ?_)
     ·have h := hif.1 hc
      refine Zk I I I I (Z5 (v := (.bool v12.2)) I I) I <| Z1 I (st_pickT (v := (.bool v12.2)) I I I) I <| Z1 I (Z5 (v := (.bool v12.2)) I I) I ?_
      have hif := of_if h
      refine AOps.split (fun hc => ?_) (fun hc => ?_)
      ·have h := hif.1 hc
       refine Zk I I I I (Z5 (v := (.sl 1 (v12.1.map Z8) false)) I I) I <| Zk I I I I (Z5 (v := (.sl 1 (v4.map Zg) false)) I I) I ?_
       have ⟨v18, hv18, h⟩ := of_bind h
       refine Zk I I I I (st_call0 (ar := [(.sl 1 (v4.map Zg) false)]) (caps := []) Try.call22 (F22_ok K v4 v18 hv18) I I ⟨rfl, trivial⟩ I) I ?_
       have ⟨v20, hv20, h⟩ := of_bind h
       refine Zk I I I I (st_call0 (ar := [(.sl 1 (v12.1.map Z8) false), (.sl 1 (v18.map Z8) false)]) (caps := []) Try.call18 (F18_ok K v12.1 v18 v20 hv20) I I ⟨rfl, rfl, trivial⟩ I) I <| Z1 I (st_pickT (v := (.bool v20)) I I I) I <| Z1 I (Ze (v := (.bool v20)) I I) I <| Z6 ?_
       exact Zj (st' := ⟨[(2, (.bool v20))], []⟩) ⟨rfl, trivial⟩ trivial (J16 v20 h)
      ·have h := hif.2 hc
       refine Za I I I I I I I <| Za I I I I I I I <| Za I I I I I I I <| Za I I I I I I I <| Z1 I (Zt (v := (.bool false)) I I I) I <| Z1 I (Ze (v := (.bool false)) I I) I <| Z6 ?_
       exact Zj (st' := ⟨[(2, (.bool false))], []⟩) ⟨rfl, trivial⟩ trivial (J16 false h)
     ·have h := hif.2 hc
      refine Za I I I I I I I <| Z1 I (Zt (v := (.bool false)) I I I) I <| Z1 I (Z5 (v := (.bool false)) I I) I <| Za I I I I I I I <| Za I I I I I I I <| Za I I I I I I I <| Za I I I I I I I <| Z1 I (Zt (v := (.bool false)) I I I) I ?_
      refine Z1 I (Ze (v := (.bool false)) I I) I <| Z6 ?_
      exact Zj (st' := ⟨[(2, (.bool false))], []⟩) ⟨rfl, trivial⟩ trivial (J16 false h)
    ·have h := hif.2 hc
     refine Za I I I I I I I <| Za I I I I I I I <| Z1 I (Zt (v := (.bool false)) I I I) I <| Z1 I (Z5 (v := (.bool false)) I I) I <| Za I I I I I I I <| Z1 I (Zt (v := (.bool false)) I I I) I <| Z1 I (Z5 (v := (.bool false)) I I) I <| Za I I I I I I I ?_
     refine Za I I I I I I I <| Za I I I I I I I <| Za I I I I I I I <| Z1 I (Zt (v := (.bool false)) I I I) I <| Z1 I (Ze (v := (.bool false)) I I) I <| Z6 ?_
     exact Zj (st' := ⟨[(2, (.bool false))], []⟩) ⟨rfl, trivial⟩ trivial (J16 false h)
  ·have h := hif.2 hc
   refine Zr <| Z7 <| Z9 ?_
   refine AWp.join (V := Bool) (lp := fun v => F4_j22 K v = some r) (sh := fun v => ⟨[(2, (.bool v))], []⟩) ?_ ?_
   ·intro v h
    revert h
    revert v
    intro v21 h
    try dsimp only at h ⊢
    unfold F4_j22 at h
    refine Z7 <| AWp.ret ?_
    have h := Option.some.inj h
    subst h
    refine (hret _ ?_).1
    exact ⟨[(.bool v21)], ⟨rfl, trivial⟩, rfl, trivial⟩
   ·intro J22
    refine Z3 <| Z1 I (Z5 (v := (.int .i64 v8.2)) I I) I <| Z1 I (st_cmp (k := .i64) (a := v8.2) (b := 0) (c := (v8.2 == 0)) I I I I) I <| Z1 I (Z5 (v := (.bool (v8.2 == 0))) I I) I ?_
    have hif := of_if h
    refine AOps.split (fun hc => ?_) (fun hc => ?_)
    ·have h := hif.1 hc
     refine Zk I I I I (Z5 (v := (.sl 1 (v8.1.map Z8) false)) I I) I <| Zk I I I I (Z5 (v := (.sl 1 (v14.1.map Z8) false)) I I) I ?_
     have ⟨v24, hv24, h⟩ := of_bind h
     refine Zk I I I I (st_call0 (ar := [(.sl 1 (v8.1.map Z8) false), (.sl 1 (v14.1.map Z8) false)]) (caps := []) Try.call18 (F18_ok K v8.1 v14.1 v24 hv24) I I ⟨rfl, rfl, trivial⟩ I) I <| Z1 I (st_pickT (v := (.bool v24)) I I I) I <| Z1 I (Z5 (v := (.bool v24)) I I) I ?_
     have hif := of_if h
     refine AOps.split (fun hc => ?_) (fun hc => ?_)
     ·have h := hif.1 hc
      refine Zk I I I I (Z5 (v := (.bool v12.2)) I I) I <| Zk I I I I (st_not (b := v12.2) I I) I <| Z1 I (st_pickT (v := (.bool (!v12.2))) I I I) I <| Z1 I (Z5 (v := (.bool (!v12.2))) I I) I ?_
      have hif := of_if h
      refine AOps.split (fun hc => ?_) (fun hc => ?_)
      ·have h := hif.1 hc
       refine Zk I I I I (Z5 (v := (.sl 1 (v12.1.map Z8) false)) I I) I <| Zk I I I I (stx_len (l := v12.1) (enc := Z8) I s29 I) I <| Zk I I I I (st_cmp (k := .i64) (a := (v12.1.length : Int)) (b := 0) (c := ((v12.1.length : Int) == 0)) I I I I) I <| Z1 I (st_pickT (v := (.bool ((v12.1.length : Int) == 0))) I I I) I <| Z1 I (Ze (v := (.bool ((v12.1.length : Int) == 0))) I I) I <| Z6 ?_
       exact Zj (st' := ⟨[(2, (.bool ((v12.1.length : Int) == 0)))], []⟩) ⟨rfl, trivial⟩ trivial (J22 ((v12.1.length : Int) == 0) h)
      ·have h := hif.2 hc
       refine Za I I I I I I I <| Za I I I I I I I <| Za I I I I I I I <| Z1 I (Zt (v := (.bool false)) I I I) I <| Z1 I (Ze (v := (.bool false)) I I) I <| Z6 ?_
       exact Zj (st' := ⟨[(2, (.bool false))], []⟩) ⟨rfl, trivial⟩ trivial (J22 false h)
     ·have h := hif.2 hc
      refine Za I I I I I I I <| Za I I I I I I I <| Z1 I (Zt (v := (.bool false)) I I I) I <| Z1 I (Z5 (v := (.bool false)) I I) I <| Za I I I I I I I <| Za I I I I I I I <| Za I I I I I I I <| Z1 I (Zt (v := (.bool false)) I I I) I ?_
      refine Z1 I (Ze (v := (.bool false)) I I) I <| Z6 ?_
      exact Zj (st' := ⟨[(2, (.bool false))], []⟩) ⟨rfl, trivial⟩ trivial (J22 false h)
    ·have h := hif.2 hc
     refine Za I I I I I I I <| Za I I I I I I I <| Za I I I I I I I <| Z1 I (Zt (v := (.bool false)) I I I) I <| Z1 I (Z5 (v := (.bool false)) I I) I <| Za I I I I I I I <| Za I I I I I I I <| Z1 I (Zt (v := (.bool false)) I I I) I ?_
     refine Z1 I (Z5 (v := (.bool false)) I I) I <| Za I I I I I I I <| Za I I I I I I I <| Za I I I I I I I <| Z1 I (Zt (v := (.bool false)) I I I) I <| Z1 I (Ze (v := (.bool false)) I I) I <| Z6 ?_
     exact Zj (st' := ⟨[(2, (.bool false))], []⟩) ⟨rfl, trivial⟩ trivial (J22 false h)
end Go.AM.Gra
