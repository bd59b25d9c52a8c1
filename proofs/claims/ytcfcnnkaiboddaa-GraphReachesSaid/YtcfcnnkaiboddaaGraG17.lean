/- What these functions compute, each with its walk: F34, F7. -/
import Derived.Test.YtcfcnnkaiboddaaGraT
import Derived.Test.YtcfcnnkaiboddaaGraG0
import Derived.Test.YtcfcnnkaiboddaaGraG1
import Derived.Test.YtcfcnnkaiboddaaGraG2
import Derived.Test.YtcfcnnkaiboddaaGraG5
import Derived.Test.YtcfcnnkaiboddaaGraG11
namespace Go.AM.Gra
open Go Go.AM Go.Proofs
set_option maxRecDepth 100000
set_option maxHeartbeats 2000000
def F34_c13 (K : Nat) (v12 : (List Int)) : Option ((List Int) × Int) :=
 some (v12, 0)
def F34_j18 (K : Nat) (b15 : Int → (List Int) → Option ((List Int) × Int)) (v9 : Int) (v17 : (List Int)) : Option ((List Int) × Int) :=
 b15 (IntKind.i64.wrap (v9 + 1)) v17
def F34_l11 (K : Nat) (v8 : (List Int)) (c14 : (List Int) → Option ((List Int) × Int)) : Nat → Int → (List Int) → Option ((List Int) × Int)
 | 0, _, _ => none
 | k11 + 1, v9, v10 =>
  if (decide (v9 < (v8.length : Int))) = true then
   if (0 : Int) ≤ v9 ∧ v9 < v8.length then
    if (decide ((v8.getD v9.toNat 0) ≥ 0)) = true then
     if v10.length + [v9].length ≤ 1073741824 then
      F34_j18 K (F34_l11 K v8 c14 k11) v9 (v10 ++ [v9])
     else none
    else
     F34_j18 K (F34_l11 K v8 c14 k11) v9 v10
   else none
  else
   c14 v10
def F34_c3 (K : Nat) (a0 : Za) (a1 : (List Int)) : Option ((List Int) × Int) :=
 (F47 K a0).bind fun v6 =>
  (F46 K v6 a1 (Int.negSucc 0)).bind fun v8 =>
   F34_l11 K v8 (F34_c13 K) K 0 []
def F34_l2 (K : Nat) (a1 : (List Int)) (a0 : Za) (c4 : Option ((List Int) × Int)) : Nat → Int → Option ((List Int) × Int)
 | 0, _ => none
 | k2 + 1, v1 =>
  if (decide (v1 < (a1.length : Int))) = true then
   if (0 : Int) ≤ v1 ∧ v1 < a1.length then
    (F45 K a0 (a1.getD v1.toNat 0)).bind fun v23 =>
     if (!v23) = true then
      some ([], 10)
     else
      (F34_l2 K a1 a0 c4 k2) (IntKind.i64.wrap (v1 + 1))
   else none
  else
   c4
def F34 (K : Nat) (a0 : Za) (a1 : (List Int)) : Option ((List Int) × Int) :=
 F34_l2 K a1 a0 (F34_c3 K a0 a1) K 0
theorem F34_ok (K : Nat) (a0 : Za) (a1 : (List Int)) (r : (List Int) × Int) (h : F34 K a0 a1 = some r) : ACall P 34 ⟨[(Z3 a0), (.sl 1 (a1.map Z7) false)], [], (.tup [(.sl 1 (r.1.map Z7) false), (.int .i64 r.2)]), [], []⟩ := by
 refine acall_of Try.func34 Try.results34 rfl Try.ntmps34 rfl rfl rfl ?_
 intro E Q hP hN hro hret
 obtain ⟨P', nt', w0, F0, p0, S0, β0, ro0⟩ := E
 simp only at hP hN
 subst hP hN
 dsimp only [argT]
 unfold F34 at h
 refine Zc <| Z4 <| Z1 I (st_box (v := (Z3 a0)) (cs := (Z3 a0).cells) I I I I I) I <| Z1 I (Ze (v := (.sl 1 [] false)) I I) I <| Z1 I (Ze (v := (.int .i64 0)) I I) I <| Z8 <| Zb <| Zc ?_
 refine Zc <| Z4 <| Z1 I (Z9 (v := (.sl 1 (a1.map Z7) false)) I I) I <| Z1 I (stx_len (l := a1) (enc := Z7) I s29 I) I <| Z1 I (Z9 (v := (.int .i64 0)) I I) I <| Z8 <| Zb <| AWp.weaken (st' := ⟨[(1, (.sl 1 (a1.map Z7) false)), (2, (.ptr 2 0)), (11, (.sl 1 (a1.map Z7) false)), (12, (.int .i64 (a1.length : Int))), (13, (.int .i64 0))], [(2, (.box (Z3 a0).cells))]⟩) ⟨rfl, rfl, rfl, rfl, rfl, trivial⟩ ⟨rfl, trivial⟩ ?_
 refine Zq (V := Int) (X := Unit) (lp := fun k v => F34_l2 K a1 a0 (F34_c3 K a0 a1) k v = some r) (sh := fun v => ⟨[(1, (.sl 1 (a1.map Z7) false)), (2, (.ptr 2 0)), (11, (.sl 1 (a1.map Z7) false)), (12, (.int .i64 (a1.length : Int))), (13, (.int .i64 v))], [(2, (.box (Z3 a0).cells))]⟩) (x := fun v => F34_c3 K a0 a1 = some r) (shx := fun v => ⟨[(1, (.sl 1 (a1.map Z7) false)), (2, (.ptr 2 0))], [(2, (.box (Z3 a0).cells))]⟩) (k := K) (v := 0) h ?_ ?_
 ·intro v h
  try dsimp only at h ⊢
  unfold F34_c3 at h
  refine Zb <| Zc <| Z4 <| Z1 I (Ze (v := (.sl 1 [] true)) I I) I <| Z8 <| Zb <| Zc <| Zc ?_
  refine Z4 <| Z1 I (st_loadPA (cs := (Z3 a0).cells) (vs := (Z3 a0).cells) I a35 I I I I) I ?_
  have ⟨v6, hv6, h⟩ := of_bind h
  refine Z1 I (st_call0 (ar := [(Z3 a0)]) (caps := []) Try.call47 (F47_ok K a0 v6 hv6) I I ⟨rfl, trivial⟩ I) I <| Z1 I (Z9 (v := (.sl 1 (a1.map Z7) false)) I I) I ?_
  have ⟨v8, hv8, h⟩ := of_bind h
  refine Z1 I (st_call0 (ar := [(.sl 1 (v6.map Zf) false), (.sl 1 (a1.map Z7) false), (.int .i64 (Int.negSucc 0))]) (caps := []) Try.call46 (F46_ok K v6 a1 (Int.negSucc 0) v8 hv8) I I ⟨rfl, rfl, rfl, trivial⟩ I) I <| Z1 I (stx_len (l := v8) (enc := Z7) I s29 I) I <| Z1 I (Z9 (v := (.int .i64 0)) I I) I <| Z8 <| Zb <| AWp.ghost (st' := ⟨[(8, (.vs 8)), (25, (.sl 1 (v8.map Z7) false)), (26, (.int .i64 (v8.length : Int))), (27, (.int .i64 0))], [(8, (.vec 1 (List.map Z7 ([] : List Int))))]⟩) (fun a w h => (Zp ⟨[(8, (.vs 8)), (25, (.sl 1 (v8.map Z7) false)), (26, (.int .i64 (v8.length : Int))), (27, (.int .i64 0))], [(8, (.vec 1 (List.map Z7 ([] : List Int))))]⟩ (ghost_own (k := 8) (m := 8) (sz := 1) I I a w (Zp ⟨[(8, (.sl 1 [] true)), (25, (.sl 1 (v8.map Z7) false)), (26, (.int .i64 (v8.length : Int))), (27, (.int .i64 0))], []⟩ h ⟨rfl, rfl, rfl, rfl, trivial⟩ trivial)) ⟨rfl, rfl, rfl, rfl, trivial⟩ ⟨rfl, trivial⟩)) <| AWp.weaken (st' := ⟨[(8, (.vs 8)), (25, (.sl 1 (v8.map Z7) false)), (26, (.int .i64 (v8.length : Int))), (27, (.int .i64 0))], [(8, (.vec 1 (List.map Z7 [])))]⟩) ⟨rfl, rfl, rfl, rfl, trivial⟩ ⟨rfl, trivial⟩ ?_
  refine Zq (V := Int × (List Int)) (X := (List Int)) (lp := fun k v => F34_l11 K v8 (F34_c13 K) k v.1 v.2 = some r) (sh := fun v => ⟨[(8, (.vs 8)), (25, (.sl 1 (v8.map Z7) false)), (26, (.int .i64 (v8.length : Int))), (27, (.int .i64 v.1))], [(8, (.vec 1 (List.map Z7 v.2)))]⟩) (x := fun v => F34_c13 K v = some r) (shx := fun v => ⟨[(8, (.vs 8))], [(8, (.vec 1 (List.map Z7 v)))]⟩) (k := K) (v := (0, [])) h ?_ ?_
  ·intro v h
   revert h
   revert v
   intro v12 h
   try dsimp only at h ⊢
   unfold F34_c13 at h
   refine Zb <| Zc <| Z4 <| Z1 I (Z9 (v := (.vs 8)) I I) I <| Z1 I (Ze (v := (.vs 8)) I I) I <| Z1 I (Ze (v := (.int .i64 0)) I I) I <| Z8 <| Zb ?_
   refine AWp.ret <| At.ghost (st' := ⟨[(4, (.sl 1 (v12.map Z7) false)), (5, (.int .i64 0))], []⟩) (fun a w h => (Zp ⟨[(4, (.sl 1 (v12.map Z7) false)), (5, (.int .i64 0))], []⟩ (ghost_freeze (m := 8) (sz := 1) (es := (List.map Z7 v12)) a w (Zp ⟨[(4, (.vs 8)), (5, (.int .i64 0))], [(8, (.vec 1 (List.map Z7 v12)))]⟩ h ⟨rfl, rfl, trivial⟩ ⟨rfl, trivial⟩)) ⟨rfl, rfl, trivial⟩ trivial)) ?_
   have h := Option.some.inj h
   subst h
   refine (hret _ ?_).1
   exact ⟨[(.sl 1 (v12.map Z7) false), (.int .i64 0)], ⟨rfl, rfl, trivial⟩, rfl, trivial⟩
  ·intro N k11 v h IH11 J11
   obtain ⟨v9, v10⟩ := v
   try dsimp only at h IH11 J11 ⊢
   cases k11 with
   | zero => cases h
   | succ k11 =>
    rw [F34_l11] at h
    refine Zc <| Z4 <| Z1 I (st_cmp (k := .i64) (a := v9) (b := (v8.length : Int)) (c := (decide (v9 < (v8.length : Int)))) I I I I) I <| Z8 <| Zb <| Zc ?_
    have hif := of_if h
    refine Zn I (fun hc => ?_) (fun hc => ?_)
    ·have h := hif.1 hc
     refine Zr <| Zb <| Zc <| AWp.block <| Zc <| Z4 <| Z1 I (Z9 (v := (.int .i64 v9)) I I) I ?_
     have ⟨hg16, h⟩ := Zi h
     refine Z1 I (st_index (k := .i64) (l := v8) (enc := Z7) (z := 0) (n := v9) (cs := [(.int .i64 (v8.getD v9.toNat 0))]) (full := false) I s29 I I hg16 I) I <| Z1 I (st_loadI (cs := [(.int .i64 (v8.getD v9.toNat 0))]) (v := (.int .i64 (v8.getD v9.toNat 0))) I o3 I I) I <| Z1 I (Ze (v := (.int .i64 v9)) I I) I <| Z1 I (Ze (v := (.int .i64 (v8.getD v9.toNat 0))) I I) I <| Z8 <| Zb <| Zc <| Z4 ?_
     refine Z1 I (Z9 (v := (.int .i64 (v8.getD v9.toNat 0))) I I) I <| Z1 I (st_cmp (k := .i64) (a := (v8.getD v9.toNat 0)) (b := 0) (c := (decide ((v8.getD v9.toNat 0) ≥ 0))) I I I I) I <| Z8 <| Zb ?_
     refine AWp.join (V := (List Int)) (lp := fun v => F34_j18 K (F34_l11 K v8 (F34_c13 K) k11) v9 v = some r) (sh := fun v => ⟨[(8, (.vs 8)), (25, (.sl 1 (v8.map Z7) false)), (26, (.int .i64 (v8.length : Int))), (27, (.int .i64 v9))], [(8, (.vec 1 (List.map Z7 v)))]⟩) ?_ ?_
     ·intro v h
      revert h
      revert v
      intro v17 h
      try dsimp only at h ⊢
      unfold F34_j18 at h
      refine At.end <| Zb <| Z4 <| Z1 I (st_arith (k := .i64) (a := v9) (b := 1) (c := (IntKind.i64.wrap (v9 + 1))) I I I I) I <| Z1 I (Z9 (v := (.int .i64 (IntKind.i64.wrap (v9 + 1)))) I I) I <| Z8 ?_
      exact Zj (st' := ⟨[(8, (.vs 8)), (25, (.sl 1 (v8.map Z7) false)), (26, (.int .i64 (v8.length : Int))), (27, (.int .i64 (IntKind.i64.wrap (v9 + 1))))], [(8, (.vec 1 (List.map Z7 v17)))]⟩) ⟨rfl, rfl, rfl, rfl, trivial⟩ ⟨rfl, trivial⟩ (IH11 _ ((IntKind.i64.wrap (v9 + 1)), v17) (Nat.lt_succ_self _) h)
     ·intro J18
      have hif := of_if h
      refine Zn I (fun hc => ?_) (fun hc => ?_)
      ·have h := hif.1 hc
       refine Z4 <| Z1 I (Z9 (v := (.vs 8)) I I) I <| Z1 I (Z9 (v := (.int .i64 v9)) I I) I <| Z1 I (stx_buildSlice (vs := [(.int .i64 v9)]) (enc := Z7) (l := [v9]) I el29 I I ⟨rfl, trivial⟩ I els_i64 I I I I) I ?_
       have ⟨hg19, h⟩ := Zi h
       refine Z1 I (st_append (m := 8) (enc := Z7) (l := v10) (l' := [v9]) (src := (.vs 36)) (rd := [(36, (.vec 1 (List.map Z7 [v9])))]) I I el29 I u29 I I I I (oneRead I) els_i64 hg19) I <| Z1 I (Ze (v := (.vs 8)) I I) I <| Z8 ?_
       exact Zj (st' := ⟨[(8, (.vs 8)), (25, (.sl 1 (v8.map Z7) false)), (26, (.int .i64 (v8.length : Int))), (27, (.int .i64 v9))], [(8, (.vec 1 (List.map Z7 (v10 ++ [v9]))))]⟩) ⟨rfl, rfl, rfl, rfl, trivial⟩ ⟨rfl, trivial⟩ (J18 (v10 ++ [v9]) h)
      ·have h := hif.2 hc
       refine Zr ?_
       exact Zj (st' := ⟨[(8, (.vs 8)), (25, (.sl 1 (v8.map Z7) false)), (26, (.int .i64 (v8.length : Int))), (27, (.int .i64 v9))], [(8, (.vec 1 (List.map Z7 v10)))]⟩) ⟨rfl, rfl, rfl, rfl, trivial⟩ ⟨rfl, trivial⟩ (J18 v10 h)
    ·have h := hif.2 hc
     refine AWp.exit <| At.thru ?_
     exact Zj (st' := ⟨[(8, (.vs 8))], [(8, (.vec 1 (List.map Z7 v10)))]⟩) ⟨rfl, trivial⟩ ⟨rfl, trivial⟩ (J11 v10 h)
 ·intro N k2 v h IH2 J2
  revert h
  revert v
  intro v1 h
  try dsimp only at h IH2 J2 ⊢
  cases k2 with
  | zero => cases h
  | succ k2 =>
   rw [F34_l2] at h
   refine Zc <| Z4 <| Z1 I (st_cmp (k := .i64) (a := v1) (b := (a1.length : Int)) (c := (decide (v1 < (a1.length : Int)))) I I I I) I <| Z8 <| Zb <| Zc ?_
   have hif := of_if h
   refine Zn I (fun hc => ?_) (fun hc => ?_)
   ·have h := hif.1 hc
    refine Zr <| Zb <| Zc <| AWp.block <| Zc <| Z4 ?_
    have ⟨hg21, h⟩ := Zi h
    refine Z1 I (st_index (k := .i64) (l := a1) (enc := Z7) (z := 0) (n := v1) (cs := [(.int .i64 (a1.getD v1.toNat 0))]) (full := false) I s29 I I hg21 I) I <| Z1 I (st_loadI (cs := [(.int .i64 (a1.getD v1.toNat 0))]) (v := (.int .i64 (a1.getD v1.toNat 0))) I o3 I I) I <| Z1 I (Ze (v := (.int .i64 (a1.getD v1.toNat 0))) I I) I <| Z8 <| Zb <| Zc <| Z4 <| Z1 I (st_loadPA (cs := (Z3 a0).cells) (vs := (Z3 a0).cells) I a35 I I I I) I ?_
    refine Z1 I (Z9 (v := (.int .i64 (a1.getD v1.toNat 0))) I I) I ?_
    have ⟨v23, hv23, h⟩ := of_bind h
    refine Z1 I (st_call0 (ar := [(Z3 a0), (.int .i64 (a1.getD v1.toNat 0))]) (caps := []) Try.call45 (F45_ok K a0 (a1.getD v1.toNat 0) v23 hv23) I I ⟨rfl, rfl, trivial⟩ I) I <| Z1 I (st_not (b := v23) I I) I <| Z8 <| Zb ?_
    have hif := of_if h
    refine Zn I (fun hc => ?_) (fun hc => ?_)
    ·have h := hif.1 hc
     refine Zc <| Z4 <| Z1 I (Ze (v := (.sl 1 [] false)) I I) I <| Z1 I (Ze (v := (.int .i64 10)) I I) I <| Z8 <| Zb <| AWp.ret <| At.overR ?_
     refine At.thruR ?_
     refine At.thruR (At.overR ?_)
     refine At.thruR ?_
     have h := Option.some.inj h
     subst h
     refine (hret _ ?_).1
     exact ⟨[(.sl 1 [] false), (.int .i64 10)], ⟨rfl, rfl, trivial⟩, rfl, trivial⟩
    ·have h := hif.2 hc
     refine Zr <| At.end <| Zb <| Z4 <| Z1 I (st_arith (k := .i64) (a := v1) (b := 1) (c := (IntKind.i64.wrap (v1 + 1))) I I I I) I <| Z1 I (Z9 (v := (.int .i64 (IntKind.i64.wrap (v1 + 1)))) I I) I <| Z8 ?_
     exact Zj (st' := ⟨[(1, (.sl 1 (a1.map Z7) false)), (2, (.ptr 2 0)), (11, (.sl 1 (a1.map Z7) false)), (12, (.int .i64 (a1.length : Int))), (13, (.int .i64 (IntKind.i64.wrap (v1 + 1))))], [(2, (.box (Z3 a0).cells))]⟩) ⟨rfl, rfl, rfl, rfl, rfl, trivial⟩ ⟨rfl, trivial⟩ (IH2 _ (IntKind.i64.wrap (v1 + 1)) (Nat.lt_succ_self _) h)
   ·have h := hif.2 hc
    refine AWp.exit <| At.thru ?_
    exact Zj (st' := ⟨[(1, (.sl 1 (a1.map Z7) false)), (2, (.ptr 2 0))], [(2, (.box (Z3 a0).cells))]⟩) ⟨rfl, rfl, trivial⟩ ⟨rfl, trivial⟩ (J2 () h)
def F7_c21 (K : Nat) (v10 : Za) (a1 : (List Int)) (v14 : (List Int)) (v20 : Bool) : Option (Bool) :=
 (F34 K v10 a1).bind fun v24 =>
  if v20 = true then
   if ((v24.1.length : Int) == 0) = true then
    some (v24.2 == 10)
   else
    some false
  else
   if (v24.2 == 0) = true then
    (F18 K v24.1 v14).bind fun v26 =>
     some v26
   else
    some false
def F7_j29 (K : Nat) (b27 : Bool → Int → Option (Bool)) (v18 : Int) (v28 : Bool) : Option (Bool) :=
 b27 v28 (IntKind.i64.wrap (v18 + 1))
def F7_j36 (K : Nat) (b27 : Bool → Int → Option (Bool)) (v18 : Int) (v35 : Bool) : Option (Bool) :=
 F7_j29 K b27 v18 v35
def F7_l19 (K : Nat) (a1 : (List Int)) (v10 : Za) (v8 : (List (List Bool))) (c22 : Bool → Option (Bool)) : Nat → Bool → Int → Option (Bool)
 | 0, _, _ => none
 | k19 + 1, v17, v18 =>
  if (decide (v18 < (a1.length : Int))) = true then
   if (0 : Int) ≤ v18 ∧ v18 < a1.length then
    (F33 K v10 (a1.getD v18.toNat 0)).bind fun v32 =>
     if (0 : Int) ≤ v18 ∧ v18 < a1.length then
      if (decide ((a1.getD v18.toNat 0) < 0)) = true then
       if (decide ((v32.1.length : Int) > 0)) = true then
        some false
       else
        if (v32.2 != 10) = true then
         some false
        else
         F7_j29 K (F7_l19 K a1 v10 v8 c22 k19) v18 true
      else
       if (0 : Int) ≤ v18 ∧ v18 < a1.length then
        if (decide ((a1.getD v18.toNat 0) ≥ (v8.length : Int))) = true then
         if (decide ((v32.1.length : Int) > 0)) = true then
          some false
         else
          if (v32.2 != 10) = true then
           some false
          else
           F7_j36 K (F7_l19 K a1 v10 v8 c22 k19) v18 true
        else
         if (v32.2 != 0) = true then
          some false
         else
          if (0 : Int) ≤ v18 ∧ v18 < a1.length then
           (F32 K v8 (a1.getD v18.toNat 0)).bind fun v39 =>
            (F18 K v32.1 v39).bind fun v41 =>
             if (!v41) = true then
              some false
             else
              F7_j36 K (F7_l19 K a1 v10 v8 c22 k19) v18 v17
          else none
       else none
     else none
   else none
  else
   c22 v17
def F7_c15 (K : Nat) (a1 : (List Int)) (v10 : Za) (v8 : (List (List Bool))) (v14 : (List Int)) : Option (Bool) :=
 F7_l19 K a1 v10 v8 (F7_c21 K v10 a1 v14) K false 0
def F7_j50 (K : Nat) (b42 : Int → (List Int) → Option (Bool)) (v11 : Int) (v49 : (List Int)) : Option (Bool) :=
 b42 (IntKind.i64.wrap (v11 + 1)) v49
def F7_c47 (K : Nat) (v12 : (List Int)) (v11 : Int) (b42 : Int → (List Int) → Option (Bool)) (v46 : Bool) : Option (Bool) :=
 if v46 = true then
  if v12.length + [v11].length ≤ 1073741824 then
   F7_j50 K b42 v11 (v12 ++ [v11])
  else none
 else
  F7_j50 K b42 v11 v12
def F7_j54 (K : Nat) (b52 : Bool → Int → Option (Bool)) (v44 : Int) (v53 : Bool) : Option (Bool) :=
 b52 v53 (IntKind.i64.wrap (v44 + 1))
def F7_l45 (K : Nat) (a1 : (List Int)) (v8 : (List (List Bool))) (v11 : Int) (c48 : Bool → Option (Bool)) : Nat → Bool → Int → Option (Bool)
 | 0, _, _ => none
 | k45 + 1, v43, v44 =>
  if (decide (v44 < (a1.length : Int))) = true then
   if v43 = true then
    F7_j54 K (F7_l45 K a1 v8 v11 c48 k45) v44 true
   else
    if (0 : Int) ≤ v44 ∧ v44 < a1.length then
     if (decide ((a1.getD v44.toNat 0) ≥ 0)) = true then
      if (0 : Int) ≤ v44 ∧ v44 < a1.length then
       if (decide ((a1.getD v44.toNat 0) < (v8.length : Int))) = true then
        if (0 : Int) ≤ v44 ∧ v44 < a1.length then
         (F32 K v8 (a1.getD v44.toNat 0)).bind fun v59 =>
          if (0 : Int) ≤ v11 ∧ v11 < v59.length then
           F7_j54 K (F7_l45 K a1 v8 v11 c48 k45) v44 (decide ((v59.getD v11.toNat 0) ≥ 0))
          else none
        else none
       else
        F7_j54 K (F7_l45 K a1 v8 v11 c48 k45) v44 false
      else none
     else
      F7_j54 K (F7_l45 K a1 v8 v11 c48 k45) v44 false
    else none
  else
   c48 v43
def F7_l13 (K : Nat) (v8 : (List (List Bool))) (a1 : (List Int)) (c16 : (List Int) → Option (Bool)) : Nat → Int → (List Int) → Option (Bool)
 | 0, _, _ => none
 | k13 + 1, v11, v12 =>
  if (decide (v11 < (v8.length : Int))) = true then
   F7_l45 K a1 v8 v11 (F7_c47 K v12 v11 (F7_l13 K v8 a1 c16 k13)) K false 0
  else
   c16 v12
def F7 (K : Nat) (a0 : Zu) (a1 : (List Int)) : Option (Bool) :=
 (F13 K).bind fun v2 =>
  if (!v2) = true then
   (F13 K).bind fun v4 =>
    some v4
  else
   if (decide ((a1.length : Int) > 12)) = true then
    (F13 K).bind fun v6 =>
     some v6
   else
    (F14 K a0).bind fun v8 =>
     (F16 K v8).bind fun v10 =>
      F7_l13 K v8 a1 (F7_c15 K a1 v10 v8) K 0 []
theorem F7_ok (K : Nat) (a0 : Zu) (a1 : (List Int)) (r : Bool) (h : F7 K a0 a1 = some r) : ACall P 7 ⟨[(Zm a0), (.sl 1 (a1.map Z7) false)], [], (.bool r), [], []⟩ := by
 refine acall_of Try.func7 Try.results7 rfl Try.ntmps7 rfl rfl rfl ?_
 intro E Q hP hN hro hret
 obtain ⟨P', nt', w0, F0, p0, S0, β0, ro0⟩ := E
 simp only at hP hN
 subst hP hN
 dsimp only [argT]
 unfold F7 at h
 refine Zc <| Z4 <| Z1 I (st_box (v := (Zm a0)) (cs := (Zm a0).cells) I I I I I) I <| Z1 I (Ze (v := (.bool false)) I I) I <| Z8 <| Zb <| Zc <| Zc ?_
 refine Z4 ?_
 have ⟨v2, hv2, h⟩ := of_bind h
 refine Z1 I (st_call0 (ar := []) (caps := []) Try.call13 (F13_ok K v2 hv2) I I trivial I) I <| Z1 I (st_not (b := v2) I I) I <| Z1 I (Z9 (v := (.bool (!v2))) I I) I ?_
 have hif := of_if h
 refine AOps.split (fun hc => ?_) (fun hc => ?_)
 ·have h := hif.1 hc
  refine Z6 I I I I I I I <| Z6 I I I I I I I <| Z6 I I I I I I I <| Z1 I (st_pickT (v := (.bool true)) I I I) I <| Z8 <| Zb ?_
  refine Zn (b := true) I (fun hc => ?_) (fun hc => ?_)
  rotate_left
  ·cases hc
  refine Zc <| Z4 ?_
  have ⟨v4, hv4, h⟩ := of_bind h
  refine Z1 I (st_call0 (ar := []) (caps := []) Try.call13 (F13_ok K v4 hv4) I I trivial I) I <| Z1 I (Ze (v := (.bool v4)) I I) I <| Z8 <| Zb <| AWp.ret <| At.thruR ?_
  have h := Option.some.inj h
  subst h
  refine (hret _ ?_).1
  exact ⟨[(.bool v4)], ⟨rfl, trivial⟩, rfl, trivial⟩
 ·have h := hif.2 hc
  refine Zh I I I I (Z9 (v := (.sl 1 (a1.map Z7) false)) I I) I <| Zh I I I I (stx_len (l := a1) (enc := Z7) I s29 I) I <| Zh I I I I (st_cmp (k := .i64) (a := (a1.length : Int)) (b := 12) (c := (decide ((a1.length : Int) > 12))) I I I I) I <| Z1 I (Zs (v := (.bool (decide ((a1.length : Int) > 12)))) I I I) I <| Z8 <| Zb ?_
  have hif := of_if h
  refine Zn I (fun hc => ?_) (fun hc => ?_)
  ·have h := hif.1 hc
   refine Zc <| Z4 ?_
   have ⟨v6, hv6, h⟩ := of_bind h
   refine Z1 I (st_call0 (ar := []) (caps := []) Try.call13 (F13_ok K v6 hv6) I I trivial I) I <| Z1 I (Ze (v := (.bool v6)) I I) I <| Z8 <| Zb <| AWp.ret <| At.thruR ?_
   have h := Option.some.inj h
   subst h
   refine (hret _ ?_).1
   exact ⟨[(.bool v6)], ⟨rfl, trivial⟩, rfl, trivial⟩
  ·have h := hif.2 hc
   refine Zr <| Zb <| Zc <| Z4 <| Z1 I (st_loadPA (cs := (Zm a0).cells) (vs := (Zm a0).cells) I a24 I I I I) I ?_
   have ⟨v8, hv8, h⟩ := of_bind h
   refine Z1 I (st_call0 (ar := [(Zm a0)]) (caps := []) Try.call14 (F14_ok K a0 v8 hv8) I I ⟨rfl, trivial⟩ I) I <| Z1 I (Ze (v := (.sl 1 (v8.map Zl) false)) I I) I <| Z8 <| Zb <| Zc <| Z4 <| Z1 I (Z9 (v := (.sl 1 (v8.map Zl) false)) I I) I ?_
   have ⟨v10, hv10, h⟩ := of_bind h
   refine Z1 I (st_call0 (ar := [(.sl 1 (v8.map Zl) false)]) (caps := []) Try.call16 (F16_ok K v8 v10 hv10) I I ⟨rfl, trivial⟩ I) I <| Z1 I (st_alloc (cs := [(.int .i64 0), (.sl 2 [] false)]) I z35 I I I) I <| Z1 I (st_storeP (cs := [(.int .i64 0), (.sl 2 [] false)]) (vs := (Z3 v10).cells) (ds := (Z3 v10).cells) (v := (Z3 v10)) sz35 I I I I I I I I) I <| Z8 <| Zb <| Zc <| Z4 <| Z1 I (Ze (v := (.sl 1 [] true)) I I) I ?_
   refine Z8 <| Zb <| Zc <| Z4 <| Z1 I (Ze (v := (.bool false)) I I) I <| Z8 <| Zb <| Zc ?_
   refine Zc <| Z4 <| Z1 I (Ze (v := (.int .i64 0)) I I) I <| Z8 <| Zb <| AWp.ghost (st' := ⟨[(1, (.sl 1 (a1.map Z7) false)), (5, (.sl 1 (v8.map Zl) false)), (6, (.ptr 6 0)), (7, (.vs 7)), (8, (.bool false)), (9, (.int .i64 0))], [(6, (.box (Z3 v10).cells)), (7, (.vec 1 (List.map Z7 ([] : List Int))))]⟩) (fun a w h => (Zp ⟨[(1, (.sl 1 (a1.map Z7) false)), (5, (.sl 1 (v8.map Zl) false)), (6, (.ptr 6 0)), (7, (.vs 7)), (8, (.bool false)), (9, (.int .i64 0))], [(6, (.box (Z3 v10).cells)), (7, (.vec 1 (List.map Z7 ([] : List Int))))]⟩ (ghost_own (k := 7) (m := 7) (sz := 1) I I a w (Zp ⟨[(7, (.sl 1 [] true)), (1, (.sl 1 (a1.map Z7) false)), (5, (.sl 1 (v8.map Zl) false)), (6, (.ptr 6 0)), (8, (.bool false)), (9, (.int .i64 0))], [(6, (.box (Z3 v10).cells))]⟩ h ⟨rfl, rfl, rfl, rfl, rfl, rfl, trivial⟩ ⟨rfl, trivial⟩)) ⟨rfl, rfl, rfl, rfl, rfl, rfl, trivial⟩ ⟨rfl, rfl, trivial⟩)) <| AWp.weaken (st' := ⟨[(1, (.sl 1 (a1.map Z7) false)), (5, (.sl 1 (v8.map Zl) false)), (6, (.ptr 6 0)), (7, (.vs 7)), (8, (.bool false)), (9, (.int .i64 0))], [(6, (.box (Z3 v10).cells)), (7, (.vec 1 (List.map Z7 [])))]⟩) ⟨rfl, rfl, rfl, rfl, rfl, rfl, trivial⟩ ⟨rfl, rfl, trivial⟩ ?_
   refine Zq (V := Int × (List Int)) (X := (List Int)) (lp := fun k v => F7_l13 K v8 a1 (F7_c15 K a1 v10 v8) k v.1 v.2 = some r) (sh := fun v => ⟨[(1, (.sl 1 (a1.map Z7) false)), (5, (.sl 1 (v8.map Zl) false)), (6, (.ptr 6 0)), (7, (.vs 7)), (8, (.bool false)), (9, (.int .i64 v.1))], [(6, (.box (Z3 v10).cells)), (7, (.vec 1 (List.map Z7 v.2)))]⟩) (x := fun v => F7_c15 K a1 v10 v8 v = some r) (shx := fun v => ⟨[(1, (.sl 1 (a1.map Z7) false)), (5, (.sl 1 (v8.map Zl) false)), (6, (.ptr 6 0)), (7, (.vs 7)), (8, (.bool false))], [(6, (.box (Z3 v10).cells)), (7, (.vec 1 (List.map Z7 v)))]⟩) (k := K) (v := (0, [])) h ?_ ?_
   ·intro v h
    revert h
    revert v
    intro v14 h
    try dsimp only at h ⊢
    unfold F7_c15 at h
    refine Zb <| Zc <| Zc <| Z4 <| Z1 I (Ze (v := (.int .i64 0)) I I) I <| Z8 <| Zb <| AWp.weaken (st' := ⟨[(1, (.sl 1 (a1.map Z7) false)), (5, (.sl 1 (v8.map Zl) false)), (6, (.ptr 6 0)), (7, (.vs 7)), (8, (.bool false)), (12, (.int .i64 0))], [(6, (.box (Z3 v10).cells)), (7, (.vec 1 (List.map Z7 v14)))]⟩) ⟨rfl, rfl, rfl, rfl, rfl, rfl, trivial⟩ ⟨rfl, rfl, trivial⟩ ?_
    refine Zq (V := Bool × Int) (X := Bool) (lp := fun k v => F7_l19 K a1 v10 v8 (F7_c21 K v10 a1 v14) k v.1 v.2 = some r) (sh := fun v => ⟨[(1, (.sl 1 (a1.map Z7) false)), (5, (.sl 1 (v8.map Zl) false)), (6, (.ptr 6 0)), (7, (.vs 7)), (8, (.bool v.1)), (12, (.int .i64 v.2))], [(6, (.box (Z3 v10).cells)), (7, (.vec 1 (List.map Z7 v14)))]⟩) (x := fun v => F7_c21 K v10 a1 v14 v = some r) (shx := fun v => ⟨[(1, (.sl 1 (a1.map Z7) false)), (6, (.ptr 6 0)), (7, (.vs 7)), (8, (.bool v))], [(6, (.box (Z3 v10).cells)), (7, (.vec 1 (List.map Z7 v14)))]⟩) (k := K) (v := (false, 0)) h ?_ ?_
    ·intro v h
     revert h
     revert v
     intro v20 h
     try dsimp only at h ⊢
     unfold F7_c21 at h
     refine Zb <| Zc <| Z4 <| Z1 I (st_loadPA (cs := (Z3 v10).cells) (vs := (Z3 v10).cells) I a35 I I I I) I <| Z1 I (Z9 (v := (.sl 1 (a1.map Z7) false)) I I) I ?_
     have ⟨v24, hv24, h⟩ := of_bind h
     refine Z1 I (st_call0 (ar := [(Z3 v10), (.sl 1 (a1.map Z7) false)]) (caps := []) Try.call34 (F34_ok K v10 a1 v24 hv24) I I ⟨rfl, rfl, trivial⟩ I) I <| Z1 I (Z9 (v := (.tup [(.sl 1 (v24.1.map Z7) false), (.int .i64 v24.2)])) I I) I <| Z1 I (st_extract (vs := [(.sl 1 (v24.1.map Z7) false), (.int .i64 v24.2)]) (v := (.sl 1 (v24.1.map Z7) false)) I I I) I <| Z1 I (st_extract (vs := [(.sl 1 (v24.1.map Z7) false), (.int .i64 v24.2)]) (v := (.int .i64 v24.2)) I I I) I <| Z1 I (Ze (v := (.sl 1 (v24.1.map Z7) false)) I I) I <| Z1 I (Ze (v := (.int .i64 v24.2)) I I) I <| Z8 <| Zb ?_
     refine Zc <| Zc <| Z4 <| Z1 I (Z9 (v := (.bool v20)) I I) I <| Z8 <| Zb ?_
     have hif := of_if h
     refine Zn I (fun hc => ?_) (fun hc => ?_)
     ·have h := hif.1 hc
      refine Zc <| Z4 <| Z1 I (Z9 (v := (.sl 1 (v24.1.map Z7) false)) I I) I <| Z1 I (stx_len (l := v24.1) (enc := Z7) I s29 I) I <| Z1 I (st_cmp (k := .i64) (a := (v24.1.length : Int)) (b := 0) (c := ((v24.1.length : Int) == 0)) I I I I) I <| Z1 I (Z9 (v := (.bool ((v24.1.length : Int) == 0))) I I) I ?_
      have hif := of_if h
      refine AOps.split (fun hc => ?_) (fun hc => ?_)
      ·have h := hif.1 hc
       refine Zh I I I I (Z9 (v := (.int .i64 v24.2)) I I) I <| Zh I I I I (st_cmp (k := .i64) (a := v24.2) (b := 10) (c := (v24.2 == 10)) I I I I) I <| Z1 I (st_pickT (v := (.bool (v24.2 == 10))) I I I) I <| Z1 I (Ze (v := (.bool (v24.2 == 10))) I I) I <| Z8 <| Zb <| AWp.ret <| At.thruR ?_
       have h := Option.some.inj h
       subst h
       refine (hret _ ?_).1
       exact ⟨[(.bool (v24.2 == 10))], ⟨rfl, trivial⟩, rfl, trivial⟩
      ·have h := hif.2 hc
       refine Z6 I I I I I I I <| Z6 I I I I I I I <| Z1 I (Zs (v := (.bool false)) I I I) I <| Z1 I (Ze (v := (.bool false)) I I) I <| Z8 <| Zb <| AWp.ret <| At.thruR ?_
       have h := Option.some.inj h
       subst h
       refine (hret _ ?_).1
       exact ⟨[(.bool false)], ⟨rfl, trivial⟩, rfl, trivial⟩
     ·have h := hif.2 hc
      refine Zr <| Zb <| Zc <| Z4 <| Z1 I (Z9 (v := (.int .i64 v24.2)) I I) I <| Z1 I (st_cmp (k := .i64) (a := v24.2) (b := 0) (c := (v24.2 == 0)) I I I I) I <| Z1 I (Z9 (v := (.bool (v24.2 == 0))) I I) I ?_
      have hif := of_if h
      refine AOps.split (fun hc => ?_) (fun hc => ?_)
      ·have h := hif.1 hc
       refine Zh I I I I (Z9 (v := (.sl 1 (v24.1.map Z7) false)) I I) I <| Zh I I I I (Z9 (v := (.vs 7)) I I) I ?_
       have ⟨v26, hv26, h⟩ := of_bind h
       refine Zh I I I I (st_callB (rd := [(7, (.vec 1 (List.map Z7 v14)))]) (ar := [(.sl 1 (v24.1.map Z7) false), (.vs 7)]) (caps := []) Try.call18 (F18_ok K v24.1 v14 v26 hv26) I I ⟨rfl, rfl, trivial⟩ (subS_mem ⟨rfl, trivial⟩) I I I) I <| Z1 I (st_pickT (v := (.bool v26)) I I I) I <| Z1 I (Ze (v := (.bool v26)) I I) I <| Z8 <| Zb <| AWp.ret ?_
       have h := Option.some.inj h
       subst h
       refine (hret _ ?_).1
       exact ⟨[(.bool v26)], ⟨rfl, trivial⟩, rfl, trivial⟩
      ·have h := hif.2 hc
       refine Z6 I I I I I I I <| Z6 I I I I I I I <| Z6 I I I I I I I <| Z1 I (Zs (v := (.bool false)) I I I) I <| Z1 I (Ze (v := (.bool false)) I I) I <| Z8 <| Zb <| AWp.ret ?_
       have h := Option.some.inj h
       subst h
       refine (hret _ ?_).1
       exact ⟨[(.bool false)], ⟨rfl, trivial⟩, rfl, trivial⟩
    ·intro N k19 v h IH19 J19
     obtain ⟨v17, v18⟩ := v
     try dsimp only at h IH19 J19 ⊢
     cases k19 with
     | zero => cases h
     | succ k19 =>
      rw [F7_l19] at h
      refine Zc <| Zc <| Z4 <| Z1 I (Z9 (v := (.int .i64 v18)) I I) I <| Z1 I (Z9 (v := (.sl 1 (a1.map Z7) false)) I I) I <| Z1 I (stx_len (l := a1) (enc := Z7) I s29 I) I <| Z1 I (st_cmp (k := .i64) (a := v18) (b := (a1.length : Int)) (c := (decide (v18 < (a1.length : Int)))) I I I I) I <| Z8 ?_
      refine Zb ?_
      have hif := of_if h
      refine Zn I (fun hc => ?_) (fun hc => ?_)
      ·have h := hif.1 hc
       refine Zr <| Zb <| Zc ?_
       refine AWp.blockJoin (V := Bool) (lp := fun v => F7_j29 K (F7_l19 K a1 v10 v8 (F7_c21 K v10 a1 v14) k19) v18 v = some r) (sh := fun v => ⟨[(1, (.sl 1 (a1.map Z7) false)), (5, (.sl 1 (v8.map Zl) false)), (6, (.ptr 6 0)), (7, (.vs 7)), (8, (.bool v)), (12, (.int .i64 v18))], [(6, (.box (Z3 v10).cells)), (7, (.vec 1 (List.map Z7 v14)))]⟩) ?_ ?_
       ·intro v h
        revert h
        revert v
        intro v28 h
        try dsimp only at h ⊢
        unfold F7_j29 at h
        refine Zb <| Z4 <| Z1 I (Z9 (v := (.int .i64 v18)) I I) I <| Z1 I (st_arith (k := .i64) (a := v18) (b := 1) (c := (IntKind.i64.wrap (v18 + 1))) I I I I) I <| Z1 I (Ze (v := (.int .i64 (IntKind.i64.wrap (v18 + 1)))) I I) I <| Z8 ?_
        exact Zj (st' := ⟨[(1, (.sl 1 (a1.map Z7) false)), (5, (.sl 1 (v8.map Zl) false)), (6, (.ptr 6 0)), (7, (.vs 7)), (8, (.bool v28)), (12, (.int .i64 (IntKind.i64.wrap (v18 + 1))))], [(6, (.box (Z3 v10).cells)), (7, (.vec 1 (List.map Z7 v14)))]⟩) ⟨rfl, rfl, rfl, rfl, rfl, rfl, trivial⟩ ⟨rfl, rfl, trivial⟩ (IH19 _ (v28, (IntKind.i64.wrap (v18 + 1))) (Nat.lt_succ_self _) h)
       ·intro J29
        refine Zc <| AWp.regionD mixed <| Zg 0 I (st_loadPA (cs := (Z3 v10).cells) (vs := (Z3 v10).cells) I a35 I I I I) <| Zg 1 I (Z9 (v := (.sl 1 (a1.map Z7) false)) I I) <| Zg 2 I (Z9 (v := (.int .i64 v18)) I I) ?_
        have ⟨hg30, h⟩ := Zi h
        refine Zg 3 I (st_index (k := .i64) (l := a1) (enc := Z7) (z := 0) (n := v18) (cs := [(.int .i64 (a1.getD v18.toNat 0))]) (full := false) I s29 I I hg30 I) <| Zg 4 I (st_loadI (cs := [(.int .i64 (a1.getD v18.toNat 0))]) (v := (.int .i64 (a1.getD v18.toNat 0))) I o3 I I) ?_
        have ⟨v32, hv32, h⟩ := of_bind h
        refine Zg 5 I (st_call0 (ar := [(Z3 v10), (.int .i64 (a1.getD v18.toNat 0))]) (caps := []) Try.call33 (F33_ok K v10 (a1.getD v18.toNat 0) v32 hv32) I I ⟨rfl, rfl, trivial⟩ I) <| Zg 6 I (Z9 (v := (.tup [(.sl 1 (v32.1.map Z7) false), (.int .i64 v32.2)])) I I) <| Zg 7 I (st_extract (vs := [(.sl 1 (v32.1.map Z7) false), (.int .i64 v32.2)]) (v := (.sl 1 (v32.1.map Z7) false)) I I I) <| Zg 8 I (st_extract (vs := [(.sl 1 (v32.1.map Z7) false), (.int .i64 v32.2)]) (v := (.int .i64 v32.2)) I I I) <| Zg 9 I (Ze (v := (.sl 1 (v32.1.map Z7) false)) I I) <| Zg 10 I (Ze (v := (.int .i64 v32.2)) I I) <| AOpsD.nil (by kernel_rfl) I <| Zb ?_
        refine Zc <| Z4 <| Z1 I (Z9 (v := (.sl 1 (a1.map Z7) false)) I I) I <| Z1 I (Z9 (v := (.int .i64 v18)) I I) I ?_
        have ⟨hg33, h⟩ := Zi h
        refine Z1 I (st_index (k := .i64) (l := a1) (enc := Z7) (z := 0) (n := v18) (cs := [(.int .i64 (a1.getD v18.toNat 0))]) (full := false) I s29 I I hg33 I) I <| Z1 I (st_loadI (cs := [(.int .i64 (a1.getD v18.toNat 0))]) (v := (.int .i64 (a1.getD v18.toNat 0))) I o3 I I) I <| Z1 I (st_cmp (k := .i64) (a := (a1.getD v18.toNat 0)) (b := 0) (c := (decide ((a1.getD v18.toNat 0) < 0))) I I I I) I <| Z1 I (Z9 (v := (.bool (decide ((a1.getD v18.toNat 0) < 0)))) I I) I ?_
        have hif := of_if h
        refine AOps.split (fun hc => ?_) (fun hc => ?_)
        ·have h := hif.1 hc
         refine Z6 I I I I I I I <| Z6 I I I I I I I <| Z6 I I I I I I I <| Z6 I I I I I I I <| Z6 I I I I I I I <| Z6 I I I I I I I <| Z6 I I I I I I I <| Z1 I (st_pickT (v := (.bool true)) I I I) I ?_
         refine Z8 <| Zb ?_
         refine Zn (b := true) I (fun hc => ?_) (fun hc => ?_)
         rotate_left
         ·cases hc
         refine Zc <| Z4 <| Z1 I (Ze (v := (.bool true)) I I) I <| Z8 <| Zb <| Zc <| Z4 <| Z1 I (Z9 (v := (.sl 1 (v32.1.map Z7) false)) I I) I ?_
         refine Z1 I (stx_len (l := v32.1) (enc := Z7) I s29 I) I <| Z1 I (st_cmp (k := .i64) (a := (v32.1.length : Int)) (b := 0) (c := (decide ((v32.1.length : Int) > 0))) I I I I) I <| Z1 I (Z9 (v := (.bool (decide ((v32.1.length : Int) > 0)))) I I) I ?_
         have hif := of_if h
         refine AOps.split (fun hc => ?_) (fun hc => ?_)
         ·have h := hif.1 hc
          refine Z6 I I I I I I I <| Z6 I I I I I I I <| Z1 I (st_pickT (v := (.bool true)) I I I) I <| Z8 <| Zb ?_
          refine Zn (b := true) I (fun hc => ?_) (fun hc => ?_)
          rotate_left
          ·cases hc
          refine Zc <| Z4 <| Z1 I (Ze (v := (.bool false)) I I) I <| Z8 <| Zb <| AWp.ret <| At.overR <| At.thruR ?_
          refine At.thruR (At.overR ?_)
          refine At.thruR ?_
          have h := Option.some.inj h
          subst h
          refine (hret _ ?_).1
          exact ⟨[(.bool false)], ⟨rfl, trivial⟩, rfl, trivial⟩
         ·have h := hif.2 hc
          refine Zh I I I I (Z9 (v := (.int .i64 v32.2)) I I) I <| Zh I I I I (st_cmp (k := .i64) (a := v32.2) (b := 10) (c := (v32.2 != 10)) I I I I) I <| Z1 I (Zs (v := (.bool (v32.2 != 10))) I I I) I <| Z8 <| Zb ?_
          have hif := of_if h
          refine Zn I (fun hc => ?_) (fun hc => ?_)
          ·have h := hif.1 hc
           refine Zc <| Z4 <| Z1 I (Ze (v := (.bool false)) I I) I <| Z8 <| Zb <| AWp.ret <| At.overR <| At.thruR ?_
           refine At.thruR (At.overR ?_)
           refine At.thruR ?_
           have h := Option.some.inj h
           subst h
           refine (hret _ ?_).1
           exact ⟨[(.bool false)], ⟨rfl, trivial⟩, rfl, trivial⟩
          ·have h := hif.2 hc
           refine Zr <| At.end ?_
           exact Zj (st' := ⟨[(1, (.sl 1 (a1.map Z7) false)), (5, (.sl 1 (v8.map Zl) false)), (6, (.ptr 6 0)), (7, (.vs 7)), (8, (.bool true)), (12, (.int .i64 v18))], [(6, (.box (Z3 v10).cells)), (7, (.vec 1 (List.map Z7 v14)))]⟩) ⟨rfl, rfl, rfl, rfl, rfl, rfl, trivial⟩ ⟨rfl, rfl, trivial⟩ (J29 true h)
        ·have h := hif.2 hc
         refine Zh I I I I (Z9 (v := (.sl 1 (a1.map Z7) false)) I I) I <| Zh I I I I (Z9 (v := (.int .i64 v18)) I I) I ?_
         have ⟨hg34, h⟩ := Zi h
         refine Zh I I I I (st_index (k := .i64) (l := a1) (enc := Z7) (z := 0) (n := v18) (cs := [(.int .i64 (a1.getD v18.toNat 0))]) (full := false) I s29 I I hg34 I) I <| Zh I I I I (st_loadI (cs := [(.int .i64 (a1.getD v18.toNat 0))]) (v := (.int .i64 (a1.getD v18.toNat 0))) I o3 I I) I <| Zh I I I I (Z9 (v := (.sl 1 (v8.map Zl) false)) I I) I <| Zh I I I I (stx_len (l := v8) (enc := Zl) I s27 I) I <| Zh I I I I (st_cmp (k := .i64) (a := (a1.getD v18.toNat 0)) (b := (v8.length : Int)) (c := (decide ((a1.getD v18.toNat 0) ≥ (v8.length : Int)))) I I I I) I <| Z1 I (Zs (v := (.bool (decide ((a1.getD v18.toNat 0) ≥ (v8.length : Int))))) I I I) I <| Z8 <| Zb ?_
         refine AWp.join (V := Bool) (lp := fun v => F7_j36 K (F7_l19 K a1 v10 v8 (F7_c21 K v10 a1 v14) k19) v18 v = some r) (sh := fun v => ⟨[(1, (.sl 1 (a1.map Z7) false)), (5, (.sl 1 (v8.map Zl) false)), (6, (.ptr 6 0)), (7, (.vs 7)), (8, (.bool v)), (12, (.int .i64 v18))], [(6, (.box (Z3 v10).cells)), (7, (.vec 1 (List.map Z7 v14)))]⟩) ?_ ?_
         ·intro v h
          revert h
          revert v
          intro v35 h
          try dsimp only at h ⊢
          unfold F7_j36 at h
          refine At.end ?_
          exact Zj (st' := ⟨[(1, (.sl 1 (a1.map Z7) false)), (5, (.sl 1 (v8.map Zl) false)), (6, (.ptr 6 0)), (7, (.vs 7)), (8, (.bool v35)), (12, (.int .i64 v18))], [(6, (.box (Z3 v10).cells)), (7, (.vec 1 (List.map Z7 v14)))]⟩) ⟨rfl, rfl, rfl, rfl, rfl, rfl, trivial⟩ ⟨rfl, rfl, trivial⟩ (J29 v35 h)
         ·intro J36
          have hif := of_if h
          refine Zn I (fun hc => ?_) (fun hc => ?_)
          ·have h := hif.1 hc
           refine Zc <| Z4 <| Z1 I (Ze (v := (.bool true)) I I) I <| Z8 <| Zb <| Zc <| Z4 <| Z1 I (Z9 (v := (.sl 1 (v32.1.map Z7) false)) I I) I ?_
           refine Z1 I (stx_len (l := v32.1) (enc := Z7) I s29 I) I <| Z1 I (st_cmp (k := .i64) (a := (v32.1.length : Int)) (b := 0) (c := (decide ((v32.1.length : Int) > 0))) I I I I) I <| Z1 I (Z9 (v := (.bool (decide ((v32.1.length : Int) > 0)))) I I) I ?_
           have hif := of_if h
           refine AOps.split (fun hc => ?_) (fun hc => ?_)
           ·have h := hif.1 hc
            refine Z6 I I I I I I I <| Z6 I I I I I I I <| Z1 I (st_pickT (v := (.bool true)) I I I) I <| Z8 <| Zb ?_
            refine Zn (b := true) I (fun hc => ?_) (fun hc => ?_)
            rotate_left
            ·cases hc
            refine Zc <| Z4 <| Z1 I (Ze (v := (.bool false)) I I) I <| Z8 <| Zb <| AWp.ret <| At.overR <| At.thruR ?_
            refine At.thruR (At.overR ?_)
            refine At.thruR ?_
            have h := Option.some.inj h
            subst h
            refine (hret _ ?_).1
            exact ⟨[(.bool false)], ⟨rfl, trivial⟩, rfl, trivial⟩
           ·have h := hif.2 hc
            refine Zh I I I I (Z9 (v := (.int .i64 v32.2)) I I) I <| Zh I I I I (st_cmp (k := .i64) (a := v32.2) (b := 10) (c := (v32.2 != 10)) I I I I) I <| Z1 I (Zs (v := (.bool (v32.2 != 10))) I I I) I <| Z8 <| Zb ?_
            have hif := of_if h
            refine Zn I (fun hc => ?_) (fun hc => ?_)
            ·have h := hif.1 hc
             refine Zc <| Z4 <| Z1 I (Ze (v := (.bool false)) I I) I <| Z8 <| Zb <| AWp.ret <| At.overR <| At.thruR ?_
             refine At.thruR (At.overR ?_)
             refine At.thruR ?_
             have h := Option.some.inj h
             subst h
             refine (hret _ ?_).1
             exact ⟨[(.bool false)], ⟨rfl, trivial⟩, rfl, trivial⟩
            ·have h := hif.2 hc
             refine Zr ?_
             exact Zj (st' := ⟨[(1, (.sl 1 (a1.map Z7) false)), (5, (.sl 1 (v8.map Zl) false)), (6, (.ptr 6 0)), (7, (.vs 7)), (8, (.bool true)), (12, (.int .i64 v18))], [(6, (.box (Z3 v10).cells)), (7, (.vec 1 (List.map Z7 v14)))]⟩) ⟨rfl, rfl, rfl, rfl, rfl, rfl, trivial⟩ ⟨rfl, rfl, trivial⟩ (J36 true h)
          ·have h := hif.2 hc
           refine Zc <| Z4 <| Z1 I (Z9 (v := (.int .i64 v32.2)) I I) I <| Z1 I (st_cmp (k := .i64) (a := v32.2) (b := 0) (c := (v32.2 != 0)) I I I I) I <| Z1 I (Z9 (v := (.bool (v32.2 != 0))) I I) I ?_
           have hif := of_if h
           refine AOps.split (fun hc => ?_) (fun hc => ?_)
           ·have h := hif.1 hc
            refine Z6 I I I I I I I <| Z6 I I I I I I I <| Z6 I I I I I I I <| Z6 I I I I I I I <| Z6 I I I I I I I <| Z6 I I I I I I I <| Z6 I I I I I I I <| Z6 I I I I I I I ?_
            refine Z6 I I I I I I I <| Z1 I (st_pickT (v := (.bool true)) I I I) I <| Z8 <| Zb ?_
            refine Zn (b := true) I (fun hc => ?_) (fun hc => ?_)
            rotate_left
            ·cases hc
            refine Zc <| Z4 <| Z1 I (Ze (v := (.bool false)) I I) I <| Z8 <| Zb <| AWp.ret <| At.overR <| At.thruR ?_
            refine At.thruR (At.overR ?_)
            refine At.thruR ?_
            have h := Option.some.inj h
            subst h
            refine (hret _ ?_).1
            exact ⟨[(.bool false)], ⟨rfl, trivial⟩, rfl, trivial⟩
           ·have h := hif.2 hc
            refine Zh I I I I (Z9 (v := (.sl 1 (v32.1.map Z7) false)) I I) I <| Zh I I I I (Z9 (v := (.sl 1 (v8.map Zl) false)) I I) I <| Zh I I I I (Z9 (v := (.sl 1 (a1.map Z7) false)) I I) I <| Zh I I I I (Z9 (v := (.int .i64 v18)) I I) I ?_
            have ⟨hg37, h⟩ := Zi h
            refine Zh I I I I (st_index (k := .i64) (l := a1) (enc := Z7) (z := 0) (n := v18) (cs := [(.int .i64 (a1.getD v18.toNat 0))]) (full := false) I s29 I I hg37 I) I <| Zh I I I I (st_loadI (cs := [(.int .i64 (a1.getD v18.toNat 0))]) (v := (.int .i64 (a1.getD v18.toNat 0))) I o3 I I) I ?_
            have ⟨v39, hv39, h⟩ := of_bind h
            refine Zh I I I I (st_call0 (ar := [(.sl 1 (v8.map Zl) false), (.int .i64 (a1.getD v18.toNat 0))]) (caps := []) Try.call32 (F32_ok K v8 (a1.getD v18.toNat 0) v39 hv39) I I ⟨rfl, rfl, trivial⟩ I) I ?_
            have ⟨v41, hv41, h⟩ := of_bind h
            refine Zh I I I I (st_call0 (ar := [(.sl 1 (v32.1.map Z7) false), (.sl 1 (v39.map Z7) false)]) (caps := []) Try.call18 (F18_ok K v32.1 v39 v41 hv41) I I ⟨rfl, rfl, trivial⟩ I) I <| Zh I I I I (st_not (b := v41) I I) I <| Z1 I (Zs (v := (.bool (!v41))) I I I) I <| Z8 <| Zb ?_
            have hif := of_if h
            refine Zn I (fun hc => ?_) (fun hc => ?_)
            ·have h := hif.1 hc
             refine Zc <| Z4 <| Z1 I (Ze (v := (.bool false)) I I) I <| Z8 <| Zb <| AWp.ret <| At.overR <| At.thruR ?_
             refine At.thruR (At.overR ?_)
             refine At.thruR ?_
             have h := Option.some.inj h
             subst h
             refine (hret _ ?_).1
             exact ⟨[(.bool false)], ⟨rfl, trivial⟩, rfl, trivial⟩
            ·have h := hif.2 hc
             refine Zr ?_
             exact Zj (st' := ⟨[(1, (.sl 1 (a1.map Z7) false)), (5, (.sl 1 (v8.map Zl) false)), (6, (.ptr 6 0)), (7, (.vs 7)), (8, (.bool v17)), (12, (.int .i64 v18))], [(6, (.box (Z3 v10).cells)), (7, (.vec 1 (List.map Z7 v14)))]⟩) ⟨rfl, rfl, rfl, rfl, rfl, rfl, trivial⟩ ⟨rfl, rfl, trivial⟩ (J36 v17 h)
      ·have h := hif.2 hc
       refine AWp.exit <| At.thru ?_
       exact Zj (st' := ⟨[(1, (.sl 1 (a1.map Z7) false)), (6, (.ptr 6 0)), (7, (.vs 7)), (8, (.bool v17))], [(6, (.box (Z3 v10).cells)), (7, (.vec 1 (List.map Z7 v14)))]⟩) ⟨rfl, rfl, rfl, rfl, trivial⟩ ⟨rfl, rfl, trivial⟩ (J19 v17 h)
   ·intro N k13 v h IH13 J13
    obtain ⟨v11, v12⟩ := v
    try dsimp only at h IH13 J13 ⊢
    cases k13 with
    | zero => cases h
    | succ k13 =>
     rw [F7_l13] at h
     refine Zc <| Zc <| Z4 <| Z1 I (Z9 (v := (.int .i64 v11)) I I) I <| Z1 I (Z9 (v := (.sl 1 (v8.map Zl) false)) I I) I <| Z1 I (stx_len (l := v8) (enc := Zl) I s27 I) I <| Z1 I (st_cmp (k := .i64) (a := v11) (b := (v8.length : Int)) (c := (decide (v11 < (v8.length : Int)))) I I I I) I <| Z8 ?_
     refine Zb ?_
     have hif := of_if h
     refine Zn I (fun hc => ?_) (fun hc => ?_)
     ·have h := hif.1 hc
      refine Zr <| Zb <| Zc <| AWp.block <| Zc <| Z4 <| Z1 I (Ze (v := (.bool false)) I I) I <| Z8 ?_
      refine Zb <| Zc <| Zc <| Z4 <| Z1 I (Ze (v := (.int .i64 0)) I I) I <| Z8 <| Zb <| AWp.weaken (st' := ⟨[(1, (.sl 1 (a1.map Z7) false)), (5, (.sl 1 (v8.map Zl) false)), (6, (.ptr 6 0)), (7, (.vs 7)), (8, (.bool false)), (9, (.int .i64 v11)), (10, (.bool false)), (11, (.int .i64 0))], [(6, (.box (Z3 v10).cells)), (7, (.vec 1 (List.map Z7 v12)))]⟩) ⟨rfl, rfl, rfl, rfl, rfl, rfl, rfl, rfl, trivial⟩ ⟨rfl, rfl, trivial⟩ ?_
      refine Zq (V := Bool × Int) (X := Bool) (lp := fun k v => F7_l45 K a1 v8 v11 (F7_c47 K v12 v11 (F7_l13 K v8 a1 (F7_c15 K a1 v10 v8) k13)) k v.1 v.2 = some r) (sh := fun v => ⟨[(1, (.sl 1 (a1.map Z7) false)), (5, (.sl 1 (v8.map Zl) false)), (6, (.ptr 6 0)), (7, (.vs 7)), (8, (.bool false)), (9, (.int .i64 v11)), (10, (.bool v.1)), (11, (.int .i64 v.2))], [(6, (.box (Z3 v10).cells)), (7, (.vec 1 (List.map Z7 v12)))]⟩) (x := fun v => F7_c47 K v12 v11 (F7_l13 K v8 a1 (F7_c15 K a1 v10 v8) k13) v = some r) (shx := fun v => ⟨[(1, (.sl 1 (a1.map Z7) false)), (5, (.sl 1 (v8.map Zl) false)), (6, (.ptr 6 0)), (7, (.vs 7)), (8, (.bool false)), (9, (.int .i64 v11)), (10, (.bool v))], [(6, (.box (Z3 v10).cells)), (7, (.vec 1 (List.map Z7 v12)))]⟩) (k := K) (v := (false, 0)) h ?_ ?_
      ·intro v h
       revert h
       revert v
       intro v46 h
       try dsimp only at h ⊢
       unfold F7_c47 at h
       refine Zb <| Zc <| Z4 <| Z1 I (Z9 (v := (.bool v46)) I I) I <| Z8 <| Zb ?_
       refine AWp.join (V := (List Int)) (lp := fun v => F7_j50 K (F7_l13 K v8 a1 (F7_c15 K a1 v10 v8) k13) v11 v = some r) (sh := fun v => ⟨[(1, (.sl 1 (a1.map Z7) false)), (5, (.sl 1 (v8.map Zl) false)), (6, (.ptr 6 0)), (7, (.vs 7)), (8, (.bool false)), (9, (.int .i64 v11))], [(6, (.box (Z3 v10).cells)), (7, (.vec 1 (List.map Z7 v)))]⟩) ?_ ?_
       ·intro v h
        revert h
        revert v
        intro v49 h
        try dsimp only at h ⊢
        unfold F7_j50 at h
        refine At.end <| Zb <| Z4 <| Z1 I (Z9 (v := (.int .i64 v11)) I I) I <| Z1 I (st_arith (k := .i64) (a := v11) (b := 1) (c := (IntKind.i64.wrap (v11 + 1))) I I I I) I <| Z1 I (Ze (v := (.int .i64 (IntKind.i64.wrap (v11 + 1)))) I I) I <| Z8 ?_
        exact Zj (st' := ⟨[(1, (.sl 1 (a1.map Z7) false)), (5, (.sl 1 (v8.map Zl) false)), (6, (.ptr 6 0)), (7, (.vs 7)), (8, (.bool false)), (9, (.int .i64 (IntKind.i64.wrap (v11 + 1))))], [(6, (.box (Z3 v10).cells)), (7, (.vec 1 (List.map Z7 v49)))]⟩) ⟨rfl, rfl, rfl, rfl, rfl, rfl, trivial⟩ ⟨rfl, rfl, trivial⟩ (IH13 _ ((IntKind.i64.wrap (v11 + 1)), v49) (Nat.lt_succ_self _) h)
       ·intro J50
        have hif := of_if h
        refine Zn I (fun hc => ?_) (fun hc => ?_)
        ·have h := hif.1 hc
         refine Z4 <| Z1 I (Z9 (v := (.vs 7)) I I) I <| Z1 I (Z9 (v := (.int .i64 v11)) I I) I <| Z1 I (stx_buildSlice (vs := [(.int .i64 v11)]) (enc := Z7) (l := [v11]) I el29 I I ⟨rfl, trivial⟩ I els_i64 I I I I) I ?_
         have ⟨hg51, h⟩ := Zi h
         refine Z1 I (st_append (m := 7) (enc := Z7) (l := v12) (l' := [v11]) (src := (.vs 73)) (rd := [(73, (.vec 1 (List.map Z7 [v11])))]) I I el29 I u29 I I I I (oneRead I) els_i64 hg51) I <| Z1 I (Ze (v := (.vs 7)) I I) I <| Z8 ?_
         exact Zj (st' := ⟨[(1, (.sl 1 (a1.map Z7) false)), (5, (.sl 1 (v8.map Zl) false)), (6, (.ptr 6 0)), (7, (.vs 7)), (8, (.bool false)), (9, (.int .i64 v11))], [(6, (.box (Z3 v10).cells)), (7, (.vec 1 (List.map Z7 (v12 ++ [v11]))))]⟩) ⟨rfl, rfl, rfl, rfl, rfl, rfl, trivial⟩ ⟨rfl, rfl, trivial⟩ (J50 (v12 ++ [v11]) h)
        ·have h := hif.2 hc
         refine Zr ?_
         exact Zj (st' := ⟨[(1, (.sl 1 (a1.map Z7) false)), (5, (.sl 1 (v8.map Zl) false)), (6, (.ptr 6 0)), (7, (.vs 7)), (8, (.bool false)), (9, (.int .i64 v11))], [(6, (.box (Z3 v10).cells)), (7, (.vec 1 (List.map Z7 v12)))]⟩) ⟨rfl, rfl, rfl, rfl, rfl, rfl, trivial⟩ ⟨rfl, rfl, trivial⟩ (J50 v12 h)
      ·intro N k45 v h IH45 J45
       obtain ⟨v43, v44⟩ := v
       try dsimp only at h IH45 J45 ⊢
       cases k45 with
       | zero => cases h
       | succ k45 =>
        rw [F7_l45] at h
        refine Zc <| Zc <| Z4 <| Z1 I (Z9 (v := (.int .i64 v44)) I I) I <| Z1 I (Z9 (v := (.sl 1 (a1.map Z7) false)) I I) I <| Z1 I (stx_len (l := a1) (enc := Z7) I s29 I) I <| Z1 I (st_cmp (k := .i64) (a := v44) (b := (a1.length : Int)) (c := (decide (v44 < (a1.length : Int)))) I I I I) I <| Z8 ?_
        refine Zb ?_
        have hif := of_if h
        refine Zn I (fun hc => ?_) (fun hc => ?_)
        ·have h := hif.1 hc
         refine Zr <| Zb <| Zc <| AWp.block ?_
         refine AWp.join (V := Bool) (lp := fun v => F7_j54 K (F7_l45 K a1 v8 v11 (F7_c47 K v12 v11 (F7_l13 K v8 a1 (F7_c15 K a1 v10 v8) k13)) k45) v44 v = some r) (sh := fun v => ⟨[(1, (.sl 1 (a1.map Z7) false)), (5, (.sl 1 (v8.map Zl) false)), (6, (.ptr 6 0)), (7, (.vs 7)), (8, (.bool false)), (9, (.int .i64 v11)), (10, (.bool v)), (11, (.int .i64 v44))], [(6, (.box (Z3 v10).cells)), (7, (.vec 1 (List.map Z7 v12)))]⟩) ?_ ?_
         ·intro v h
          revert h
          revert v
          intro v53 h
          try dsimp only at h ⊢
          unfold F7_j54 at h
          refine At.end <| Zb <| Z4 <| Z1 I (Z9 (v := (.int .i64 v44)) I I) I <| Z1 I (st_arith (k := .i64) (a := v44) (b := 1) (c := (IntKind.i64.wrap (v44 + 1))) I I I I) I <| Z1 I (Ze (v := (.int .i64 (IntKind.i64.wrap (v44 + 1)))) I I) I <| Z8 ?_
          exact Zj (st' := ⟨[(1, (.sl 1 (a1.map Z7) false)), (5, (.sl 1 (v8.map Zl) false)), (6, (.ptr 6 0)), (7, (.vs 7)), (8, (.bool false)), (9, (.int .i64 v11)), (10, (.bool v53)), (11, (.int .i64 (IntKind.i64.wrap (v44 + 1))))], [(6, (.box (Z3 v10).cells)), (7, (.vec 1 (List.map Z7 v12)))]⟩) ⟨rfl, rfl, rfl, rfl, rfl, rfl, rfl, rfl, trivial⟩ ⟨rfl, rfl, trivial⟩ (IH45 _ (v53, (IntKind.i64.wrap (v44 + 1))) (Nat.lt_succ_self _) h)
         ·intro J54
          refine Z4 <| Z1 I (Z9 (v := (.bool v43)) I I) I <| Z1 I (Z9 (v := (.bool v43)) I I) I ?_
          have hif := of_if h
          refine AOps.split (fun hc => ?_) (fun hc => ?_)
          ·have h := hif.1 hc
           refine Z6 I I I I I I I <| Z6 I I I I I I I <| Z6 I I I I I I I <| Z6 I I I I I I I <| Z6 I I I I I I I <| Z6 I I I I I I I <| Z6 (u := .tup []) I I I I I I I <| Z6 (u := .tup []) I I I I I I I ?_
           refine Z6 (u := .tup []) I I I I I I I <| Z6 (u := .tup []) I I I I I I I <| Z6 (u := .tup []) I I I I I I I <| Z6 (u := .tup []) I I I I I I I <| Z6 (u := .tup []) I I I I I I I <| Z6 I I I I I I I <| Z6 I I I I I I I <| Z6 (u := .tup []) I I I I I I I ?_
           refine Z6 (u := .tup []) I I I I I I I <| Z6 (u := .tup []) I I I I I I I <| Z6 (u := .tup []) I I I I I I I <| Z6 (u := .tup []) I I I I I I I <| Z6 (u := .tup []) I I I I I I I <| Z6 (u := .tup []) I I I I I I I <| Z6 (u := .tup []) I I I I I I I <| Z6 (u := .tup []) I I I I I I I ?_
           refine Z6 (u := .tup []) I I I I I I I <| Z6 I I I I I I I <| Z1 I (st_pickT (v := (.bool true)) I I I) I <| Z1 I (Ze (v := (.bool true)) I I) I <| Z8 ?_
           exact Zj (st' := ⟨[(1, (.sl 1 (a1.map Z7) false)), (5, (.sl 1 (v8.map Zl) false)), (6, (.ptr 6 0)), (7, (.vs 7)), (8, (.bool false)), (9, (.int .i64 v11)), (10, (.bool true)), (11, (.int .i64 v44))], [(6, (.box (Z3 v10).cells)), (7, (.vec 1 (List.map Z7 v12)))]⟩) ⟨rfl, rfl, rfl, rfl, rfl, rfl, rfl, rfl, trivial⟩ ⟨rfl, rfl, trivial⟩ (J54 true h)
          ·have h := hif.2 hc
           refine Zh I I I I (Z9 (v := (.sl 1 (a1.map Z7) false)) I I) I <| Zh I I I I (Z9 (v := (.int .i64 v44)) I I) I ?_
           have ⟨hg55, h⟩ := Zi h
           refine Zh I I I I (st_index (k := .i64) (l := a1) (enc := Z7) (z := 0) (n := v44) (cs := [(.int .i64 (a1.getD v44.toNat 0))]) (full := false) I s29 I I hg55 I) I <| Zh I I I I (st_loadI (cs := [(.int .i64 (a1.getD v44.toNat 0))]) (v := (.int .i64 (a1.getD v44.toNat 0))) I o3 I I) I <| Zh I I I I (st_cmp (k := .i64) (a := (a1.getD v44.toNat 0)) (b := 0) (c := (decide ((a1.getD v44.toNat 0) ≥ 0))) I I I I) I <| Zh I I I I (Z9 (v := (.bool (decide ((a1.getD v44.toNat 0) ≥ 0)))) I I) I ?_
           have hif := of_if h
           refine AOps.split (fun hc => ?_) (fun hc => ?_)
           ·have h := hif.1 hc
            refine Zh I I I I (Z9 (v := (.sl 1 (a1.map Z7) false)) I I) I <| Zh I I I I (Z9 (v := (.int .i64 v44)) I I) I ?_
            have ⟨hg56, h⟩ := Zi h
            refine Zh I I I I (st_index (k := .i64) (l := a1) (enc := Z7) (z := 0) (n := v44) (cs := [(.int .i64 (a1.getD v44.toNat 0))]) (full := false) I s29 I I hg56 I) I <| Zh I I I I (st_loadI (cs := [(.int .i64 (a1.getD v44.toNat 0))]) (v := (.int .i64 (a1.getD v44.toNat 0))) I o3 I I) I <| Zh I I I I (Z9 (v := (.sl 1 (v8.map Zl) false)) I I) I <| Zh I I I I (stx_len (l := v8) (enc := Zl) I s27 I) I <| Zh I I I I (st_cmp (k := .i64) (a := (a1.getD v44.toNat 0)) (b := (v8.length : Int)) (c := (decide ((a1.getD v44.toNat 0) < (v8.length : Int)))) I I I I) I <| Zh I I I I (st_pickT (v := (.bool (decide ((a1.getD v44.toNat 0) < (v8.length : Int))))) I I I) I <| Zh I I I I (Z9 (v := (.bool (decide ((a1.getD v44.toNat 0) < (v8.length : Int))))) I I) I ?_
            have hif := of_if h
            refine AOps.split (fun hc => ?_) (fun hc => ?_)
            ·have h := hif.1 hc
             refine Zh I I I I (Z9 (v := (.sl 1 (v8.map Zl) false)) I I) I <| Zh I I I I (Z9 (v := (.sl 1 (a1.map Z7) false)) I I) I <| Zh I I I I (Z9 (v := (.int .i64 v44)) I I) I ?_
             have ⟨hg57, h⟩ := Zi h
             refine Zh I I I I (st_index (k := .i64) (l := a1) (enc := Z7) (z := 0) (n := v44) (cs := [(.int .i64 (a1.getD v44.toNat 0))]) (full := false) I s29 I I hg57 I) I <| Zh I I I I (st_loadI (cs := [(.int .i64 (a1.getD v44.toNat 0))]) (v := (.int .i64 (a1.getD v44.toNat 0))) I o3 I I) I ?_
             have ⟨v59, hv59, h⟩ := of_bind h
             refine Zh I I I I (st_call0 (ar := [(.sl 1 (v8.map Zl) false), (.int .i64 (a1.getD v44.toNat 0))]) (caps := []) Try.call32 (F32_ok K v8 (a1.getD v44.toNat 0) v59 hv59) I I ⟨rfl, rfl, trivial⟩ I) I <| Zh I I I I (Z9 (v := (.int .i64 v11)) I I) I ?_
             have ⟨hg60, h⟩ := Zi h
             refine Zh I I I I (st_index (k := .i64) (l := v59) (enc := Z7) (z := 0) (n := v11) (cs := [(.int .i64 (v59.getD v11.toNat 0))]) (full := false) I s29 I I hg60 I) I <| Zh I I I I (st_loadI (cs := [(.int .i64 (v59.getD v11.toNat 0))]) (v := (.int .i64 (v59.getD v11.toNat 0))) I o3 I I) I <| Zh I I I I (st_cmp (k := .i64) (a := (v59.getD v11.toNat 0)) (b := 0) (c := (decide ((v59.getD v11.toNat 0) ≥ 0))) I I I I) I <| Zh I I I I (st_pickT (v := (.bool (decide ((v59.getD v11.toNat 0) ≥ 0)))) I I I) I <| Z1 I (Zs (v := (.bool (decide ((v59.getD v11.toNat 0) ≥ 0)))) I I I) I <| Z1 I (Ze (v := (.bool (decide ((v59.getD v11.toNat 0) ≥ 0)))) I I) I <| Z8 ?_
             exact Zj (st' := ⟨[(1, (.sl 1 (a1.map Z7) false)), (5, (.sl 1 (v8.map Zl) false)), (6, (.ptr 6 0)), (7, (.vs 7)), (8, (.bool false)), (9, (.int .i64 v11)), (10, (.bool (decide ((v59.getD v11.toNat 0) ≥ 0)))), (11, (.int .i64 v44))], [(6, (.box (Z3 v10).cells)), (7, (.vec 1 (List.map Z7 v12)))]⟩) ⟨rfl, rfl, rfl, rfl, rfl, rfl, rfl, rfl, trivial⟩ ⟨rfl, rfl, trivial⟩ (J54 (decide ((v59.getD v11.toNat 0) ≥ 0)) h)
            ·have h := hif.2 hc
             refine Z6 I I I I I I I <| Z6 I I I I I I I <| Z6 I I I I I I I <| Z6 I I I I I I I <| Z6 I I I I I I I <| Z6 I I I I I I I <| Z6 I I I I I I I <| Z6 I I I I I I I ?_
             refine Z6 I I I I I I I <| Z6 I I I I I I I <| Zh I I I I (Zs (v := (.bool false)) I I I) I <| Z1 I (Zs (v := (.bool false)) I I I) I <| Z1 I (Ze (v := (.bool false)) I I) I <| Z8 ?_
             exact Zj (st' := ⟨[(1, (.sl 1 (a1.map Z7) false)), (5, (.sl 1 (v8.map Zl) false)), (6, (.ptr 6 0)), (7, (.vs 7)), (8, (.bool false)), (9, (.int .i64 v11)), (10, (.bool false)), (11, (.int .i64 v44))], [(6, (.box (Z3 v10).cells)), (7, (.vec 1 (List.map Z7 v12)))]⟩) ⟨rfl, rfl, rfl, rfl, rfl, rfl, rfl, rfl, trivial⟩ ⟨rfl, rfl, trivial⟩ (J54 false h)
           ·have h := hif.2 hc
            refine Z6 I I I I I I I <| Z6 I I I I I I I <| Z6 I I I I I I I <| Z6 I I I I I I I <| Z6 I I I I I I I <| Z6 I I I I I I I <| Z6 I I I I I I I <| Zh I I I I (Zs (v := (.bool false)) I I I) I ?_
            refine Zh I I I I (Z9 (v := (.bool false)) I I) I <| Z6 I I I I I I I <| Z6 I I I I I I I <| Z6 I I I I I I I <| Z6 I I I I I I I <| Z6 I I I I I I I <| Z6 I I I I I I I <| Z6 I I I I I I I ?_
            refine Z6 I I I I I I I <| Z6 I I I I I I I <| Z6 I I I I I I I <| Zh I I I I (Zs (v := (.bool false)) I I I) I <| Z1 I (Zs (v := (.bool false)) I I I) I <| Z1 I (Ze (v := (.bool false)) I I) I <| Z8 ?_
            exact Zj (st' := ⟨[(1, (.sl 1 (a1.map Z7) false)), (5, (.sl 1 (v8.map Zl) false)), (6, (.ptr 6 0)), (7, (.vs 7)), (8, (.bool false)), (9, (.int .i64 v11)), (10, (.bool false)), (11, (.int .i64 v44))], [(6, (.box (Z3 v10).cells)), (7, (.vec 1 (List.map Z7 v12)))]⟩) ⟨rfl, rfl, rfl, rfl, rfl, rfl, rfl, rfl, trivial⟩ ⟨rfl, rfl, trivial⟩ (J54 false h)
        ·have h := hif.2 hc
         refine AWp.exit <| At.thru ?_
         exact Zj (st' := ⟨[(1, (.sl 1 (a1.map Z7) false)), (5, (.sl 1 (v8.map Zl) false)), (6, (.ptr 6 0)), (7, (.vs 7)), (8, (.bool false)), (9, (.int .i64 v11)), (10, (.bool v43))], [(6, (.box (Z3 v10).cells)), (7, (.vec 1 (List.map Z7 v12)))]⟩) ⟨rfl, rfl, rfl, rfl, rfl, rfl, rfl, trivial⟩ ⟨rfl, rfl, trivial⟩ (J45 v43 h)
     ·have h := hif.2 hc
      refine AWp.exit <| At.thru ?_
      exact Zj (st' := ⟨[(1, (.sl 1 (a1.map Z7) false)), (5, (.sl 1 (v8.map Zl) false)), (6, (.ptr 6 0)), (7, (.vs 7)), (8, (.bool false))], [(6, (.box (Z3 v10).cells)), (7, (.vec 1 (List.map Z7 v12)))]⟩) ⟨rfl, rfl, rfl, rfl, rfl, trivial⟩ ⟨rfl, rfl, trivial⟩ (J13 v12 h)
end Go.AM.Gra
