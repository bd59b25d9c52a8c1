/- What these functions compute, each with its walk: F21. -/
import Derived.Test.YtcfcnnkaiboddaaGraT
namespace Go.AM.Gra
open Go Go.AM Go.Proofs
set_option maxRecDepth 100000
set_option maxHeartbeats 2000000
def F21_c6 (K : Nat) (v5 : (List Int)) : Option ((List Int) × Bool) :=
 some (v5, true)
def F21_c13 (K : Nat) (v3 : (List Bool)) (v2 : (List Int)) (b8 : (List Int) → (List Bool) → Option ((List Int) × Bool)) (v12 : Int) : Option ((List Int) × Bool) :=
 if (decide (v12 < 0)) = true then
  some ([], false)
 else
  if (0 : Int) ≤ v12 ∧ v12 < (v3.length : Nat) then
   if v12.toNat < v3.length then
    if v2.length + [v12].length ≤ 1073741824 then
     b8 (v2 ++ [v12]) (v3.set v12.toNat true)
    else none
   else none
  else none
def F21_j28 (K : Nat) (b18 : Int → Int → Option ((List Int) × Bool)) (v10 : Int) (v27 : Int) : Option ((List Int) × Bool) :=
 b18 v27 (IntKind.i64.wrap (v10 + 1))
def F21_c25 (K : Nat) (b18 : Int → Int → Option ((List Int) × Bool)) (v10 : Int) (v9 : Int) (v24 : Bool) : Option ((List Int) × Bool) :=
 if v24 = true then
  F21_j28 K b18 v10 v10
 else
  F21_j28 K b18 v10 v9
def F21_j31 (K : Nat) (b29 : Bool → Int → Option ((List Int) × Bool)) (v22 : Int) (v30 : Bool) : Option ((List Int) × Bool) :=
 b29 v30 (IntKind.i64.wrap (v22 + 1))
def F21_j37 (K : Nat) (b29 : Bool → Int → Option ((List Int) × Bool)) (v22 : Int) (v36 : Bool) : Option ((List Int) × Bool) :=
 F21_j31 K b29 v22 v36
def F21_l23 (K : Nat) (a0 : (List (List Bool))) (v3 : (List Bool)) (v10 : Int) (c26 : Bool → Option ((List Int) × Bool)) : Nat → Bool → Int → Option ((List Int) × Bool)
 | 0, _, _ => none
 | k23 + 1, v21, v22 =>
  if (decide (v22 < (a0.length : Int))) = true then
   if (0 : Int) ≤ v22 ∧ v22 < (v3.length : Nat) then
    if v22.toNat < v3.length then
     if (!(v3.getD v22.toNat false)) = true then
      if (0 : Int) ≤ v22 ∧ v22 < a0.length then
       if (0 : Int) ≤ v10 ∧ v10 < (a0.getD v22.toNat []).length then
        if ((a0.getD v22.toNat []).getD v10.toNat false) = true then
         F21_j37 K (F21_l23 K a0 v3 v10 c26 k23) v22 false
        else
         F21_j37 K (F21_l23 K a0 v3 v10 c26 k23) v22 v21
       else none
      else none
     else
      F21_j31 K (F21_l23 K a0 v3 v10 c26 k23) v22 v21
    else none
   else none
  else
   c26 v21
def F21_l11 (K : Nat) (a0 : (List (List Bool))) (v3 : (List Bool)) (c14 : Int → Option ((List Int) × Bool)) : Nat → Int → Int → Option ((List Int) × Bool)
 | 0, _, _ => none
 | k11 + 1, v9, v10 =>
  if (decide (v10 < (a0.length : Int))) = true then
   if (decide (v9 < 0)) = true then
    if (0 : Int) ≤ v10 ∧ v10 < (v3.length : Nat) then
     if v10.toNat < v3.length then
      F21_l23 K a0 v3 v10 (F21_c25 K (F21_l11 K a0 v3 c14 k11) v10 v9) K (!(v3.getD v10.toNat false)) 0
     else none
    else none
   else
    c14 v9
  else
   c14 v9
def F21_l4 (K : Nat) (a0 : (List (List Bool))) (c7 : (List Int) → Option ((List Int) × Bool)) : Nat → (List Int) → (List Bool) → Option ((List Int) × Bool)
 | 0, _, _ => none
 | k4 + 1, v2, v3 =>
  if (decide ((v2.length : Int) < (a0.length : Int))) = true then
   F21_l11 K a0 v3 (F21_c13 K v3 v2 (F21_l4 K a0 c7 k4)) K (Int.negSucc 0) 0
  else
   c7 v2
def F21 (K : Nat) (a0 : (List (List Bool))) : Option ((List Int) × Bool) :=
 if (0 : Int) ≤ (a0.length : Int) ∧ (a0.length : Int) ≤ (a0.length : Int) ∧ (a0.length : Int) ≤ 1073741824 then
  F21_l4 K a0 (F21_c6 K) K [] (List.replicate (a0.length : Int).toNat (false : Bool))
 else none
theorem F21_ok (K : Nat) (a0 : (List (List Bool))) (r : (List Int) × Bool) (h : F21 K a0 = some r) : ACall P 21 ⟨[(.sl 1 (a0.map Zh) false)], [], (.tup [(.sl 1 (r.1.map Zc) false), (.bool r.2)]), [], []⟩ := by
 refine acall_of Try.func21 Try.results21 rfl Try.ntmps21 rfl rfl rfl ?_
 intro E Q hP hN hro hret
 obtain ⟨P', nt', w0, F0, p0, S0, β0, ro0⟩ := E
 simp only at hP hN
 subst hP hN
 dsimp only [argT]
 unfold F21 at h
 refine Z9 <| Z5 <| Z1 I (Zf (v := (.sl 1 [] false)) I I) I <| Z1 I (Zf (v := (.bool false)) I I) I <| Z6 <| Z7 <| Z9 <| Z5 ?_
 refine Z1 I (Zf (v := (.sl 1 [] true)) I I) I <| Z6 <| Z7 <| Z9 <| Z5 <| Z1 I (Z8 (v := (.sl 1 (a0.map Zh) false)) I I) I <| Z1 I (stx_len (l := a0) (enc := Zh) I s27 I) I ?_
 have ⟨hg1, h⟩ := Zg h
 refine Z1 I (st_makeSlice (kx := .i64) (ky := .i64) (a := (a0.length : Int)) (c := (a0.length : Int)) (n := (a0.length : Int).toNat) I el49 I ze4 els_bool I I I hg1 I) I <| Z1 I (Zf (v := (.vs 12)) I I) I <| Z6 <| Z7 <| Z9 <| AWp.ghost (st' := ⟨[(0, (.sl 1 (a0.map Zh) false)), (4, (.vs 4)), (5, (.vs 5))], [(4, (.vec 1 (List.map Zc ([] : List Int)))), (5, (.vec 1 (List.map Zk (List.replicate (a0.length : Int).toNat (false : Bool)))))]⟩) (fun a w h => (Zq ⟨[(0, (.sl 1 (a0.map Zh) false)), (4, (.vs 4)), (5, (.vs 5))], [(4, (.vec 1 (List.map Zc ([] : List Int)))), (5, (.vec 1 (List.map Zk (List.replicate (a0.length : Int).toNat (false : Bool)))))]⟩ (ghost_sw (a := 12) (b := 5) I I a w (Zq ⟨[(0, (.sl 1 (a0.map Zh) false)), (4, (.vs 4)), (5, (.vs 12))], [(4, (.vec 1 (List.map Zc ([] : List Int)))), (12, (.vec 1 (List.map Zk (List.replicate (a0.length : Int).toNat (false : Bool)))))]⟩ (Zq ⟨[(0, (.sl 1 (a0.map Zh) false)), (4, (.vs 4)), (5, (.vs 12))], [(4, (.vec 1 (List.map Zc ([] : List Int)))), (12, (.vec 1 (List.map Zk (List.replicate (a0.length : Int).toNat (false : Bool)))))]⟩ (ghost_own (k := 4) (m := 4) (sz := 1) I I a w (Zq ⟨[(4, (.sl 1 [] true)), (0, (.sl 1 (a0.map Zh) false)), (5, (.vs 12))], [(12, (.vec 1 (List.map Zk (List.replicate (a0.length : Int).toNat (false : Bool)))))]⟩ h ⟨rfl, rfl, rfl, trivial⟩ ⟨rfl, trivial⟩)) ⟨rfl, rfl, rfl, trivial⟩ ⟨rfl, rfl, trivial⟩) ⟨rfl, rfl, rfl, trivial⟩ ⟨rfl, rfl, trivial⟩)) ⟨rfl, rfl, rfl, trivial⟩ ⟨rfl, rfl, trivial⟩)) <| Zv (st' := ⟨[(0, (.sl 1 (a0.map Zh) false)), (4, (.vs 4)), (5, (.vs 5))], [(4, (.vec 1 (List.map Zc []))), (5, (.vec 1 (List.map Zk (List.replicate (a0.length : Int).toNat (false : Bool)))))]⟩) ⟨rfl, rfl, rfl, trivial⟩ ⟨rfl, rfl, trivial⟩ ?_
 refine Zp (V := (List Int) × (List Bool)) (X := (List Int)) (lp := fun k v => F21_l4 K a0 (F21_c6 K) k v.1 v.2 = some r) (sh := fun v => ⟨[(0, (.sl 1 (a0.map Zh) false)), (4, (.vs 4)), (5, (.vs 5))], [(4, (.vec 1 (List.map Zc v.1))), (5, (.vec 1 (List.map Zk v.2)))]⟩) (x := fun v => F21_c6 K v = some r) (shx := fun v => ⟨[(4, (.vs 4))], [(4, (.vec 1 (List.map Zc v)))]⟩) (k := K) (v := ([], (List.replicate (a0.length : Int).toNat (false : Bool)))) h ?_ ?_
 ·intro v h
  revert h
  revert v
  intro v5 h
  try dsimp only at h ⊢
  unfold F21_c6 at h
  refine Z7 <| Z9 <| Z5 <| Z1 I (Z8 (v := (.vs 4)) I I) I <| Z1 I (Zf (v := (.vs 4)) I I) I <| Z1 I (Zf (v := (.bool true)) I I) I <| Z6 <| Z7 ?_
  refine AWp.ret <| At.ghost (st' := ⟨[(2, (.sl 1 (v5.map Zc) false)), (3, (.bool true))], []⟩) (fun a w h => (Zq ⟨[(2, (.sl 1 (v5.map Zc) false)), (3, (.bool true))], []⟩ (ghost_freeze (m := 4) (sz := 1) (es := (List.map Zc v5)) a w (Zq ⟨[(2, (.vs 4)), (3, (.bool true))], [(4, (.vec 1 (List.map Zc v5)))]⟩ h ⟨rfl, rfl, trivial⟩ ⟨rfl, trivial⟩)) ⟨rfl, rfl, trivial⟩ trivial)) ?_
  have h := Option.some.inj h
  subst h
  refine (hret _ ?_).1
  exact ⟨[(.sl 1 (v5.map Zc) false), (.bool true)], ⟨rfl, rfl, trivial⟩, rfl, trivial⟩
 ·intro N k4 v h IH4 J4
  obtain ⟨v2, v3⟩ := v
  try dsimp only at h IH4 J4 ⊢
  cases k4 with
  | zero => cases h
  | succ k4 =>
   rw [F21_l4] at h
   refine Z9 <| Z9 <| Z5 <| Z1 I (Z8 (v := (.vs 4)) I I) I <| Z1 I (stx_lenV (l := v2) (enc := Zc) I u29 I I) I <| Z1 I (Z8 (v := (.sl 1 (a0.map Zh) false)) I I) I <| Z1 I (stx_len (l := a0) (enc := Zh) I s27 I) I <| Z1 I (st_cmp (k := .i64) (a := (v2.length : Int)) (b := (a0.length : Int)) (c := (decide ((v2.length : Int) < (a0.length : Int)))) I I I I) I ?_
   refine Z6 <| Z7 ?_
   have hif := of_if h
   refine Zo I (fun hc => ?_) (fun hc => ?_)
   ·have h := hif.1 hc
    refine Zr <| Z7 <| AWp.block <| Z9 <| Z5 <| Z1 I (Zf (v := (.int .i64 (Int.negSucc 0))) I I) I <| Z6 <| Z7 ?_
    refine Z9 <| Z9 <| Z5 <| Z1 I (Zf (v := (.int .i64 0)) I I) I <| Z6 <| Z7 <| Zv (st' := ⟨[(0, (.sl 1 (a0.map Zh) false)), (4, (.vs 4)), (5, (.vs 5)), (6, (.int .i64 (Int.negSucc 0))), (7, (.int .i64 0))], [(4, (.vec 1 (List.map Zc v2))), (5, (.vec 1 (List.map Zk v3)))]⟩) ⟨rfl, rfl, rfl, rfl, rfl, trivial⟩ ⟨rfl, rfl, trivial⟩ ?_
    refine Zp (V := Int × Int) (X := Int) (lp := fun k v => F21_l11 K a0 v3 (F21_c13 K v3 v2 (F21_l4 K a0 (F21_c6 K) k4)) k v.1 v.2 = some r) (sh := fun v => ⟨[(0, (.sl 1 (a0.map Zh) false)), (4, (.vs 4)), (5, (.vs 5)), (6, (.int .i64 v.1)), (7, (.int .i64 v.2))], [(4, (.vec 1 (List.map Zc v2))), (5, (.vec 1 (List.map Zk v3)))]⟩) (x := fun v => F21_c13 K v3 v2 (F21_l4 K a0 (F21_c6 K) k4) v = some r) (shx := fun v => ⟨[(0, (.sl 1 (a0.map Zh) false)), (4, (.vs 4)), (5, (.vs 5)), (6, (.int .i64 v))], [(4, (.vec 1 (List.map Zc v2))), (5, (.vec 1 (List.map Zk v3)))]⟩) (k := K) (v := ((Int.negSucc 0), 0)) h ?_ ?_
    ·intro v h
     revert h
     revert v
     intro v12 h
     try dsimp only at h ⊢
     unfold F21_c13 at h
     refine Z7 <| Z9 <| Z9 <| Z5 <| Z1 I (Z8 (v := (.int .i64 v12)) I I) I <| Z1 I (st_cmp (k := .i64) (a := v12) (b := 0) (c := (decide (v12 < 0))) I I I I) I <| Z6 <| Z7 ?_
     have hif := of_if h
     refine Zo I (fun hc => ?_) (fun hc => ?_)
     ·have h := hif.1 hc
      refine Z9 <| Z5 <| Z1 I (Zf (v := (.sl 1 [] false)) I I) I <| Z1 I (Zf (v := (.bool false)) I I) I <| Z6 <| Z7 <| AWp.ret <| At.thruR ?_
      refine At.overR ?_
      refine At.thruR (At.overR ?_)
      refine At.thruR ?_
      have h := Option.some.inj h
      subst h
      refine (hret _ ?_).1
      exact ⟨[(.sl 1 [] false), (.bool false)], ⟨rfl, rfl, trivial⟩, rfl, trivial⟩
     ·have h := hif.2 hc
      refine Zr <| Z7 <| Z9 <| Z5 <| Z1 I (Z8 (v := (.vs 5)) I I) I <| Z1 I (Z8 (v := (.int .i64 v12)) I I) I ?_
      have ⟨hg15, h⟩ := Zg h
      refine Z1 I (st_indexV (k := .i64) (v := (.vs 5)) (n := 5) (off := 0) (len := v3.length) (es := (List.map Zk v3)) (j := v12) (m := v12.toNat) I s49 I I (vecR_map _ _ _) I hg15 (Nat.zero_add _)) I ?_
      have ⟨hg16, h⟩ := Zg h
      refine Z1 I (st_storeV (l := v3) (enc := Zk) (z := false) (a := true) (v := (.bool true)) sz4 I I hg16 I els_bool I I I I) I <| Z6 <| Z7 <| Z5 <| Z1 I (Z8 (v := (.vs 4)) I I) I <| Z1 I (Z8 (v := (.int .i64 v12)) I I) I <| Z1 I (stx_buildSlice (vs := [(.int .i64 v12)]) (enc := Zc) (l := [v12]) I el29 I I ⟨rfl, trivial⟩ I els_i64 I I I I) I ?_
      have ⟨hg17, h⟩ := Zg h
      refine Z1 I (st_append (m := 4) (enc := Zc) (l := v2) (l' := [v12]) (src := (.vs 62)) (rd := [(62, (.vec 1 (List.map Zc [v12])))]) I I el29 I u29 I I I I (oneRead I) els_i64 hg17) I <| Z1 I (Zf (v := (.vs 4)) I I) I <| Z6 <| At.end ?_
      exact Zj (st' := ⟨[(0, (.sl 1 (a0.map Zh) false)), (4, (.vs 4)), (5, (.vs 5))], [(4, (.vec 1 (List.map Zc (v2 ++ [v12])))), (5, (.vec 1 (List.map Zk (v3.set v12.toNat true))))]⟩) ⟨rfl, rfl, rfl, trivial⟩ ⟨rfl, rfl, trivial⟩ (IH4 _ ((v2 ++ [v12]), (v3.set v12.toNat true)) (Nat.lt_succ_self _) h)
    ·intro N k11 v h IH11 J11
     obtain ⟨v9, v10⟩ := v
     try dsimp only at h IH11 J11 ⊢
     cases k11 with
     | zero => cases h
     | succ k11 =>
      rw [F21_l11] at h
      refine Z9 <| Z9 <| Z5 <| Z1 I (Z8 (v := (.int .i64 v10)) I I) I <| Z1 I (Z8 (v := (.sl 1 (a0.map Zh) false)) I I) I <| Z1 I (stx_len (l := a0) (enc := Zh) I s27 I) I <| Z1 I (st_cmp (k := .i64) (a := v10) (b := (a0.length : Int)) (c := (decide (v10 < (a0.length : Int)))) I I I I) I <| Z1 I (Z8 (v := (.bool (decide (v10 < (a0.length : Int))))) I I) I ?_
      have hif := of_if h
      refine AOps.split (fun hc => ?_) (fun hc => ?_)
      ·have h := hif.1 hc
       refine Zl I I I I (Z8 (v := (.int .i64 v9)) I I) I <| Zl I I I I (st_cmp (k := .i64) (a := v9) (b := 0) (c := (decide (v9 < 0))) I I I I) I <| Z1 I (st_pickT (v := (.bool (decide (v9 < 0)))) I I I) I <| Z6 <| Z7 ?_
       have hif := of_if h
       refine Zo I (fun hc => ?_) (fun hc => ?_)
       ·have h := hif.1 hc
        refine Zr <| Z7 <| Z9 <| AWp.block <| Z9 <| Z5 <| Z1 I (Z8 (v := (.vs 5)) I I) I <| Z1 I (Z8 (v := (.int .i64 v10)) I I) I ?_
        have ⟨hg19, h⟩ := Zg h
        refine Z1 I (st_indexV (k := .i64) (v := (.vs 5)) (n := 5) (off := 0) (len := v3.length) (es := (List.map Zk v3)) (j := v10) (m := v10.toNat) I s49 I I (vecR_map _ _ _) I hg19 (Nat.zero_add _)) I ?_
        have ⟨hg20, h⟩ := Zg h
        refine Z1 I (st_loadV (l := v3) (enc := Zk) (z := false) (v := (.bool (v3.getD v10.toNat false))) I o4 I I hg20 I) I <| Z1 I (st_not (b := (v3.getD v10.toNat false)) I I) I <| Z1 I (Zf (v := (.bool (!(v3.getD v10.toNat false)))) I I) I <| Z6 <| Z7 <| Z9 <| Z9 <| Z5 ?_
        refine Z1 I (Zf (v := (.int .i64 0)) I I) I <| Z6 <| Z7 <| Zv (st' := ⟨[(0, (.sl 1 (a0.map Zh) false)), (4, (.vs 4)), (5, (.vs 5)), (6, (.int .i64 v9)), (7, (.int .i64 v10)), (8, (.bool (!(v3.getD v10.toNat false)))), (9, (.int .i64 0))], [(4, (.vec 1 (List.map Zc v2))), (5, (.vec 1 (List.map Zk v3)))]⟩) ⟨rfl, rfl, rfl, rfl, rfl, rfl, rfl, trivial⟩ ⟨rfl, rfl, trivial⟩ ?_
        refine Zp (V := Bool × Int) (X := Bool) (lp := fun k v => F21_l23 K a0 v3 v10 (F21_c25 K (F21_l11 K a0 v3 (F21_c13 K v3 v2 (F21_l4 K a0 (F21_c6 K) k4)) k11) v10 v9) k v.1 v.2 = some r) (sh := fun v => ⟨[(0, (.sl 1 (a0.map Zh) false)), (4, (.vs 4)), (5, (.vs 5)), (6, (.int .i64 v9)), (7, (.int .i64 v10)), (8, (.bool v.1)), (9, (.int .i64 v.2))], [(4, (.vec 1 (List.map Zc v2))), (5, (.vec 1 (List.map Zk v3)))]⟩) (x := fun v => F21_c25 K (F21_l11 K a0 v3 (F21_c13 K v3 v2 (F21_l4 K a0 (F21_c6 K) k4)) k11) v10 v9 v = some r) (shx := fun v => ⟨[(0, (.sl 1 (a0.map Zh) false)), (4, (.vs 4)), (5, (.vs 5)), (6, (.int .i64 v9)), (7, (.int .i64 v10)), (8, (.bool v))], [(4, (.vec 1 (List.map Zc v2))), (5, (.vec 1 (List.map Zk v3)))]⟩) (k := K) (v := ((!(v3.getD v10.toNat false)), 0)) h ?_ ?_
        ·intro v h
         revert h
         revert v
         intro v24 h
         try dsimp only at h ⊢
         unfold F21_c25 at h
         refine Z7 <| Z9 <| Z5 <| Z1 I (Z8 (v := (.bool v24)) I I) I <| Z6 <| Z7 ?_
         refine AWp.join (V := Int) (lp := fun v => F21_j28 K (F21_l11 K a0 v3 (F21_c13 K v3 v2 (F21_l4 K a0 (F21_c6 K) k4)) k11) v10 v = some r) (sh := fun v => ⟨[(0, (.sl 1 (a0.map Zh) false)), (4, (.vs 4)), (5, (.vs 5)), (6, (.int .i64 v)), (7, (.int .i64 v10))], [(4, (.vec 1 (List.map Zc v2))), (5, (.vec 1 (List.map Zk v3)))]⟩) ?_ ?_
         ·intro v h
          revert h
          revert v
          intro v27 h
          try dsimp only at h ⊢
          unfold F21_j28 at h
          refine At.end <| Z7 <| Z5 <| Z1 I (Z8 (v := (.int .i64 v10)) I I) I <| Z1 I (Zw (k := .i64) (a := v10) (b := 1) (c := (IntKind.i64.wrap (v10 + 1))) I I I I) I <| Z1 I (Zf (v := (.int .i64 (IntKind.i64.wrap (v10 + 1)))) I I) I <| Z6 ?_
          exact Zj (st' := ⟨[(0, (.sl 1 (a0.map Zh) false)), (4, (.vs 4)), (5, (.vs 5)), (6, (.int .i64 v27)), (7, (.int .i64 (IntKind.i64.wrap (v10 + 1))))], [(4, (.vec 1 (List.map Zc v2))), (5, (.vec 1 (List.map Zk v3)))]⟩) ⟨rfl, rfl, rfl, rfl, rfl, trivial⟩ ⟨rfl, rfl, trivial⟩ (IH11 _ (v27, (IntKind.i64.wrap (v10 + 1))) (Nat.lt_succ_self _) h)
         ·intro J28
          have hif := of_if h
          refine Zo I (fun hc => ?_) (fun hc => ?_)
          ·have h := hif.1 hc
           refine Z5 <| Z1 I (Z8 (v := (.int .i64 v10)) I I) I <| Z1 I (Zf (v := (.int .i64 v10)) I I) I <| Z6 ?_
           exact Zj (st' := ⟨[(0, (.sl 1 (a0.map Zh) false)), (4, (.vs 4)), (5, (.vs 5)), (6, (.int .i64 v10)), (7, (.int .i64 v10))], [(4, (.vec 1 (List.map Zc v2))), (5, (.vec 1 (List.map Zk v3)))]⟩) ⟨rfl, rfl, rfl, rfl, rfl, trivial⟩ ⟨rfl, rfl, trivial⟩ (J28 v10 h)
          ·have h := hif.2 hc
           refine Zr ?_
           exact Zj (st' := ⟨[(0, (.sl 1 (a0.map Zh) false)), (4, (.vs 4)), (5, (.vs 5)), (6, (.int .i64 v9)), (7, (.int .i64 v10))], [(4, (.vec 1 (List.map Zc v2))), (5, (.vec 1 (List.map Zk v3)))]⟩) ⟨rfl, rfl, rfl, rfl, rfl, trivial⟩ ⟨rfl, rfl, trivial⟩ (J28 v9 h)
        ·intro N k23 v h IH23 J23
         obtain ⟨v21, v22⟩ := v
         try dsimp only at h IH23 J23 ⊢
         cases k23 with
         | zero => cases h
         | succ k23 =>
          rw [F21_l23] at h
          refine Z9 <| Z9 <| Z5 <| Z1 I (Z8 (v := (.int .i64 v22)) I I) I <| Z1 I (Z8 (v := (.sl 1 (a0.map Zh) false)) I I) I <| Z1 I (stx_len (l := a0) (enc := Zh) I s27 I) I <| Z1 I (st_cmp (k := .i64) (a := v22) (b := (a0.length : Int)) (c := (decide (v22 < (a0.length : Int)))) I I I I) I <| Z6 ?_
          refine Z7 ?_
          have hif := of_if h
          refine Zo I (fun hc => ?_) (fun hc => ?_)
          ·have h := hif.1 hc
           refine Zr <| Z7 <| Z9 ?_
           refine AWp.blockJoin (V := Bool) (lp := fun v => F21_j31 K (F21_l23 K a0 v3 v10 (F21_c25 K (F21_l11 K a0 v3 (F21_c13 K v3 v2 (F21_l4 K a0 (F21_c6 K) k4)) k11) v10 v9) k23) v22 v = some r) (sh := fun v => ⟨[(0, (.sl 1 (a0.map Zh) false)), (4, (.vs 4)), (5, (.vs 5)), (6, (.int .i64 v9)), (7, (.int .i64 v10)), (8, (.bool v)), (9, (.int .i64 v22))], [(4, (.vec 1 (List.map Zc v2))), (5, (.vec 1 (List.map Zk v3)))]⟩) ?_ ?_
           ·intro v h
            revert h
            revert v
            intro v30 h
            try dsimp only at h ⊢
            unfold F21_j31 at h
            refine Z7 <| Z5 <| Z1 I (Z8 (v := (.int .i64 v22)) I I) I <| Z1 I (Zw (k := .i64) (a := v22) (b := 1) (c := (IntKind.i64.wrap (v22 + 1))) I I I I) I <| Z1 I (Zf (v := (.int .i64 (IntKind.i64.wrap (v22 + 1)))) I I) I <| Z6 ?_
            exact Zj (st' := ⟨[(0, (.sl 1 (a0.map Zh) false)), (4, (.vs 4)), (5, (.vs 5)), (6, (.int .i64 v9)), (7, (.int .i64 v10)), (8, (.bool v30)), (9, (.int .i64 (IntKind.i64.wrap (v22 + 1))))], [(4, (.vec 1 (List.map Zc v2))), (5, (.vec 1 (List.map Zk v3)))]⟩) ⟨rfl, rfl, rfl, rfl, rfl, rfl, rfl, trivial⟩ ⟨rfl, rfl, trivial⟩ (IH23 _ (v30, (IntKind.i64.wrap (v22 + 1))) (Nat.lt_succ_self _) h)
           ·intro J31
            refine Z9 <| Z5 <| Z1 I (Z8 (v := (.vs 5)) I I) I <| Z1 I (Z8 (v := (.int .i64 v22)) I I) I ?_
            have ⟨hg32, h⟩ := Zg h
            refine Z1 I (st_indexV (k := .i64) (v := (.vs 5)) (n := 5) (off := 0) (len := v3.length) (es := (List.map Zk v3)) (j := v22) (m := v22.toNat) I s49 I I (vecR_map _ _ _) I hg32 (Nat.zero_add _)) I ?_
            have ⟨hg33, h⟩ := Zg h
            refine Z1 I (st_loadV (l := v3) (enc := Zk) (z := false) (v := (.bool (v3.getD v22.toNat false))) I o4 I I hg33 I) I <| Z1 I (st_not (b := (v3.getD v22.toNat false)) I I) I <| Z1 I (Z8 (v := (.bool (!(v3.getD v22.toNat false)))) I I) I ?_
            have hif := of_if h
            refine AOps.split (fun hc => ?_) (fun hc => ?_)
            ·have h := hif.1 hc
             refine Zl I I I I (Z8 (v := (.sl 1 (a0.map Zh) false)) I I) I <| Zl I I I I (Z8 (v := (.int .i64 v22)) I I) I ?_
             have ⟨hg34, h⟩ := Zg h
             refine Zl I I I I (st_index (k := .i64) (l := a0) (enc := Zh) (z := []) (n := v22) (cs := [(.sl 1 ((a0.getD v22.toNat []).map Zk) false)]) (full := false) I s27 I I hg34 I) I <| Zl I I I I (st_loadI (cs := [(.sl 1 ((a0.getD v22.toNat []).map Zk) false)]) (v := (.sl 1 ((a0.getD v22.toNat []).map Zk) false)) I o49 I I) I <| Zl I I I I (Z8 (v := (.int .i64 v10)) I I) I ?_
             have ⟨hg35, h⟩ := Zg h
             refine Zl I I I I (st_index (k := .i64) (l := (a0.getD v22.toNat [])) (enc := Zk) (z := false) (n := v10) (cs := [(.bool ((a0.getD v22.toNat []).getD v10.toNat false))]) (full := false) I s49 I I hg35 I) I <| Zl I I I I (st_loadI (cs := [(.bool ((a0.getD v22.toNat []).getD v10.toNat false))]) (v := (.bool ((a0.getD v22.toNat []).getD v10.toNat false))) I o4 I I) I <| Z1 I (st_pickT (v := (.bool ((a0.getD v22.toNat []).getD v10.toNat false))) I I I) I <| Z6 <| Z7 ?_
             refine AWp.join (V := Bool) (lp := fun v => F21_j37 K (F21_l23 K a0 v3 v10 (F21_c25 K (F21_l11 K a0 v3 (F21_c13 K v3 v2 (F21_l4 K a0 (F21_c6 K) k4)) k11) v10 v9) k23) v22 v = some r) (sh := fun v => ⟨[(0, (.sl 1 (a0.map Zh) false)), (4, (.vs 4)), (5, (.vs 5)), (6, (.int .i64 v9)), (7, (.int .i64 v10)), (8, (.bool v)), (9, (.int .i64 v22))], [(4, (.vec 1 (List.map Zc v2))), (5, (.vec 1 (List.map Zk v3)))]⟩) ?_ ?_
             ·intro v h
              revert h
              revert v
              intro v36 h
              try dsimp only at h ⊢
              unfold F21_j37 at h
              refine At.end ?_
              exact Zj (st' := ⟨[(0, (.sl 1 (a0.map Zh) false)), (4, (.vs 4)), (5, (.vs 5)), (6, (.int .i64 v9)), (7, (.int .i64 v10)), (8, (.bool v36)), (9, (.int .i64 v22))], [(4, (.vec 1 (List.map Zc v2))), (5, (.vec 1 (List.map Zk v3)))]⟩) ⟨rfl, rfl, rfl, rfl, rfl, rfl, rfl, trivial⟩ ⟨rfl, rfl, trivial⟩ (J31 v36 h)
             ·intro J37
              have hif := of_if h
              refine Zo I (fun hc => ?_) (fun hc => ?_)
              ·have h := hif.1 hc
               refine Z5 <| Z1 I (Zf (v := (.bool false)) I I) I <| Z6 ?_
               exact Zj (st' := ⟨[(0, (.sl 1 (a0.map Zh) false)), (4, (.vs 4)), (5, (.vs 5)), (6, (.int .i64 v9)), (7, (.int .i64 v10)), (8, (.bool false)), (9, (.int .i64 v22))], [(4, (.vec 1 (List.map Zc v2))), (5, (.vec 1 (List.map Zk v3)))]⟩) ⟨rfl, rfl, rfl, rfl, rfl, rfl, rfl, trivial⟩ ⟨rfl, rfl, trivial⟩ (J37 false h)
              ·have h := hif.2 hc
               refine Zr ?_
               exact Zj (st' := ⟨[(0, (.sl 1 (a0.map Zh) false)), (4, (.vs 4)), (5, (.vs 5)), (6, (.int .i64 v9)), (7, (.int .i64 v10)), (8, (.bool v21)), (9, (.int .i64 v22))], [(4, (.vec 1 (List.map Zc v2))), (5, (.vec 1 (List.map Zk v3)))]⟩) ⟨rfl, rfl, rfl, rfl, rfl, rfl, rfl, trivial⟩ ⟨rfl, rfl, trivial⟩ (J37 v21 h)
            ·have h := hif.2 hc
             refine Zd I I I I I I I <| Zd I I I I I I I <| Zd I I I I I I I <| Zd I I I I I I I <| Zd I I I I I I I <| Zd I I I I I I I <| Zd I I I I I I I <| Z1 I (Zy (v := (.bool false)) I I I) I ?_
             refine Z6 <| Z7 ?_
             refine Zo (b := false) I (fun hc => ?_) (fun hc => ?_)
             ·cases hc
             refine Zr <| At.end ?_
             exact Zj (st' := ⟨[(0, (.sl 1 (a0.map Zh) false)), (4, (.vs 4)), (5, (.vs 5)), (6, (.int .i64 v9)), (7, (.int .i64 v10)), (8, (.bool v21)), (9, (.int .i64 v22))], [(4, (.vec 1 (List.map Zc v2))), (5, (.vec 1 (List.map Zk v3)))]⟩) ⟨rfl, rfl, rfl, rfl, rfl, rfl, rfl, trivial⟩ ⟨rfl, rfl, trivial⟩ (J31 v21 h)
          ·have h := hif.2 hc
           refine AWp.exit <| At.thru ?_
           exact Zj (st' := ⟨[(0, (.sl 1 (a0.map Zh) false)), (4, (.vs 4)), (5, (.vs 5)), (6, (.int .i64 v9)), (7, (.int .i64 v10)), (8, (.bool v21))], [(4, (.vec 1 (List.map Zc v2))), (5, (.vec 1 (List.map Zk v3)))]⟩) ⟨rfl, rfl, rfl, rfl, rfl, rfl, trivial⟩ ⟨rfl, rfl, trivial⟩ (J23 v21 h)
       ·have h := hif.2 hc
        refine AWp.exit <| At.thru ?_
        exact Zj (st' := ⟨[(0, (.sl 1 (a0.map Zh) false)), (4, (.vs 4)), (5, (.vs 5)), (6, (.int .i64 v9))], [(4, (.vec 1 (List.map Zc v2))), (5, (.vec 1 (List.map Zk v3)))]⟩) ⟨rfl, rfl, rfl, rfl, trivial⟩ ⟨rfl, rfl, trivial⟩ (J11 v9 h)
      ·have h := hif.2 hc
       refine Zd I I I I I I I <| Zd I I I I I I I <| Z1 I (Zy (v := (.bool false)) I I I) I <| Z6 <| Z7 ?_
       refine Zo (b := false) I (fun hc => ?_) (fun hc => ?_)
       ·cases hc
       refine AWp.exit <| At.thru ?_
       exact Zj (st' := ⟨[(0, (.sl 1 (a0.map Zh) false)), (4, (.vs 4)), (5, (.vs 5)), (6, (.int .i64 v9))], [(4, (.vec 1 (List.map Zc v2))), (5, (.vec 1 (List.map Zk v3)))]⟩) ⟨rfl, rfl, rfl, rfl, trivial⟩ ⟨rfl, rfl, trivial⟩ (J11 v9 h)
   ·have h := hif.2 hc
    refine AWp.exit <| At.thru ?_
    exact Zj (st' := ⟨[(4, (.vs 4))], [(4, (.vec 1 (List.map Zc v2)))]⟩) ⟨rfl, trivial⟩ ⟨rfl, trivial⟩ (J4 v2 h)
end Go.AM.Gra
