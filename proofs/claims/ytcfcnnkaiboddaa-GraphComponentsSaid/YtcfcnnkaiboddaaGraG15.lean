/- What these functions compute, each with its walk: F23, F5. -/
import Derived.Test.YtcfcnnkaiboddaaGraT
import Derived.Test.YtcfcnnkaiboddaaGraG0
import Derived.Test.YtcfcnnkaiboddaaGraG1
import Derived.Test.YtcfcnnkaiboddaaGraG2
import Derived.Test.YtcfcnnkaiboddaaGraG4
import Derived.Test.YtcfcnnkaiboddaaGraG6
import Derived.Test.YtcfcnnkaiboddaaGraG10
namespace Go.AM.Gra
open Go Go.AM Go.Proofs
set_option maxRecDepth 100000
set_option maxHeartbeats 2000000
def F23_c9 (K : Nat) (v8 : (List Int)) : Option ((List Int)) :=
 some v8
def F23_j22 (K : Nat) (b11 : Int → Int → (List Int) → Option ((List Int))) (v5 : Int) (v16 : (List Int)) (v21 : Int) : Option ((List Int)) :=
 b11 v21 (IntKind.i64.wrap (v5 + 1)) v16
def F23_c17 (K : Nat) (v5 : Int) (v4 : Int) (b11 : Int → Int → (List Int) → Option ((List Int))) (v16 : (List Int)) : Option ((List Int)) :=
 if (0 : Int) ≤ v5 ∧ v5 < (v16.length : Nat) then
  if v5.toNat < v16.length then
   if ((v16.getD v5.toNat 0) == v4) = true then
    F23_j22 K b11 v5 v16 (IntKind.i64.wrap (v4 + 1))
   else
    F23_j22 K b11 v5 v16 v4
  else none
 else none
def F23_j24 (K : Nat) (b23 : Int → Option ((List Int))) (v14 : Int) : Option ((List Int)) :=
 b23 (IntKind.i64.wrap (v14 + 1))
def F23_l15 (K : Nat) (v5 : Int) (v2 : (List (List Bool))) (v6 : (List Int)) (v4 : Int) (c18 : (List Int) → Option ((List Int))) : Nat → Int → Option ((List Int))
 | 0, _ => none
 | k15 + 1, v14 =>
  if (decide (v14 < v5)) = true then
   if (0 : Int) ≤ v5 ∧ v5 < v2.length then
    if (0 : Int) ≤ v14 ∧ v14 < (v2.getD v5.toNat []).length then
     if ((v2.getD v5.toNat []).getD v14.toNat false) = true then
      if (0 : Int) ≤ v14 ∧ v14 < v2.length then
       if (0 : Int) ≤ v5 ∧ v5 < (v2.getD v14.toNat []).length then
        if ((v2.getD v14.toNat []).getD v5.toNat false) = true then
         if (0 : Int) ≤ v14 ∧ v14 < ((v6.set v5.toNat v4).length : Nat) then
          if v14.toNat < (v6.set v5.toNat v4).length then
           if (0 : Int) ≤ v5 ∧ v5 < ((v6.set v5.toNat v4).length : Nat) then
            if v5.toNat < (v6.set v5.toNat v4).length then
             c18 ((v6.set v5.toNat v4).set v5.toNat ((v6.set v5.toNat v4).getD v14.toNat 0))
            else none
           else none
          else none
         else none
        else
         F23_j24 K (F23_l15 K v5 v2 v6 v4 c18 k15) v14
       else none
      else none
     else
      F23_j24 K (F23_l15 K v5 v2 v6 v4 c18 k15) v14
    else none
   else none
  else
   c18 (v6.set v5.toNat v4)
def F23_l7 (K : Nat) (a0 : (List (List Bool))) (v2 : (List (List Bool))) (c10 : (List Int) → Option ((List Int))) : Nat → Int → Int → (List Int) → Option ((List Int))
 | 0, _, _, _ => none
 | k7 + 1, v4, v5, v6 =>
  if (decide (v5 < (a0.length : Int))) = true then
   if (0 : Int) ≤ v5 ∧ v5 < (v6.length : Nat) then
    if v5.toNat < v6.length then
     F23_l15 K v5 v2 v6 v4 (F23_c17 K v5 v4 (F23_l7 K a0 v2 c10 k7)) K 0
    else none
   else none
  else
   c10 v6
def F23 (K : Nat) (a0 : (List (List Bool))) : Option ((List Int)) :=
 (F40 K a0).bind fun v2 =>
  if (0 : Int) ≤ (a0.length : Int) ∧ (a0.length : Int) ≤ (a0.length : Int) ∧ (a0.length : Int) ≤ 1073741824 then
   F23_l7 K a0 v2 (F23_c9 K) K 0 0 (List.replicate (a0.length : Int).toNat (0 : Int))
  else none
theorem F23_ok (K : Nat) (a0 : (List (List Bool))) (r : (List Int)) (h : F23 K a0 = some r) : ACall P 23 ⟨[(.sl 1 (a0.map Zl) false)], [], (.sl 1 (r.map Zb) false), [], []⟩ := by
 refine acall_of Try.func23 Try.results23 rfl Try.ntmps23 rfl rfl rfl ?_
 intro E Q hP hN hro hret
 obtain ⟨P', nt', w0, F0, p0, S0, β0, ro0⟩ := E
 simp only at hP hN
 subst hP hN
 dsimp only [argT]
 unfold F23 at h
 refine Ze <| Z5 <| Z1 I (Zh (v := (.sl 1 [] false)) I I) I <| Z8 <| Za <| Ze <| Z5 <| Z1 I (Z6 (v := (.sl 1 (a0.map Zl) false)) I I) I ?_
 have ⟨v2, hv2, h⟩ := of_bind h
 refine Z1 I (st_call0 (ar := [(.sl 1 (a0.map Zl) false)]) (caps := []) Try.call40 (F40_ok K a0 v2 hv2) I I ⟨rfl, trivial⟩ I) I <| Z1 I (Zh (v := (.sl 1 (v2.map Zl) false)) I I) I <| Z8 <| Za <| Ze <| Z5 <| Z1 I (Z6 (v := (.sl 1 (a0.map Zl) false)) I I) I <| Z1 I (stx_len (l := a0) (enc := Zl) I s27 I) I ?_
 have ⟨hg3, h⟩ := Zi h
 refine Z1 I (st_makeSlice (kx := .i64) (ky := .i64) (a := (a0.length : Int)) (c := (a0.length : Int)) (n := (a0.length : Int).toNat) I el29 I ze3 els_i64 I I I hg3 I) I <| Z1 I (Zh (v := (.vs 12)) I I) I <| Z8 <| Za <| Ze <| Z5 <| Z1 I (Zh (v := (.int .i64 0)) I I) I <| Z8 ?_
 refine Za <| Ze <| Ze <| Z5 <| Z1 I (Zh (v := (.int .i64 0)) I I) I <| Z8 <| Za <| AWp.ghost (st' := ⟨[(0, (.sl 1 (a0.map Zl) false)), (3, (.sl 1 (v2.map Zl) false)), (4, (.vs 4)), (5, (.int .i64 0)), (6, (.int .i64 0))], [(4, (.vec 1 (List.map Zb (List.replicate (a0.length : Int).toNat (0 : Int)))))]⟩) (fun a w h => (Zr ⟨[(0, (.sl 1 (a0.map Zl) false)), (3, (.sl 1 (v2.map Zl) false)), (4, (.vs 4)), (5, (.int .i64 0)), (6, (.int .i64 0))], [(4, (.vec 1 (List.map Zb (List.replicate (a0.length : Int).toNat (0 : Int)))))]⟩ (ghost_sw (a := 12) (b := 4) I I a w (Zr ⟨[(0, (.sl 1 (a0.map Zl) false)), (3, (.sl 1 (v2.map Zl) false)), (4, (.vs 12)), (5, (.int .i64 0)), (6, (.int .i64 0))], [(12, (.vec 1 (List.map Zb (List.replicate (a0.length : Int).toNat (0 : Int)))))]⟩ h ⟨rfl, rfl, rfl, rfl, rfl, trivial⟩ ⟨rfl, trivial⟩)) ⟨rfl, rfl, rfl, rfl, rfl, trivial⟩ ⟨rfl, trivial⟩)) ?_
 refine Z10 (st' := ⟨[(0, (.sl 1 (a0.map Zl) false)), (3, (.sl 1 (v2.map Zl) false)), (4, (.vs 4)), (5, (.int .i64 0)), (6, (.int .i64 0))], [(4, (.vec 1 (List.map Zb (List.replicate (a0.length : Int).toNat (0 : Int)))))]⟩) ⟨rfl, rfl, rfl, rfl, rfl, trivial⟩ ⟨rfl, trivial⟩ ?_
 refine Zq (V := Int × Int × (List Int)) (X := (List Int)) (lp := fun k v => F23_l7 K a0 v2 (F23_c9 K) k v.1 v.2.1 v.2.2 = some r) (sh := fun v => ⟨[(0, (.sl 1 (a0.map Zl) false)), (3, (.sl 1 (v2.map Zl) false)), (4, (.vs 4)), (5, (.int .i64 v.1)), (6, (.int .i64 v.2.1))], [(4, (.vec 1 (List.map Zb v.2.2)))]⟩) (x := fun v => F23_c9 K v = some r) (shx := fun v => ⟨[(4, (.vs 4))], [(4, (.vec 1 (List.map Zb v)))]⟩) (k := K) (v := (0, 0, (List.replicate (a0.length : Int).toNat (0 : Int)))) h ?_ ?_
 ·intro v h
  revert h
  revert v
  intro v8 h
  try dsimp only at h ⊢
  unfold F23_c9 at h
  refine Za <| Ze <| Z5 <| Z1 I (Z6 (v := (.vs 4)) I I) I <| Z1 I (Zh (v := (.vs 4)) I I) I <| Z8 <| Za <| AWp.ret ?_
  refine At.ghost (st' := ⟨[(2, (.sl 1 (v8.map Zb) false))], []⟩) (fun a w h => (Zr ⟨[(2, (.sl 1 (v8.map Zb) false))], []⟩ (ghost_freeze (m := 4) (sz := 1) (es := (List.map Zb v8)) a w (Zr ⟨[(2, (.vs 4))], [(4, (.vec 1 (List.map Zb v8)))]⟩ h ⟨rfl, trivial⟩ ⟨rfl, trivial⟩)) ⟨rfl, trivial⟩ trivial)) ?_
  have h := Option.some.inj h
  subst h
  refine (hret _ ?_).1
  exact ⟨[(.sl 1 (v8.map Zb) false)], ⟨rfl, trivial⟩, rfl, trivial⟩
 ·intro N k7 v h IH7 J7
  obtain ⟨v4, v5, v6⟩ := v
  try dsimp only at h IH7 J7 ⊢
  cases k7 with
  | zero => cases h
  | succ k7 =>
   rw [F23_l7] at h
   refine Ze <| Ze <| Z5 <| Z1 I (Z6 (v := (.int .i64 v5)) I I) I <| Z1 I (Z6 (v := (.sl 1 (a0.map Zl) false)) I I) I <| Z1 I (stx_len (l := a0) (enc := Zl) I s27 I) I <| Z1 I (st_cmp (k := .i64) (a := v5) (b := (a0.length : Int)) (c := (decide (v5 < (a0.length : Int)))) I I I I) I <| Z8 ?_
   refine Za ?_
   have hif := of_if h
   refine Zp I (fun hc => ?_) (fun hc => ?_)
   ·have h := hif.1 hc
    refine Zs <| Za <| Ze <| AWp.block <| Ze <| Z5 <| Z1 I (Z6 (v := (.vs 4)) I I) I <| Z1 I (Z6 (v := (.int .i64 v5)) I I) I ?_
    refine Z1 I (Z6 (v := (.int .i64 v4)) I I) I ?_
    have ⟨hg12, h⟩ := Zi h
    refine Z1 I (st_indexV (k := .i64) (v := (.vs 4)) (n := 4) (off := 0) (len := v6.length) (es := (List.map Zb v6)) (j := v5) (m := v5.toNat) I s29 I I (vecR_map _ _ _) I hg12 (Nat.zero_add _)) I ?_
    have ⟨hg13, h⟩ := Zi h
    refine Z1 I (st_storeV (l := v6) (enc := Zb) (z := 0) (a := v4) (v := (.int .i64 v4)) sz3 I I hg13 I els_i64 I I I I) I <| Z8 <| Za <| Ze <| Ze <| Z5 <| Z1 I (Zh (v := (.int .i64 0)) I I) I <| Z8 ?_
    refine Za <| Z10 (st' := ⟨[(0, (.sl 1 (a0.map Zl) false)), (3, (.sl 1 (v2.map Zl) false)), (4, (.vs 4)), (5, (.int .i64 v4)), (6, (.int .i64 v5)), (7, (.int .i64 0))], [(4, (.vec 1 (List.map Zb (v6.set v5.toNat v4))))]⟩) ⟨rfl, rfl, rfl, rfl, rfl, rfl, trivial⟩ ⟨rfl, trivial⟩ ?_
    refine Zq (V := Int) (X := (List Int)) (lp := fun k v => F23_l15 K v5 v2 v6 v4 (F23_c17 K v5 v4 (F23_l7 K a0 v2 (F23_c9 K) k7)) k v = some r) (sh := fun v => ⟨[(0, (.sl 1 (a0.map Zl) false)), (3, (.sl 1 (v2.map Zl) false)), (4, (.vs 4)), (5, (.int .i64 v4)), (6, (.int .i64 v5)), (7, (.int .i64 v))], [(4, (.vec 1 (List.map Zb (v6.set v5.toNat v4))))]⟩) (x := fun v => F23_c17 K v5 v4 (F23_l7 K a0 v2 (F23_c9 K) k7) v = some r) (shx := fun v => ⟨[(0, (.sl 1 (a0.map Zl) false)), (3, (.sl 1 (v2.map Zl) false)), (4, (.vs 4)), (5, (.int .i64 v4)), (6, (.int .i64 v5))], [(4, (.vec 1 (List.map Zb v)))]⟩) (k := K) (v := 0) h ?_ ?_
    ·intro v h
     revert h
     revert v
     intro v16 h
     try dsimp only at h ⊢
     unfold F23_c17 at h
     refine Za <| Ze <| Z5 <| Z1 I (Z6 (v := (.vs 4)) I I) I <| Z1 I (Z6 (v := (.int .i64 v5)) I I) I ?_
     have ⟨hg19, h⟩ := Zi h
     refine Z1 I (st_indexV (k := .i64) (v := (.vs 4)) (n := 4) (off := 0) (len := v16.length) (es := (List.map Zb v16)) (j := v5) (m := v5.toNat) I s29 I I (vecR_map _ _ _) I hg19 (Nat.zero_add _)) I ?_
     have ⟨hg20, h⟩ := Zi h
     refine Z1 I (st_loadV (l := v16) (enc := Zb) (z := 0) (v := (.int .i64 (v16.getD v5.toNat 0))) I o3 I I hg20 I) I <| Z1 I (Z6 (v := (.int .i64 v4)) I I) I <| Z1 I (st_cmp (k := .i64) (a := (v16.getD v5.toNat 0)) (b := v4) (c := ((v16.getD v5.toNat 0) == v4)) I I I I) I <| Z8 <| Za ?_
     refine AWp.join (V := Int) (lp := fun v => F23_j22 K (F23_l7 K a0 v2 (F23_c9 K) k7) v5 v16 v = some r) (sh := fun v => ⟨[(0, (.sl 1 (a0.map Zl) false)), (3, (.sl 1 (v2.map Zl) false)), (4, (.vs 4)), (5, (.int .i64 v)), (6, (.int .i64 v5))], [(4, (.vec 1 (List.map Zb v16)))]⟩) ?_ ?_
     ·intro v h
      revert h
      revert v
      intro v21 h
      try dsimp only at h ⊢
      unfold F23_j22 at h
      refine At.end <| Za <| Z5 <| Z1 I (Z6 (v := (.int .i64 v5)) I I) I <| Z1 I (Zz (k := .i64) (a := v5) (b := 1) (c := (IntKind.i64.wrap (v5 + 1))) I I I I) I <| Z1 I (Zh (v := (.int .i64 (IntKind.i64.wrap (v5 + 1)))) I I) I <| Z8 ?_
      exact Zj (st' := ⟨[(0, (.sl 1 (a0.map Zl) false)), (3, (.sl 1 (v2.map Zl) false)), (4, (.vs 4)), (5, (.int .i64 v21)), (6, (.int .i64 (IntKind.i64.wrap (v5 + 1))))], [(4, (.vec 1 (List.map Zb v16)))]⟩) ⟨rfl, rfl, rfl, rfl, rfl, trivial⟩ ⟨rfl, trivial⟩ (IH7 _ (v21, (IntKind.i64.wrap (v5 + 1)), v16) (Nat.lt_succ_self _) h)
     ·intro J22
      have hif := of_if h
      refine Zp I (fun hc => ?_) (fun hc => ?_)
      ·have h := hif.1 hc
       refine Z5 <| Z1 I (Z6 (v := (.int .i64 v4)) I I) I <| Z1 I (Zz (k := .i64) (a := v4) (b := 1) (c := (IntKind.i64.wrap (v4 + 1))) I I I I) I <| Z1 I (Zh (v := (.int .i64 (IntKind.i64.wrap (v4 + 1)))) I I) I <| Z8 ?_
       exact Zj (st' := ⟨[(0, (.sl 1 (a0.map Zl) false)), (3, (.sl 1 (v2.map Zl) false)), (4, (.vs 4)), (5, (.int .i64 (IntKind.i64.wrap (v4 + 1)))), (6, (.int .i64 v5))], [(4, (.vec 1 (List.map Zb v16)))]⟩) ⟨rfl, rfl, rfl, rfl, rfl, trivial⟩ ⟨rfl, trivial⟩ (J22 (IntKind.i64.wrap (v4 + 1)) h)
      ·have h := hif.2 hc
       refine Zs ?_
       exact Zj (st' := ⟨[(0, (.sl 1 (a0.map Zl) false)), (3, (.sl 1 (v2.map Zl) false)), (4, (.vs 4)), (5, (.int .i64 v4)), (6, (.int .i64 v5))], [(4, (.vec 1 (List.map Zb v16)))]⟩) ⟨rfl, rfl, rfl, rfl, rfl, trivial⟩ ⟨rfl, trivial⟩ (J22 v4 h)
    ·intro N k15 v h IH15 J15
     revert h
     revert v
     intro v14 h
     try dsimp only at h IH15 J15 ⊢
     cases k15 with
     | zero => cases h
     | succ k15 =>
      rw [F23_l15] at h
      refine Ze <| Ze <| Z5 <| Z1 I (Z6 (v := (.int .i64 v14)) I I) I <| Z1 I (Z6 (v := (.int .i64 v5)) I I) I <| Z1 I (st_cmp (k := .i64) (a := v14) (b := v5) (c := (decide (v14 < v5))) I I I I) I <| Z8 <| Za ?_
      have hif := of_if h
      refine Zp I (fun hc => ?_) (fun hc => ?_)
      ·have h := hif.1 hc
       refine Zs <| Za <| Ze ?_
       refine AWp.blockJoin (V := Unit) (lp := fun v => F23_j24 K (F23_l15 K v5 v2 v6 v4 (F23_c17 K v5 v4 (F23_l7 K a0 v2 (F23_c9 K) k7)) k15) v14 = some r) (sh := fun v => ⟨[(0, (.sl 1 (a0.map Zl) false)), (3, (.sl 1 (v2.map Zl) false)), (4, (.vs 4)), (5, (.int .i64 v4)), (6, (.int .i64 v5)), (7, (.int .i64 v14))], [(4, (.vec 1 (List.map Zb (v6.set v5.toNat v4))))]⟩) ?_ ?_
       ·intro v h
        try dsimp only at h ⊢
        unfold F23_j24 at h
        refine Za <| Z5 <| Z1 I (Z6 (v := (.int .i64 v14)) I I) I <| Z1 I (Zz (k := .i64) (a := v14) (b := 1) (c := (IntKind.i64.wrap (v14 + 1))) I I I I) I <| Z1 I (Zh (v := (.int .i64 (IntKind.i64.wrap (v14 + 1)))) I I) I <| Z8 ?_
        exact Zj (st' := ⟨[(0, (.sl 1 (a0.map Zl) false)), (3, (.sl 1 (v2.map Zl) false)), (4, (.vs 4)), (5, (.int .i64 v4)), (6, (.int .i64 v5)), (7, (.int .i64 (IntKind.i64.wrap (v14 + 1))))], [(4, (.vec 1 (List.map Zb (v6.set v5.toNat v4))))]⟩) ⟨rfl, rfl, rfl, rfl, rfl, rfl, trivial⟩ ⟨rfl, trivial⟩ (IH15 _ (IntKind.i64.wrap (v14 + 1)) (Nat.lt_succ_self _) h)
       ·intro J24
        refine Ze <| Z5 <| Z1 I (Z6 (v := (.sl 1 (v2.map Zl) false)) I I) I <| Z1 I (Z6 (v := (.int .i64 v5)) I I) I ?_
        have ⟨hg25, h⟩ := Zi h
        refine Z1 I (st_index (k := .i64) (l := v2) (enc := Zl) (z := []) (n := v5) (cs := [(.sl 1 ((v2.getD v5.toNat []).map Zn) false)]) (full := false) I s27 I I hg25 I) I <| Z1 I (st_loadI (cs := [(.sl 1 ((v2.getD v5.toNat []).map Zn) false)]) (v := (.sl 1 ((v2.getD v5.toNat []).map Zn) false)) I o49 I I) I <| Z1 I (Z6 (v := (.int .i64 v14)) I I) I ?_
        have ⟨hg26, h⟩ := Zi h
        refine Z1 I (st_index (k := .i64) (l := (v2.getD v5.toNat [])) (enc := Zn) (z := false) (n := v14) (cs := [(.bool ((v2.getD v5.toNat []).getD v14.toNat false))]) (full := false) I s49 I I hg26 I) I <| Z1 I (st_loadI (cs := [(.bool ((v2.getD v5.toNat []).getD v14.toNat false))]) (v := (.bool ((v2.getD v5.toNat []).getD v14.toNat false))) I o4 I I) I <| Z1 I (Z6 (v := (.bool ((v2.getD v5.toNat []).getD v14.toNat false))) I I) I ?_
        have hif := of_if h
        refine AOps.split (fun hc => ?_) (fun hc => ?_)
        ·have h := hif.1 hc
         refine Zk I I I I (Z6 (v := (.sl 1 (v2.map Zl) false)) I I) I <| Zk I I I I (Z6 (v := (.int .i64 v14)) I I) I ?_
         have ⟨hg27, h⟩ := Zi h
         refine Zk I I I I (st_index (k := .i64) (l := v2) (enc := Zl) (z := []) (n := v14) (cs := [(.sl 1 ((v2.getD v14.toNat []).map Zn) false)]) (full := false) I s27 I I hg27 I) I <| Zk I I I I (st_loadI (cs := [(.sl 1 ((v2.getD v14.toNat []).map Zn) false)]) (v := (.sl 1 ((v2.getD v14.toNat []).map Zn) false)) I o49 I I) I <| Zk I I I I (Z6 (v := (.int .i64 v5)) I I) I ?_
         have ⟨hg28, h⟩ := Zi h
         refine Zk I I I I (st_index (k := .i64) (l := (v2.getD v14.toNat [])) (enc := Zn) (z := false) (n := v5) (cs := [(.bool ((v2.getD v14.toNat []).getD v5.toNat false))]) (full := false) I s49 I I hg28 I) I <| Zk I I I I (st_loadI (cs := [(.bool ((v2.getD v14.toNat []).getD v5.toNat false))]) (v := (.bool ((v2.getD v14.toNat []).getD v5.toNat false))) I o4 I I) I <| Z1 I (st_pickT (v := (.bool ((v2.getD v14.toNat []).getD v5.toNat false))) I I I) I <| Z8 <| Za ?_
         have hif := of_if h
         refine Zp I (fun hc => ?_) (fun hc => ?_)
         ·have h := hif.1 hc
          refine Ze <| Z5 <| Z1 I (Z6 (v := (.vs 4)) I I) I <| Z1 I (Z6 (v := (.int .i64 v5)) I I) I <| Z1 I (Z6 (v := (.vs 4)) I I) I <| Z1 I (Z6 (v := (.int .i64 v14)) I I) I ?_
          have ⟨hg29, h⟩ := Zi h
          refine Z1 I (st_indexV (k := .i64) (v := (.vs 4)) (n := 4) (off := 0) (len := (v6.set v5.toNat v4).length) (es := (List.map Zb (v6.set v5.toNat v4))) (j := v14) (m := v14.toNat) I s29 I I (vecR_map _ _ _) I hg29 (Nat.zero_add _)) I ?_
          have ⟨hg30, h⟩ := Zi h
          refine Z1 I (st_loadV (l := (v6.set v5.toNat v4)) (enc := Zb) (z := 0) (v := (.int .i64 ((v6.set v5.toNat v4).getD v14.toNat 0))) I o3 I I hg30 I) I ?_
          have ⟨hg31, h⟩ := Zi h
          refine Z1 I (st_indexV (k := .i64) (v := (.vs 4)) (n := 4) (off := 0) (len := (v6.set v5.toNat v4).length) (es := (List.map Zb (v6.set v5.toNat v4))) (j := v5) (m := v5.toNat) I s29 I I (vecR_map _ _ _) I hg31 (Nat.zero_add _)) I ?_
          have ⟨hg32, h⟩ := Zi h
          refine Z1 I (st_storeV (l := (v6.set v5.toNat v4)) (enc := Zb) (z := 0) (a := ((v6.set v5.toNat v4).getD v14.toNat 0)) (v := (.int .i64 ((v6.set v5.toNat v4).getD v14.toNat 0))) sz3 I I hg32 I els_i64 I I I I) I <| Z8 <| Za <| AWp.exit <| At.over I <| At.thru ?_
          exact Zj (st' := ⟨[(0, (.sl 1 (a0.map Zl) false)), (3, (.sl 1 (v2.map Zl) false)), (4, (.vs 4)), (5, (.int .i64 v4)), (6, (.int .i64 v5))], [(4, (.vec 1 (List.map Zb ((v6.set v5.toNat v4).set v5.toNat ((v6.set v5.toNat v4).getD v14.toNat 0)))))]⟩) ⟨rfl, rfl, rfl, rfl, rfl, trivial⟩ ⟨rfl, trivial⟩ (J15 ((v6.set v5.toNat v4).set v5.toNat ((v6.set v5.toNat v4).getD v14.toNat 0)) h)
         ·have h := hif.2 hc
          refine Zs <| At.end ?_
          exact Zj (st' := ⟨[(0, (.sl 1 (a0.map Zl) false)), (3, (.sl 1 (v2.map Zl) false)), (4, (.vs 4)), (5, (.int .i64 v4)), (6, (.int .i64 v5)), (7, (.int .i64 v14))], [(4, (.vec 1 (List.map Zb (v6.set v5.toNat v4))))]⟩) ⟨rfl, rfl, rfl, rfl, rfl, rfl, trivial⟩ ⟨rfl, trivial⟩ (J24 () h)
        ·have h := hif.2 hc
         refine Z7 I I I I I I I <| Z7 I I I I I I I <| Z7 I I I I I I I <| Z7 I I I I I I I <| Z7 I I I I I I I <| Z7 I I I I I I I <| Z7 I I I I I I I <| Z1 I (Zx (v := (.bool false)) I I I) I ?_
         refine Z8 <| Za ?_
         refine Zp (b := false) I (fun hc => ?_) (fun hc => ?_)
         ·cases hc
         refine Zs <| At.end ?_
         exact Zj (st' := ⟨[(0, (.sl 1 (a0.map Zl) false)), (3, (.sl 1 (v2.map Zl) false)), (4, (.vs 4)), (5, (.int .i64 v4)), (6, (.int .i64 v5)), (7, (.int .i64 v14))], [(4, (.vec 1 (List.map Zb (v6.set v5.toNat v4))))]⟩) ⟨rfl, rfl, rfl, rfl, rfl, rfl, trivial⟩ ⟨rfl, trivial⟩ (J24 () h)
      ·have h := hif.2 hc
       refine AWp.exit <| At.thru ?_
       exact Zj (st' := ⟨[(0, (.sl 1 (a0.map Zl) false)), (3, (.sl 1 (v2.map Zl) false)), (4, (.vs 4)), (5, (.int .i64 v4)), (6, (.int .i64 v5))], [(4, (.vec 1 (List.map Zb (v6.set v5.toNat v4))))]⟩) ⟨rfl, rfl, rfl, rfl, rfl, trivial⟩ ⟨rfl, trivial⟩ (J15 (v6.set v5.toNat v4) h)
   ·have h := hif.2 hc
    refine AWp.exit <| At.thru ?_
    exact Zj (st' := ⟨[(4, (.vs 4))], [(4, (.vec 1 (List.map Zb v6)))]⟩) ⟨rfl, trivial⟩ ⟨rfl, trivial⟩ (J7 v6 h)
def F5_j30 (K : Nat) (v29 : Bool) : Option (Bool) :=
 some v29
def F5_c23 (K : Nat) (v6 : Zd) (v8 : (List Int)) (v22 : (List (List Bool))) : Option (Bool) :=
 (F26 K v6).bind fun v26 =>
  (F20 K v26.1).bind fun v28 =>
   (F16 K v22).bind fun v32 =>
    (F27 K v26.1 v32).bind fun v34 =>
     if v34 = true then
      (F18 K v26.2 v8).bind fun v36 =>
       if v36 = true then
        F5_j30 K (!v28.2)
       else
        F5_j30 K false
     else
      F5_j30 K false
def F5_c42 (K : Nat) (b37 : Int → (List (List Bool)) → Option (Bool)) (v19 : Int) (v41 : (List (List Bool))) : Option (Bool) :=
 b37 (IntKind.i64.wrap (v19 + 1)) v41
def F5_j46 (K : Nat) (b44 : Int → (List (List Bool)) → Option (Bool)) (v38 : Int) (v45 : (List (List Bool))) : Option (Bool) :=
 b44 (IntKind.i64.wrap (v38 + 1)) v45
def F5_j52 (K : Nat) (b44 : Int → (List (List Bool)) → Option (Bool)) (v38 : Int) (v51 : (List (List Bool))) : Option (Bool) :=
 F5_j46 K b44 v38 v51
def F5_l40 (K : Nat) (v4 : (List (List Bool))) (v19 : Int) (v8 : (List Int)) (c43 : (List (List Bool)) → Option (Bool)) : Nat → Int → (List (List Bool)) → Option (Bool)
 | 0, _, _ => none
 | k40 + 1, v38, v39 =>
  if (decide (v38 < (v4.length : Int))) = true then
   if (0 : Int) ≤ v19 ∧ v19 < v4.length then
    if (0 : Int) ≤ v38 ∧ v38 < (v4.getD v19.toNat []).length then
     if ((v4.getD v19.toNat []).getD v38.toNat false) = true then
      if (0 : Int) ≤ v19 ∧ v19 < v8.length then
       if (0 : Int) ≤ v38 ∧ v38 < v8.length then
        if ((v8.getD v19.toNat 0) != (v8.getD v38.toNat 0)) = true then
         if (0 : Int) ≤ v19 ∧ v19 < v8.length then
          if (0 : Int) ≤ (v8.getD v19.toNat 0) ∧ (v8.getD v19.toNat 0) < v39.length then
           if (v8.getD v19.toNat 0).toNat < v39.length then
            if (0 : Int) ≤ v38 ∧ v38 < v8.length then
             if (v8.getD v19.toNat 0).toNat < v39.length then
              if (0 : Int) ≤ (v8.getD v38.toNat 0) ∧ (v8.getD v38.toNat 0) < (v39.getD (v8.getD v19.toNat 0).toNat []).length then
               if (v8.getD v19.toNat 0).toNat < v39.length then
                if (v8.getD v38.toNat 0).toNat < (v39.getD (v8.getD v19.toNat 0).toNat []).length then
                 F5_j52 K (F5_l40 K v4 v19 v8 c43 k40) v38 (v39.set (v8.getD v19.toNat 0).toNat ((v39.getD (v8.getD v19.toNat 0).toNat []).set (v8.getD v38.toNat 0).toNat true))
                else none
               else none
              else none
             else none
            else none
           else none
          else none
         else none
        else
         F5_j52 K (F5_l40 K v4 v19 v8 c43 k40) v38 v39
       else none
      else none
     else
      F5_j46 K (F5_l40 K v4 v19 v8 c43 k40) v38 v39
    else none
   else none
  else
   c43 v39
def F5_l21 (K : Nat) (v4 : (List (List Bool))) (v8 : (List Int)) (c24 : (List (List Bool)) → Option (Bool)) : Nat → Int → (List (List Bool)) → Option (Bool)
 | 0, _, _ => none
 | k21 + 1, v19, v20 =>
  if (decide (v19 < (v4.length : Int))) = true then
   F5_l40 K v4 v19 v8 (F5_c42 K (F5_l21 K v4 v8 c24 k21) v19) K 0 v20
  else
   c24 v20
def F5_c15 (K : Nat) (v10 : (List (List Int))) (v4 : (List (List Bool))) (v8 : (List Int)) (v6 : Zd) (v14 : Int) : Option (Bool) :=
 (F25 K (v10.length : Int)).bind fun v18 =>
  if (v14 != (v4.length : Int)) = true then
   some false
  else
   F5_l21 K v4 v8 (F5_c23 K v6 v8) K 0 v18
def F5_c66 (K : Nat) (b61 : Int → Int → Option (Bool)) (v12 : Int) (v65 : Int) : Option (Bool) :=
 b61 v65 (IntKind.i64.wrap (v12 + 1))
def F5_j73 (K : Nat) (b68 : Int → Int → Option (Bool)) (v62 : Int) (v63 : Int) (v72 : Bool) : Option (Bool) :=
 if v72 = true then
  some false
 else
  b68 (IntKind.i64.wrap (v62 + 1)) (IntKind.i64.wrap (v63 + 1))
def F5_l64 (K : Nat) (v12 : Int) (v10 : (List (List Int))) (v4 : (List (List Bool))) (v8 : (List Int)) (c67 : Int → Option (Bool)) : Nat → Int → Int → Option (Bool)
 | 0, _, _ => none
 | k64 + 1, v62, v63 =>
  if (0 : Int) ≤ v12 ∧ v12 < v10.length then
   if (decide (v63 < ((v10.getD v12.toNat []).length : Int))) = true then
    if (0 : Int) ≤ v12 ∧ v12 < v10.length then
     if (0 : Int) ≤ v63 ∧ v63 < (v10.getD v12.toNat []).length then
      if (decide (((v10.getD v12.toNat []).getD v63.toNat 0) < 0)) = true then
       F5_j73 K (F5_l64 K v12 v10 v4 v8 c67 k64) v62 v63 true
      else
       if (decide (((v10.getD v12.toNat []).getD v63.toNat 0) ≥ (v4.length : Int))) = true then
        F5_j73 K (F5_l64 K v12 v10 v4 v8 c67 k64) v62 v63 true
       else
        if (0 : Int) ≤ ((v10.getD v12.toNat []).getD v63.toNat 0) ∧ ((v10.getD v12.toNat []).getD v63.toNat 0) < v8.length then
         if ((v8.getD ((v10.getD v12.toNat []).getD v63.toNat 0).toNat 0) != v12) = true then
          F5_j73 K (F5_l64 K v12 v10 v4 v8 c67 k64) v62 v63 true
         else
          if (decide (v63 > 0)) = true then
           if (0 : Int) ≤ v12 ∧ v12 < v10.length then
            if (0 : Int) ≤ (IntKind.i64.wrap (v63 - 1)) ∧ (IntKind.i64.wrap (v63 - 1)) < (v10.getD v12.toNat []).length then
             F5_j73 K (F5_l64 K v12 v10 v4 v8 c67 k64) v62 v63 (decide (((v10.getD v12.toNat []).getD v63.toNat 0) ≤ ((v10.getD v12.toNat []).getD (IntKind.i64.wrap (v63 - 1)).toNat 0)))
            else none
           else none
          else
           F5_j73 K (F5_l64 K v12 v10 v4 v8 c67 k64) v62 v63 false
        else none
     else none
    else none
   else
    c67 v62
  else none
def F5_l13 (K : Nat) (v10 : (List (List Int))) (v4 : (List (List Bool))) (v8 : (List Int)) (c16 : Int → Option (Bool)) : Nat → Int → Int → Option (Bool)
 | 0, _, _ => none
 | k13 + 1, v11, v12 =>
  if (decide (v12 < (v10.length : Int))) = true then
   F5_l64 K v12 v10 v4 v8 (F5_c66 K (F5_l13 K v10 v4 v8 c16 k13) v12) K v11 0
  else
   c16 v11
def F5 (K : Nat) (a0 : Z11) : Option (Bool) :=
 (F13 K).bind fun v2 =>
  if (!v2) = true then
   some false
  else
   (F14 K a0).bind fun v4 =>
    (F16 K v4).bind fun v6 =>
     (F23 K v4).bind fun v8 =>
      (F24 K v6).bind fun v10 =>
       F5_l13 K v10 v4 v8 (F5_c15 K v10 v4 v8 v6) K 0 0
theorem F5_ok (K : Nat) (a0 : Z11) (r : Bool) (h : F5 K a0 = some r) : ACall P 5 ⟨[(Zo a0)], [], (.bool r), [], []⟩ := by
 refine acall_of Try.func5 Try.results5 rfl Try.ntmps5 rfl rfl rfl ?_
 intro E Q hP hN hro hret
 obtain ⟨P', nt', w0, F0, p0, S0, β0, ro0⟩ := E
 simp only at hP hN
 subst hP hN
 dsimp only [argT]
 unfold F5 at h
 refine Ze <| Z5 <| Z1 I (st_box (v := (Zo a0)) (cs := (Zo a0).cells) I I I I I) I <| Z1 I (Zh (v := (.bool false)) I I) I <| Z8 <| Za <| Ze <| Ze ?_
 refine Z5 ?_
 have ⟨v2, hv2, h⟩ := of_bind h
 refine Z1 I (st_call0 (ar := []) (caps := []) Try.call13 (F13_ok K v2 hv2) I I trivial I) I <| Z1 I (st_not (b := v2) I I) I <| Z8 <| Za ?_
 have hif := of_if h
 refine Zp I (fun hc => ?_) (fun hc => ?_)
 ·have h := hif.1 hc
  refine Ze <| Z5 <| Z1 I (Zh (v := (.bool false)) I I) I <| Z8 <| Za <| AWp.ret <| At.thruR ?_
  have h := Option.some.inj h
  subst h
  refine (hret _ ?_).1
  exact ⟨[(.bool false)], ⟨rfl, trivial⟩, rfl, trivial⟩
 ·have h := hif.2 hc
  refine Zs <| Za <| Ze <| Z5 <| Z1 I (st_loadPA (cs := (Zo a0).cells) (vs := (Zo a0).cells) I a24 I I I I) I ?_
  have ⟨v4, hv4, h⟩ := of_bind h
  refine Z1 I (st_call0 (ar := [(Zo a0)]) (caps := []) Try.call14 (F14_ok K a0 v4 hv4) I I ⟨rfl, trivial⟩ I) I <| Z1 I (Zh (v := (.sl 1 (v4.map Zl) false)) I I) I <| Z8 <| Za <| Ze <| Z5 <| Z1 I (Z6 (v := (.sl 1 (v4.map Zl) false)) I I) I ?_
  have ⟨v6, hv6, h⟩ := of_bind h
  refine Z1 I (st_call0 (ar := [(.sl 1 (v4.map Zl) false)]) (caps := []) Try.call16 (F16_ok K v4 v6 hv6) I I ⟨rfl, trivial⟩ I) I <| Z1 I (Z6 (v := (.sl 1 (v4.map Zl) false)) I I) I ?_
  have ⟨v8, hv8, h⟩ := of_bind h
  refine Z1 I (st_call0 (ar := [(.sl 1 (v4.map Zl) false)]) (caps := []) Try.call23 (F23_ok K v4 v8 hv8) I I ⟨rfl, trivial⟩ I) I <| Z1 I (st_alloc (cs := [(.int .i64 0), (.sl 2 [] false)]) I z35 I I I) I <| Z1 I (st_storeP (cs := [(.int .i64 0), (.sl 2 [] false)]) (vs := (Z3 v6).cells) (ds := (Z3 v6).cells) (v := (Z3 v6)) sz35 I I I I I I I I) I <| Z1 I (Zh (v := (.sl 1 (v8.map Zb) false)) I I) I <| Z8 <| Za <| Ze <| Z5 ?_
  refine Z1 I (st_loadPA (cs := (Z3 v6).cells) (vs := (Z3 v6).cells) I a35 I I I I) I ?_
  have ⟨v10, hv10, h⟩ := of_bind h
  refine Z1 I (st_call0 (ar := [(Z3 v6)]) (caps := []) Try.call24 (F24_ok K v6 v10 hv10) I I ⟨rfl, trivial⟩ I) I <| Z1 I (Zh (v := (.sl 1 (v10.map Zg) false)) I I) I <| Z8 <| Za <| Ze <| Z5 <| Z1 I (Zh (v := (.int .i64 0)) I I) I <| Z8 ?_
  refine Za <| Ze <| Ze <| Z5 <| Z1 I (Zh (v := (.int .i64 0)) I I) I <| Z8 <| Za <| Z10 (st' := ⟨[(3, (.sl 1 (v4.map Zl) false)), (4, (.ptr 4 0)), (5, (.sl 1 (v8.map Zb) false)), (6, (.sl 1 (v10.map Zg) false)), (7, (.int .i64 0)), (8, (.int .i64 0))], [(4, (.box (Z3 v6).cells))]⟩) ⟨rfl, rfl, rfl, rfl, rfl, rfl, trivial⟩ ⟨rfl, trivial⟩ ?_
  refine Zq (V := Int × Int) (X := Int) (lp := fun k v => F5_l13 K v10 v4 v8 (F5_c15 K v10 v4 v8 v6) k v.1 v.2 = some r) (sh := fun v => ⟨[(3, (.sl 1 (v4.map Zl) false)), (4, (.ptr 4 0)), (5, (.sl 1 (v8.map Zb) false)), (6, (.sl 1 (v10.map Zg) false)), (7, (.int .i64 v.1)), (8, (.int .i64 v.2))], [(4, (.box (Z3 v6).cells))]⟩) (x := fun v => F5_c15 K v10 v4 v8 v6 v = some r) (shx := fun v => ⟨[(3, (.sl 1 (v4.map Zl) false)), (4, (.ptr 4 0)), (5, (.sl 1 (v8.map Zb) false)), (6, (.sl 1 (v10.map Zg) false)), (7, (.int .i64 v))], [(4, (.box (Z3 v6).cells))]⟩) (k := K) (v := (0, 0)) h ?_ ?_
  ·intro v h
   revert h
   revert v
   intro v14 h
   try dsimp only at h ⊢
   unfold F5_c15 at h
   refine Za <| Ze <| Z5 <| Z1 I (Z6 (v := (.sl 1 (v10.map Zg) false)) I I) I <| Z1 I (stx_len (l := v10) (enc := Zg) I s46 I) I ?_
   have ⟨v18, hv18, h⟩ := of_bind h
   refine Z1 I (st_call (d := some 86) (c := ⟨[(.int .i64 (v10.length : Int))] ++ [], [], .vs 86, [(86, (.tab (List.map (List.map Zn) v18) none))], [86]⟩) (ar := [(.int .i64 (v10.length : Int))]) (caps := []) (news := [86]) (forg := []) Try.call25 ((F25_ok K (v10.length : Int) v18 hv18).sw 2 86) I I ⟨rfl, trivial⟩ I trivial I) I <| Z1 I (Zh (v := (.vs 86)) I I) I <| Z8 <| Za <| Ze <| Ze <| Z5 <| Z1 I (Z6 (v := (.int .i64 v14)) I I) I ?_
   refine Z1 I (Z6 (v := (.sl 1 (v4.map Zl) false)) I I) I <| Z1 I (stx_len (l := v4) (enc := Zl) I s27 I) I <| Z1 I (st_cmp (k := .i64) (a := v14) (b := (v4.length : Int)) (c := (v14 != (v4.length : Int))) I I I I) I <| Z8 <| Za ?_
   have hif := of_if h
   refine Zp I (fun hc => ?_) (fun hc => ?_)
   ·have h := hif.1 hc
    refine Ze <| Z5 <| Z1 I (Zh (v := (.bool false)) I I) I <| Z8 <| Za <| AWp.ret <| At.thruR ?_
    have h := Option.some.inj h
    subst h
    refine (hret _ ?_).1
    exact ⟨[(.bool false)], ⟨rfl, trivial⟩, rfl, trivial⟩
   ·have h := hif.2 hc
    refine Zs <| Za <| Ze <| Ze <| Z5 <| Z1 I (Zh (v := (.int .i64 0)) I I) I <| Z8 <| Za ?_
    refine AWp.ghost (st' := ⟨[(3, (.sl 1 (v4.map Zl) false)), (4, (.ptr 4 0)), (5, (.sl 1 (v8.map Zb) false)), (11, (.vs 11)), (12, (.int .i64 0))], [(4, (.box (Z3 v6).cells)), (11, (.tab (List.map (List.map Zn) v18) none))]⟩) (fun a w h => (Zr ⟨[(3, (.sl 1 (v4.map Zl) false)), (4, (.ptr 4 0)), (5, (.sl 1 (v8.map Zb) false)), (11, (.vs 11)), (12, (.int .i64 0))], [(4, (.box (Z3 v6).cells)), (11, (.tab (List.map (List.map Zn) v18) none))]⟩ (ghost_sw (a := 86) (b := 11) I I a w (Zr ⟨[(3, (.sl 1 (v4.map Zl) false)), (4, (.ptr 4 0)), (5, (.sl 1 (v8.map Zb) false)), (11, (.vs 86)), (12, (.int .i64 0))], [(4, (.box (Z3 v6).cells)), (86, (.tab (List.map (List.map Zn) v18) none))]⟩ h ⟨rfl, rfl, rfl, rfl, rfl, trivial⟩ ⟨rfl, rfl, trivial⟩)) ⟨rfl, rfl, rfl, rfl, rfl, trivial⟩ ⟨rfl, rfl, trivial⟩)) <| Z10 (st' := ⟨[(3, (.sl 1 (v4.map Zl) false)), (4, (.ptr 4 0)), (5, (.sl 1 (v8.map Zb) false)), (11, (.vs 11)), (12, (.int .i64 0))], [(4, (.box (Z3 v6).cells)), (11, (.tab (List.map (List.map Zn) v18) none))]⟩) ⟨rfl, rfl, rfl, rfl, rfl, trivial⟩ ⟨rfl, rfl, trivial⟩ ?_
    refine Zq (V := Int × (List (List Bool))) (X := (List (List Bool))) (lp := fun k v => F5_l21 K v4 v8 (F5_c23 K v6 v8) k v.1 v.2 = some r) (sh := fun v => ⟨[(3, (.sl 1 (v4.map Zl) false)), (4, (.ptr 4 0)), (5, (.sl 1 (v8.map Zb) false)), (11, (.vs 11)), (12, (.int .i64 v.1))], [(4, (.box (Z3 v6).cells)), (11, (.tab (List.map (List.map Zn) v.2) none))]⟩) (x := fun v => F5_c23 K v6 v8 v = some r) (shx := fun v => ⟨[(4, (.ptr 4 0)), (5, (.sl 1 (v8.map Zb) false)), (11, (.vs 11))], [(4, (.box (Z3 v6).cells)), (11, (.tab (List.map (List.map Zn) v) none))]⟩) (k := K) (v := (0, v18)) h ?_ ?_
    ·intro v h
     revert h
     revert v
     intro v22 h
     try dsimp only at h ⊢
     unfold F5_c23 at h
     refine Za <| Ze <| Z5 <| Z1 I (st_loadPA (cs := (Z3 v6).cells) (vs := (Z3 v6).cells) I a35 I I I I) I ?_
     have ⟨v26, hv26, h⟩ := of_bind h
     refine Z1 I (st_call0 (ar := [(Z3 v6)]) (caps := []) Try.call26 (F26_ok K v6 v26 hv26) I I ⟨rfl, trivial⟩ I) I <| Z1 I (Z6 (v := (.tup [(Z3 v26.1), (.sl 1 (v26.2.map Zb) false)])) I I) I <| Z1 I (st_extract (vs := [(Z3 v26.1), (.sl 1 (v26.2.map Zb) false)]) (v := (Z3 v26.1)) I I I) I <| Z1 I (st_extract (vs := [(Z3 v26.1), (.sl 1 (v26.2.map Zb) false)]) (v := (.sl 1 (v26.2.map Zb) false)) I I I) I <| Z1 I (st_alloc (cs := [(.int .i64 0), (.sl 2 [] false)]) I z35 I I I) I <| Z1 I (st_storeP (cs := [(.int .i64 0), (.sl 2 [] false)]) (vs := (Z3 v26.1).cells) (ds := (Z3 v26.1).cells) (v := (Z3 v26.1)) sz35 I I I I I I I I) I <| Z1 I (Zh (v := (.sl 1 (v26.2.map Zb) false)) I I) I <| Z8 ?_
     refine Za <| Ze <| Z5 <| Z1 I (st_loadPA (cs := (Z3 v26.1).cells) (vs := (Z3 v26.1).cells) I a35 I I I I) I ?_
     have ⟨v28, hv28, h⟩ := of_bind h
     refine Z1 I (st_call0 (ar := [(Z3 v26.1)]) (caps := []) Try.call20 (F20_ok K v26.1 v28 hv28) I I ⟨rfl, trivial⟩ I) I <| Z1 I (Z6 (v := (.tup [(.sl 1 (v28.1.map Zb) false), (.bool v28.2)])) I I) I <| Z1 I (st_extract (vs := [(.sl 1 (v28.1.map Zb) false), (.bool v28.2)]) (v := (.sl 1 (v28.1.map Zb) false)) I I I) I <| Z1 I (st_extract (vs := [(.sl 1 (v28.1.map Zb) false), (.bool v28.2)]) (v := (.bool v28.2)) I I I) I <| Z1 I (Zh (v := (.sl 1 (v28.1.map Zb) false)) I I) I <| Z1 I (Zh (v := (.bool v28.2)) I I) I <| Z8 <| Za ?_
     refine Ze ?_
     refine AWp.join (V := Bool) (lp := fun v => F5_j30 K v = some r) (sh := fun v => ⟨[(2, (.bool v))], []⟩) ?_ ?_
     ·intro v h
      revert h
      revert v
      intro v29 h
      try dsimp only at h ⊢
      unfold F5_j30 at h
      refine Za <| AWp.ret ?_
      have h := Option.some.inj h
      subst h
      refine (hret _ ?_).1
      exact ⟨[(.bool v29)], ⟨rfl, trivial⟩, rfl, trivial⟩
     ·intro J30
      refine AWp.ghost (st' := ⟨[(5, (.sl 1 (v8.map Zb) false)), (11, (.sl 1 (v22.map Zl) false)), (14, (.ptr 14 0)), (15, (.sl 1 (v26.2.map Zb) false)), (17, (.bool v28.2))], [(14, (.box (Z3 v26.1).cells))]⟩) (fun a w h => (Zr ⟨[(5, (.sl 1 (v8.map Zb) false)), (11, (.sl 1 (v22.map Zl) false)), (14, (.ptr 14 0)), (15, (.sl 1 (v26.2.map Zb) false)), (17, (.bool v28.2))], [(14, (.box (Z3 v26.1).cells))]⟩ (ghost_freezeT (m := 11) (enc := Zn) (l := v22) a w (Zr ⟨[(5, (.sl 1 (v8.map Zb) false)), (11, (.vs 11)), (14, (.ptr 14 0)), (15, (.sl 1 (v26.2.map Zb) false)), (17, (.bool v28.2))], [(11, (.tab (List.map (List.map Zn) v22) none)), (14, (.box (Z3 v26.1).cells))]⟩ h ⟨rfl, rfl, rfl, rfl, rfl, trivial⟩ ⟨rfl, rfl, trivial⟩)) ⟨rfl, rfl, rfl, rfl, rfl, trivial⟩ ⟨rfl, trivial⟩)) <| AWp.regionD mixed <| Zf 0 I (st_loadPA (cs := (Z3 v26.1).cells) (vs := (Z3 v26.1).cells) I a35 I I I I) <| Zf 1 I (Z6 (v := (.sl 1 (v22.map Zl) false)) I I) ?_
      have ⟨v32, hv32, h⟩ := of_bind h
      refine Zf 2 I (st_call0 (ar := [(.sl 1 (v22.map Zl) false)]) (caps := []) Try.call16 (F16_ok K v22 v32 hv32) I I ⟨rfl, trivial⟩ I) ?_
      have ⟨v34, hv34, h⟩ := of_bind h
      refine Zf 3 I (st_call0 (ar := [(Z3 v26.1), (Z3 v32)]) (caps := []) Try.call27 (F27_ok K v26.1 v32 v34 hv34) I I ⟨rfl, rfl, trivial⟩ I) <| Zf 4 I (Z6 (v := (.bool v34)) I I) ?_
      have hif := of_if h
      refine AOpsD.split (fun hc => ?_) (fun hc => ?_)
      ·have h := hif.1 hc
       refine AOpsD.consT 5 I I I I (Z6 (v := (.sl 1 (v26.2.map Zb) false)) I I) <| AOpsD.consT 6 I I I I (Z6 (v := (.sl 1 (v8.map Zb) false)) I I) ?_
       have ⟨v36, hv36, h⟩ := of_bind h
       refine AOpsD.consT 7 I I I I (st_call0 (ar := [(.sl 1 (v26.2.map Zb) false), (.sl 1 (v8.map Zb) false)]) (caps := []) Try.call18 (F18_ok K v26.2 v8 v36 hv36) I I ⟨rfl, rfl, trivial⟩ I) <| Zf 8 I (st_pickT (v := (.bool v36)) I I I) <| Zf 9 I (Z6 (v := (.bool v36)) I I) ?_
       have hif := of_if h
       refine AOpsD.split (fun hc => ?_) (fun hc => ?_)
       ·have h := hif.1 hc
        refine AOpsD.consT 10 I I I I (Z6 (v := (.bool v28.2)) I I) <| AOpsD.consT 11 I I I I (st_not (b := v28.2) I I) <| Zf 12 I (st_pickT (v := (.bool (!v28.2))) I I I) <| Zf 13 I (Zh (v := (.bool (!v28.2))) I I) <| AOpsD.nil (by kernel_rfl) I ?_
        exact Zj (st' := ⟨[(2, (.bool (!v28.2)))], []⟩) ⟨rfl, trivial⟩ trivial (J30 (!v28.2) h)
       ·have h := hif.2 hc
        refine AOpsD.consF 10 I I I I I I I <| AOpsD.consF 11 I I I I I I I <| Zf 12 I (Zx (v := (.bool false)) I I I) <| Zf 13 I (Zh (v := (.bool false)) I I) <| AOpsD.nil (by kernel_rfl) I ?_
        exact Zj (st' := ⟨[(2, (.bool false))], []⟩) ⟨rfl, trivial⟩ trivial (J30 false h)
      ·have h := hif.2 hc
       refine AOpsD.consF 5 I I I I I I I <| AOpsD.consF 6 I I I I I I I <| AOpsD.consF 7 I I I I I I I <| Zf 8 I (Zx (v := (.bool false)) I I I) <| Zf 9 I (Z6 (v := (.bool false)) I I) <| AOpsD.consF 10 I I I I I I I <| AOpsD.consF 11 I I I I I I I <| Zf 12 I (Zx (v := (.bool false)) I I I) ?_
       refine Zf 13 I (Zh (v := (.bool false)) I I) <| AOpsD.nil (by kernel_rfl) I ?_
       exact Zj (st' := ⟨[(2, (.bool false))], []⟩) ⟨rfl, trivial⟩ trivial (J30 false h)
    ·intro N k21 v h IH21 J21
     obtain ⟨v19, v20⟩ := v
     try dsimp only at h IH21 J21 ⊢
     cases k21 with
     | zero => cases h
     | succ k21 =>
      rw [F5_l21] at h
      refine Ze <| Ze <| Z5 <| Z1 I (Z6 (v := (.int .i64 v19)) I I) I <| Z1 I (Z6 (v := (.sl 1 (v4.map Zl) false)) I I) I <| Z1 I (stx_len (l := v4) (enc := Zl) I s27 I) I <| Z1 I (st_cmp (k := .i64) (a := v19) (b := (v4.length : Int)) (c := (decide (v19 < (v4.length : Int)))) I I I I) I <| Z8 ?_
      refine Za ?_
      have hif := of_if h
      refine Zp I (fun hc => ?_) (fun hc => ?_)
      ·have h := hif.1 hc
       refine Zs <| Za <| Ze <| AWp.block <| Ze <| Z5 <| Z1 I (Zh (v := (.int .i64 0)) I I) I <| Z8 ?_
       refine Za <| Z10 (st' := ⟨[(3, (.sl 1 (v4.map Zl) false)), (4, (.ptr 4 0)), (5, (.sl 1 (v8.map Zb) false)), (11, (.vs 11)), (12, (.int .i64 v19)), (13, (.int .i64 0))], [(4, (.box (Z3 v6).cells)), (11, (.tab (List.map (List.map Zn) v20) none))]⟩) ⟨rfl, rfl, rfl, rfl, rfl, rfl, trivial⟩ ⟨rfl, rfl, trivial⟩ ?_
       refine Zq (V := Int × (List (List Bool))) (X := (List (List Bool))) (lp := fun k v => F5_l40 K v4 v19 v8 (F5_c42 K (F5_l21 K v4 v8 (F5_c23 K v6 v8) k21) v19) k v.1 v.2 = some r) (sh := fun v => ⟨[(3, (.sl 1 (v4.map Zl) false)), (4, (.ptr 4 0)), (5, (.sl 1 (v8.map Zb) false)), (11, (.vs 11)), (12, (.int .i64 v19)), (13, (.int .i64 v.1))], [(4, (.box (Z3 v6).cells)), (11, (.tab (List.map (List.map Zn) v.2) none))]⟩) (x := fun v => F5_c42 K (F5_l21 K v4 v8 (F5_c23 K v6 v8) k21) v19 v = some r) (shx := fun v => ⟨[(3, (.sl 1 (v4.map Zl) false)), (4, (.ptr 4 0)), (5, (.sl 1 (v8.map Zb) false)), (11, (.vs 11)), (12, (.int .i64 v19))], [(4, (.box (Z3 v6).cells)), (11, (.tab (List.map (List.map Zn) v) none))]⟩) (k := K) (v := (0, v20)) h ?_ ?_
       ·intro v h
        revert h
        revert v
        intro v41 h
        try dsimp only at h ⊢
        unfold F5_c42 at h
        refine At.end <| Za <| Z5 <| Z1 I (Z6 (v := (.int .i64 v19)) I I) I <| Z1 I (Zz (k := .i64) (a := v19) (b := 1) (c := (IntKind.i64.wrap (v19 + 1))) I I I I) I <| Z1 I (Zh (v := (.int .i64 (IntKind.i64.wrap (v19 + 1)))) I I) I <| Z8 ?_
        exact Zj (st' := ⟨[(3, (.sl 1 (v4.map Zl) false)), (4, (.ptr 4 0)), (5, (.sl 1 (v8.map Zb) false)), (11, (.vs 11)), (12, (.int .i64 (IntKind.i64.wrap (v19 + 1))))], [(4, (.box (Z3 v6).cells)), (11, (.tab (List.map (List.map Zn) v41) none))]⟩) ⟨rfl, rfl, rfl, rfl, rfl, trivial⟩ ⟨rfl, rfl, trivial⟩ (IH21 _ ((IntKind.i64.wrap (v19 + 1)), v41) (Nat.lt_succ_self _) h)
       ·intro N k40 v h IH40 J40
        obtain ⟨v38, v39⟩ := v
        try dsimp only at h IH40 J40 ⊢
        cases k40 with
        | zero => cases h
        | succ k40 =>
         rw [F5_l40] at h
         refine Ze <| Ze <| Z5 <| Z1 I (Z6 (v := (.int .i64 v38)) I I) I <| Z1 I (Z6 (v := (.sl 1 (v4.map Zl) false)) I I) I <| Z1 I (stx_len (l := v4) (enc := Zl) I s27 I) I <| Z1 I (st_cmp (k := .i64) (a := v38) (b := (v4.length : Int)) (c := (decide (v38 < (v4.length : Int)))) I I I I) I <| Z8 ?_
         refine Za ?_
         have hif := of_if h
         refine Zp I (fun hc => ?_) (fun hc => ?_)
         ·have h := hif.1 hc
          refine Zs <| Za <| Ze ?_
          refine AWp.blockJoin (V := (List (List Bool))) (lp := fun v => F5_j46 K (F5_l40 K v4 v19 v8 (F5_c42 K (F5_l21 K v4 v8 (F5_c23 K v6 v8) k21) v19) k40) v38 v = some r) (sh := fun v => ⟨[(3, (.sl 1 (v4.map Zl) false)), (4, (.ptr 4 0)), (5, (.sl 1 (v8.map Zb) false)), (11, (.vs 11)), (12, (.int .i64 v19)), (13, (.int .i64 v38))], [(4, (.box (Z3 v6).cells)), (11, (.tab (List.map (List.map Zn) v) none))]⟩) ?_ ?_
          ·intro v h
           revert h
           revert v
           intro v45 h
           try dsimp only at h ⊢
           unfold F5_j46 at h
           refine Za <| Z5 <| Z1 I (Z6 (v := (.int .i64 v38)) I I) I <| Z1 I (Zz (k := .i64) (a := v38) (b := 1) (c := (IntKind.i64.wrap (v38 + 1))) I I I I) I <| Z1 I (Zh (v := (.int .i64 (IntKind.i64.wrap (v38 + 1)))) I I) I <| Z8 ?_
           exact Zj (st' := ⟨[(3, (.sl 1 (v4.map Zl) false)), (4, (.ptr 4 0)), (5, (.sl 1 (v8.map Zb) false)), (11, (.vs 11)), (12, (.int .i64 v19)), (13, (.int .i64 (IntKind.i64.wrap (v38 + 1))))], [(4, (.box (Z3 v6).cells)), (11, (.tab (List.map (List.map Zn) v45) none))]⟩) ⟨rfl, rfl, rfl, rfl, rfl, rfl, trivial⟩ ⟨rfl, rfl, trivial⟩ (IH40 _ ((IntKind.i64.wrap (v38 + 1)), v45) (Nat.lt_succ_self _) h)
          ·intro J46
           refine Ze <| AWp.regionD mixed <| Zf 0 I (Z6 (v := (.sl 1 (v4.map Zl) false)) I I) <| Zf 1 I (Z6 (v := (.int .i64 v19)) I I) ?_
           have ⟨hg47, h⟩ := Zi h
           refine Zf 2 I (st_index (k := .i64) (l := v4) (enc := Zl) (z := []) (n := v19) (cs := [(.sl 1 ((v4.getD v19.toNat []).map Zn) false)]) (full := false) I s27 I I hg47 I) <| Zf 3 I (st_loadI (cs := [(.sl 1 ((v4.getD v19.toNat []).map Zn) false)]) (v := (.sl 1 ((v4.getD v19.toNat []).map Zn) false)) I o49 I I) <| Zf 4 I (Z6 (v := (.int .i64 v38)) I I) ?_
           have ⟨hg48, h⟩ := Zi h
           refine Zf 5 I (st_index (k := .i64) (l := (v4.getD v19.toNat [])) (enc := Zn) (z := false) (n := v38) (cs := [(.bool ((v4.getD v19.toNat []).getD v38.toNat false))]) (full := false) I s49 I I hg48 I) <| Zf 6 I (st_loadI (cs := [(.bool ((v4.getD v19.toNat []).getD v38.toNat false))]) (v := (.bool ((v4.getD v19.toNat []).getD v38.toNat false))) I o4 I I) <| Zf 7 I (Z6 (v := (.bool ((v4.getD v19.toNat []).getD v38.toNat false))) I I) ?_
           have hif := of_if h
           refine AOpsD.split (fun hc => ?_) (fun hc => ?_)
           ·have h := hif.1 hc
            refine AOpsD.consT 8 I I I I (Z6 (v := (.sl 1 (v8.map Zb) false)) I I) <| AOpsD.consT 9 I I I I (Z6 (v := (.int .i64 v19)) I I) ?_
            have ⟨hg49, h⟩ := Zi h
            refine AOpsD.consT 10 I I I I (st_index (k := .i64) (l := v8) (enc := Zb) (z := 0) (n := v19) (cs := [(.int .i64 (v8.getD v19.toNat 0))]) (full := false) I s29 I I hg49 I) <| AOpsD.consT 11 I I I I (st_loadI (cs := [(.int .i64 (v8.getD v19.toNat 0))]) (v := (.int .i64 (v8.getD v19.toNat 0))) I o3 I I) <| AOpsD.consT 12 I I I I (Z6 (v := (.sl 1 (v8.map Zb) false)) I I) <| AOpsD.consT 13 I I I I (Z6 (v := (.int .i64 v38)) I I) ?_
            have ⟨hg50, h⟩ := Zi h
            refine AOpsD.consT 14 I I I I (st_index (k := .i64) (l := v8) (enc := Zb) (z := 0) (n := v38) (cs := [(.int .i64 (v8.getD v38.toNat 0))]) (full := false) I s29 I I hg50 I) <| AOpsD.consT 15 I I I I (st_loadI (cs := [(.int .i64 (v8.getD v38.toNat 0))]) (v := (.int .i64 (v8.getD v38.toNat 0))) I o3 I I) <| AOpsD.consT 16 I I I I (st_cmp (k := .i64) (a := (v8.getD v19.toNat 0)) (b := (v8.getD v38.toNat 0)) (c := ((v8.getD v19.toNat 0) != (v8.getD v38.toNat 0))) I I I I) <| Zf 17 I (st_pickT (v := (.bool ((v8.getD v19.toNat 0) != (v8.getD v38.toNat 0)))) I I I) <| AOpsD.nil (by kernel_rfl) I <| Za ?_
            refine AWp.join (V := (List (List Bool))) (lp := fun v => F5_j52 K (F5_l40 K v4 v19 v8 (F5_c42 K (F5_l21 K v4 v8 (F5_c23 K v6 v8) k21) v19) k40) v38 v = some r) (sh := fun v => ⟨[(3, (.sl 1 (v4.map Zl) false)), (4, (.ptr 4 0)), (5, (.sl 1 (v8.map Zb) false)), (11, (.vs 11)), (12, (.int .i64 v19)), (13, (.int .i64 v38))], [(4, (.box (Z3 v6).cells)), (11, (.tab (List.map (List.map Zn) v) none))]⟩) ?_ ?_
            ·intro v h
             revert h
             revert v
             intro v51 h
             try dsimp only at h ⊢
             unfold F5_j52 at h
             refine At.end ?_
             exact Zj (st' := ⟨[(3, (.sl 1 (v4.map Zl) false)), (4, (.ptr 4 0)), (5, (.sl 1 (v8.map Zb) false)), (11, (.vs 11)), (12, (.int .i64 v19)), (13, (.int .i64 v38))], [(4, (.box (Z3 v6).cells)), (11, (.tab (List.map (List.map Zn) v51) none))]⟩) ⟨rfl, rfl, rfl, rfl, rfl, rfl, trivial⟩ ⟨rfl, rfl, trivial⟩ (J46 v51 h)
            ·intro J52
             have hif := of_if h
             refine Zp I (fun hc => ?_) (fun hc => ?_)
             ·have h := hif.1 hc
              refine AWp.regionD mixed <| Zf 0 I (Z6 (v := (.vs 11)) I I) <| Zf 1 I (Z6 (v := (.sl 1 (v8.map Zb) false)) I I) <| Zf 2 I (Z6 (v := (.int .i64 v19)) I I) ?_
              have ⟨hg53, h⟩ := Zi h
              refine Zf 3 I (st_index (k := .i64) (l := v8) (enc := Zb) (z := 0) (n := v19) (cs := [(.int .i64 (v8.getD v19.toNat 0))]) (full := false) I s29 I I hg53 I) <| Zf 4 I (st_loadI (cs := [(.int .i64 (v8.getD v19.toNat 0))]) (v := (.int .i64 (v8.getD v19.toNat 0))) I o3 I I) ?_
              have ⟨hg54, h⟩ := Zi h
              refine Zf 5 I (st_indexT (enc := Zn) (l := v39) (k := .i64) (j := (v8.getD v19.toNat 0)) (m := (v8.getD v19.toNat 0).toNat) I s27 I I I hg54 I) ?_
              have ⟨hg55, h⟩ := Zi h
              refine Zf 6 I (st_loadT (enc := Zn) (l := v39) I o49 I I hg55) <| Zf 7 I (Z6 (v := (.sl 1 (v8.map Zb) false)) I I) <| Zf 8 I (Z6 (v := (.int .i64 v38)) I I) ?_
              have ⟨hg56, h⟩ := Zi h
              refine Zf 9 I (st_index (k := .i64) (l := v8) (enc := Zb) (z := 0) (n := v38) (cs := [(.int .i64 (v8.getD v38.toNat 0))]) (full := false) I s29 I I hg56 I) <| Zf 10 I (st_loadI (cs := [(.int .i64 (v8.getD v38.toNat 0))]) (v := (.int .i64 (v8.getD v38.toNat 0))) I o3 I I) ?_
              have ⟨hg57, h⟩ := Zi h
              have ⟨hg58, h⟩ := Zi h
              refine Zf 11 I (st_indexTR (enc := Zn) (l := v39) (k := .i64) (j := (v8.getD v38.toNat 0)) (m := (v8.getD v38.toNat 0).toNat) I s49 I I I hg57 hg58 I) ?_
              have ⟨hg59, h⟩ := Zi h
              have ⟨hg60, h⟩ := Zi h
              refine Zf 12 I (st_storeTP (enc := Zn) (l := v39) (a := true) (v := (.bool true)) sz4 I I hg59 hg60 I I I I) <| AOpsD.nil (by kernel_rfl) I ?_
              exact Zj (st' := ⟨[(3, (.sl 1 (v4.map Zl) false)), (4, (.ptr 4 0)), (5, (.sl 1 (v8.map Zb) false)), (11, (.vs 11)), (12, (.int .i64 v19)), (13, (.int .i64 v38))], [(4, (.box (Z3 v6).cells)), (11, (.tab (List.map (List.map Zn) (v39.set (v8.getD v19.toNat 0).toNat ((v39.getD (v8.getD v19.toNat 0).toNat []).set (v8.getD v38.toNat 0).toNat true))) none))]⟩) ⟨rfl, rfl, rfl, rfl, rfl, rfl, trivial⟩ ⟨rfl, rfl, trivial⟩ (J52 (v39.set (v8.getD v19.toNat 0).toNat ((v39.getD (v8.getD v19.toNat 0).toNat []).set (v8.getD v38.toNat 0).toNat true)) h)
             ·have h := hif.2 hc
              refine Zs ?_
              exact Zj (st' := ⟨[(3, (.sl 1 (v4.map Zl) false)), (4, (.ptr 4 0)), (5, (.sl 1 (v8.map Zb) false)), (11, (.vs 11)), (12, (.int .i64 v19)), (13, (.int .i64 v38))], [(4, (.box (Z3 v6).cells)), (11, (.tab (List.map (List.map Zn) v39) none))]⟩) ⟨rfl, rfl, rfl, rfl, rfl, rfl, trivial⟩ ⟨rfl, rfl, trivial⟩ (J52 v39 h)
           ·have h := hif.2 hc
            refine AOpsD.consF 8 I I I I I I I <| AOpsD.consF 9 I I I I I I I <| AOpsD.consF 10 I I I I I I I <| AOpsD.consF 11 I I I I I I I <| AOpsD.consF 12 I I I I I I I <| AOpsD.consF 13 I I I I I I I <| AOpsD.consF 14 I I I I I I I <| AOpsD.consF 15 I I I I I I I ?_
            refine AOpsD.consF 16 I I I I I I I <| Zf 17 I (Zx (v := (.bool false)) I I I) <| AOpsD.nil (by kernel_rfl) I <| Za ?_
            refine Zp (b := false) I (fun hc => ?_) (fun hc => ?_)
            ·cases hc
            refine Zs <| At.end ?_
            exact Zj (st' := ⟨[(3, (.sl 1 (v4.map Zl) false)), (4, (.ptr 4 0)), (5, (.sl 1 (v8.map Zb) false)), (11, (.vs 11)), (12, (.int .i64 v19)), (13, (.int .i64 v38))], [(4, (.box (Z3 v6).cells)), (11, (.tab (List.map (List.map Zn) v39) none))]⟩) ⟨rfl, rfl, rfl, rfl, rfl, rfl, trivial⟩ ⟨rfl, rfl, trivial⟩ (J46 v39 h)
         ·have h := hif.2 hc
          refine AWp.exit <| At.thru ?_
          exact Zj (st' := ⟨[(3, (.sl 1 (v4.map Zl) false)), (4, (.ptr 4 0)), (5, (.sl 1 (v8.map Zb) false)), (11, (.vs 11)), (12, (.int .i64 v19))], [(4, (.box (Z3 v6).cells)), (11, (.tab (List.map (List.map Zn) v39) none))]⟩) ⟨rfl, rfl, rfl, rfl, rfl, trivial⟩ ⟨rfl, rfl, trivial⟩ (J40 v39 h)
      ·have h := hif.2 hc
       refine AWp.exit <| At.thru ?_
       exact Zj (st' := ⟨[(4, (.ptr 4 0)), (5, (.sl 1 (v8.map Zb) false)), (11, (.vs 11))], [(4, (.box (Z3 v6).cells)), (11, (.tab (List.map (List.map Zn) v20) none))]⟩) ⟨rfl, rfl, rfl, trivial⟩ ⟨rfl, rfl, trivial⟩ (J21 v20 h)
  ·intro N k13 v h IH13 J13
   obtain ⟨v11, v12⟩ := v
   try dsimp only at h IH13 J13 ⊢
   cases k13 with
   | zero => cases h
   | succ k13 =>
    rw [F5_l13] at h
    refine Ze <| Ze <| Z5 <| Z1 I (Z6 (v := (.int .i64 v12)) I I) I <| Z1 I (Z6 (v := (.sl 1 (v10.map Zg) false)) I I) I <| Z1 I (stx_len (l := v10) (enc := Zg) I s46 I) I <| Z1 I (st_cmp (k := .i64) (a := v12) (b := (v10.length : Int)) (c := (decide (v12 < (v10.length : Int)))) I I I I) I <| Z8 ?_
    refine Za ?_
    have hif := of_if h
    refine Zp I (fun hc => ?_) (fun hc => ?_)
    ·have h := hif.1 hc
     refine Zs <| Za <| Ze <| AWp.block <| Ze <| Z5 <| Z1 I (Zh (v := (.int .i64 0)) I I) I <| Z8 ?_
     refine Za <| Z10 (st' := ⟨[(3, (.sl 1 (v4.map Zl) false)), (4, (.ptr 4 0)), (5, (.sl 1 (v8.map Zb) false)), (6, (.sl 1 (v10.map Zg) false)), (7, (.int .i64 v11)), (8, (.int .i64 v12)), (9, (.int .i64 0))], [(4, (.box (Z3 v6).cells))]⟩) ⟨rfl, rfl, rfl, rfl, rfl, rfl, rfl, trivial⟩ ⟨rfl, trivial⟩ ?_
     refine Zq (V := Int × Int) (X := Int) (lp := fun k v => F5_l64 K v12 v10 v4 v8 (F5_c66 K (F5_l13 K v10 v4 v8 (F5_c15 K v10 v4 v8 v6) k13) v12) k v.1 v.2 = some r) (sh := fun v => ⟨[(3, (.sl 1 (v4.map Zl) false)), (4, (.ptr 4 0)), (5, (.sl 1 (v8.map Zb) false)), (6, (.sl 1 (v10.map Zg) false)), (7, (.int .i64 v.1)), (8, (.int .i64 v12)), (9, (.int .i64 v.2))], [(4, (.box (Z3 v6).cells))]⟩) (x := fun v => F5_c66 K (F5_l13 K v10 v4 v8 (F5_c15 K v10 v4 v8 v6) k13) v12 v = some r) (shx := fun v => ⟨[(3, (.sl 1 (v4.map Zl) false)), (4, (.ptr 4 0)), (5, (.sl 1 (v8.map Zb) false)), (6, (.sl 1 (v10.map Zg) false)), (7, (.int .i64 v)), (8, (.int .i64 v12))], [(4, (.box (Z3 v6).cells))]⟩) (k := K) (v := (v11, 0)) h ?_ ?_
     ·intro v h
      revert h
      revert v
      intro v65 h
      try dsimp only at h ⊢
      unfold F5_c66 at h
      refine At.end <| Za <| Z5 <| Z1 I (Z6 (v := (.int .i64 v12)) I I) I <| Z1 I (Zz (k := .i64) (a := v12) (b := 1) (c := (IntKind.i64.wrap (v12 + 1))) I I I I) I <| Z1 I (Zh (v := (.int .i64 (IntKind.i64.wrap (v12 + 1)))) I I) I <| Z8 ?_
      exact Zj (st' := ⟨[(3, (.sl 1 (v4.map Zl) false)), (4, (.ptr 4 0)), (5, (.sl 1 (v8.map Zb) false)), (6, (.sl 1 (v10.map Zg) false)), (7, (.int .i64 v65)), (8, (.int .i64 (IntKind.i64.wrap (v12 + 1))))], [(4, (.box (Z3 v6).cells))]⟩) ⟨rfl, rfl, rfl, rfl, rfl, rfl, trivial⟩ ⟨rfl, trivial⟩ (IH13 _ (v65, (IntKind.i64.wrap (v12 + 1))) (Nat.lt_succ_self _) h)
     ·intro N k64 v h IH64 J64
      obtain ⟨v62, v63⟩ := v
      try dsimp only at h IH64 J64 ⊢
      cases k64 with
      | zero => cases h
      | succ k64 =>
       rw [F5_l64] at h
       refine Ze <| Ze <| Z5 <| Z1 I (Z6 (v := (.int .i64 v63)) I I) I <| Z1 I (Z6 (v := (.sl 1 (v10.map Zg) false)) I I) I <| Z1 I (Z6 (v := (.int .i64 v12)) I I) I ?_
       have ⟨hg69, h⟩ := Zi h
       refine Z1 I (st_index (k := .i64) (l := v10) (enc := Zg) (z := []) (n := v12) (cs := [(.sl 1 ((v10.getD v12.toNat []).map Zb) false)]) (full := false) I s46 I I hg69 I) I <| Z1 I (st_loadI (cs := [(.sl 1 ((v10.getD v12.toNat []).map Zb) false)]) (v := (.sl 1 ((v10.getD v12.toNat []).map Zb) false)) I o29 I I) I <| Z1 I (stx_len (l := (v10.getD v12.toNat [])) (enc := Zb) I s29 I) I <| Z1 I (st_cmp (k := .i64) (a := v63) (b := ((v10.getD v12.toNat []).length : Int)) (c := (decide (v63 < ((v10.getD v12.toNat []).length : Int)))) I I I I) I <| Z8 <| Za ?_
       have hif := of_if h
       refine Zp I (fun hc => ?_) (fun hc => ?_)
       ·have h := hif.1 hc
        refine Zs <| Za <| Ze <| AWp.block <| Ze <| Z5 <| Z1 I (Z6 (v := (.sl 1 (v10.map Zg) false)) I I) I <| Z1 I (Z6 (v := (.int .i64 v12)) I I) I ?_
        have ⟨hg70, h⟩ := Zi h
        refine Z1 I (st_index (k := .i64) (l := v10) (enc := Zg) (z := []) (n := v12) (cs := [(.sl 1 ((v10.getD v12.toNat []).map Zb) false)]) (full := false) I s46 I I hg70 I) I <| Z1 I (st_loadI (cs := [(.sl 1 ((v10.getD v12.toNat []).map Zb) false)]) (v := (.sl 1 ((v10.getD v12.toNat []).map Zb) false)) I o29 I I) I <| Z1 I (Z6 (v := (.int .i64 v63)) I I) I ?_
        have ⟨hg71, h⟩ := Zi h
        refine Z1 I (st_index (k := .i64) (l := (v10.getD v12.toNat [])) (enc := Zb) (z := 0) (n := v63) (cs := [(.int .i64 ((v10.getD v12.toNat []).getD v63.toNat 0))]) (full := false) I s29 I I hg71 I) I <| Z1 I (st_loadI (cs := [(.int .i64 ((v10.getD v12.toNat []).getD v63.toNat 0))]) (v := (.int .i64 ((v10.getD v12.toNat []).getD v63.toNat 0))) I o3 I I) I <| Z1 I (Zh (v := (.int .i64 ((v10.getD v12.toNat []).getD v63.toNat 0))) I I) I <| Z8 <| Za <| Ze <| Ze ?_
        refine AWp.join (V := Bool) (lp := fun v => F5_j73 K (F5_l64 K v12 v10 v4 v8 (F5_c66 K (F5_l13 K v10 v4 v8 (F5_c15 K v10 v4 v8 v6) k13) v12) k64) v62 v63 v = some r) (sh := fun v => ⟨[(3, (.sl 1 (v4.map Zl) false)), (4, (.ptr 4 0)), (5, (.sl 1 (v8.map Zb) false)), (6, (.sl 1 (v10.map Zg) false)), (7, (.int .i64 v62)), (8, (.int .i64 v12)), (9, (.int .i64 v63)), (81, (.bool v))], [(4, (.box (Z3 v6).cells))]⟩) ?_ ?_
        ·intro v h
         revert h
         revert v
         intro v72 h
         try dsimp only at h ⊢
         unfold F5_j73 at h
         refine Za ?_
         have hif := of_if h
         refine Zp I (fun hc => ?_) (fun hc => ?_)
         ·have h := hif.1 hc
          refine Ze <| Z5 <| Z1 I (Zh (v := (.bool false)) I I) I <| Z8 <| Za <| AWp.ret <| At.thruR <| At.overR ?_
          refine At.thruR ?_
          refine At.thruR (At.overR ?_)
          refine At.overR <| At.thruR ?_
          refine At.thruR (At.overR ?_)
          refine At.thruR ?_
          have h := Option.some.inj h
          subst h
          refine (hret _ ?_).1
          exact ⟨[(.bool false)], ⟨rfl, trivial⟩, rfl, trivial⟩
         ·have h := hif.2 hc
          refine Zs <| Za <| Z5 <| Z1 I (Z6 (v := (.int .i64 v62)) I I) I <| Z1 I (Zz (k := .i64) (a := v62) (b := 1) (c := (IntKind.i64.wrap (v62 + 1))) I I I I) I <| Z1 I (Zh (v := (.int .i64 (IntKind.i64.wrap (v62 + 1)))) I I) I <| Z8 <| At.end ?_
          refine Za <| Z5 <| Z1 I (Z6 (v := (.int .i64 v63)) I I) I <| Z1 I (Zz (k := .i64) (a := v63) (b := 1) (c := (IntKind.i64.wrap (v63 + 1))) I I I I) I <| Z1 I (Zh (v := (.int .i64 (IntKind.i64.wrap (v63 + 1)))) I I) I <| Z8 ?_
          exact Zj (st' := ⟨[(3, (.sl 1 (v4.map Zl) false)), (4, (.ptr 4 0)), (5, (.sl 1 (v8.map Zb) false)), (6, (.sl 1 (v10.map Zg) false)), (7, (.int .i64 (IntKind.i64.wrap (v62 + 1)))), (8, (.int .i64 v12)), (9, (.int .i64 (IntKind.i64.wrap (v63 + 1))))], [(4, (.box (Z3 v6).cells))]⟩) ⟨rfl, rfl, rfl, rfl, rfl, rfl, rfl, trivial⟩ ⟨rfl, trivial⟩ (IH64 _ ((IntKind.i64.wrap (v62 + 1)), (IntKind.i64.wrap (v63 + 1))) (Nat.lt_succ_self _) h)
        ·intro J73
         refine Z5 <| Z1 I (Z6 (v := (.int .i64 ((v10.getD v12.toNat []).getD v63.toNat 0))) I I) I <| Z1 I (st_cmp (k := .i64) (a := ((v10.getD v12.toNat []).getD v63.toNat 0)) (b := 0) (c := (decide (((v10.getD v12.toNat []).getD v63.toNat 0) < 0))) I I I I) I <| Z1 I (Z6 (v := (.bool (decide (((v10.getD v12.toNat []).getD v63.toNat 0) < 0)))) I I) I ?_
         have hif := of_if h
         refine AOps.split (fun hc => ?_) (fun hc => ?_)
         ·have h := hif.1 hc
          refine Z7 I I I I I I I <| Z7 I I I I I I I <| Z7 I I I I I I I <| Z7 I I I I I I I <| Z1 I (st_pickT (v := (.bool true)) I I I) I <| Z1 I (Z6 (v := (.bool true)) I I) I <| Z7 I I I I I I I <| Z7 I I I I I I I ?_
          refine Z7 I I I I I I I <| Z7 I I I I I I I <| Z7 I I I I I I I <| Z7 I I I I I I I <| Z1 I (st_pickT (v := (.bool true)) I I I) I <| Z1 I (Z6 (v := (.bool true)) I I) I <| Z7 I I I I I I I <| Z7 I I I I I I I ?_
          refine Z7 I I I I I I I <| Z7 (u := .tup []) I I I I I I I <| Z7 (u := .tup []) I I I I I I I <| Z7 (u := .tup []) I I I I I I I <| Z7 (u := .tup []) I I I I I I I <| Z7 (u := .tup []) I I I I I I I <| Z7 (u := .tup []) I I I I I I I <| Z7 (u := .tup []) I I I I I I I ?_
          refine Z7 (u := .tup []) I I I I I I I <| Z7 (u := .tup []) I I I I I I I <| Z7 (u := .tup []) I I I I I I I <| Z7 I I I I I I I <| Z1 I (st_pickT (v := (.bool true)) I I I) I <| Z8 ?_
          exact Zj (st' := ⟨[(3, (.sl 1 (v4.map Zl) false)), (4, (.ptr 4 0)), (5, (.sl 1 (v8.map Zb) false)), (6, (.sl 1 (v10.map Zg) false)), (7, (.int .i64 v62)), (8, (.int .i64 v12)), (9, (.int .i64 v63)), (81, (.bool true))], [(4, (.box (Z3 v6).cells))]⟩) ⟨rfl, rfl, rfl, rfl, rfl, rfl, rfl, rfl, trivial⟩ ⟨rfl, trivial⟩ (J73 true h)
         ·have h := hif.2 hc
          refine Zk I I I I (Z6 (v := (.int .i64 ((v10.getD v12.toNat []).getD v63.toNat 0))) I I) I <| Zk I I I I (Z6 (v := (.sl 1 (v4.map Zl) false)) I I) I <| Zk I I I I (stx_len (l := v4) (enc := Zl) I s27 I) I <| Zk I I I I (st_cmp (k := .i64) (a := ((v10.getD v12.toNat []).getD v63.toNat 0)) (b := (v4.length : Int)) (c := (decide (((v10.getD v12.toNat []).getD v63.toNat 0) ≥ (v4.length : Int)))) I I I I) I <| Z1 I (Zx (v := (.bool (decide (((v10.getD v12.toNat []).getD v63.toNat 0) ≥ (v4.length : Int))))) I I I) I <| Z1 I (Z6 (v := (.bool (decide (((v10.getD v12.toNat []).getD v63.toNat 0) ≥ (v4.length : Int))))) I I) I ?_
          have hif := of_if h
          refine AOps.split (fun hc => ?_) (fun hc => ?_)
          ·have h := hif.1 hc
           refine Z7 I I I I I I I <| Z7 I I I I I I I <| Z7 I I I I I I I <| Z7 I I I I I I I <| Z7 I I I I I I I <| Z7 I I I I I I I <| Z1 I (st_pickT (v := (.bool true)) I I I) I <| Z1 I (Z6 (v := (.bool true)) I I) I ?_
           refine Z7 I I I I I I I <| Z7 I I I I I I I <| Z7 I I I I I I I <| Z7 (u := .tup []) I I I I I I I <| Z7 (u := .tup []) I I I I I I I <| Z7 (u := .tup []) I I I I I I I <| Z7 (u := .tup []) I I I I I I I <| Z7 (u := .tup []) I I I I I I I ?_
           refine Z7 (u := .tup []) I I I I I I I <| Z7 (u := .tup []) I I I I I I I <| Z7 (u := .tup []) I I I I I I I <| Z7 (u := .tup []) I I I I I I I <| Z7 (u := .tup []) I I I I I I I <| Z7 I I I I I I I <| Z1 I (st_pickT (v := (.bool true)) I I I) I <| Z8 ?_
           exact Zj (st' := ⟨[(3, (.sl 1 (v4.map Zl) false)), (4, (.ptr 4 0)), (5, (.sl 1 (v8.map Zb) false)), (6, (.sl 1 (v10.map Zg) false)), (7, (.int .i64 v62)), (8, (.int .i64 v12)), (9, (.int .i64 v63)), (81, (.bool true))], [(4, (.box (Z3 v6).cells))]⟩) ⟨rfl, rfl, rfl, rfl, rfl, rfl, rfl, rfl, trivial⟩ ⟨rfl, trivial⟩ (J73 true h)
          ·have h := hif.2 hc
           refine Zk I I I I (Z6 (v := (.sl 1 (v8.map Zb) false)) I I) I <| Zk I I I I (Z6 (v := (.int .i64 ((v10.getD v12.toNat []).getD v63.toNat 0))) I I) I ?_
           have ⟨hg74, h⟩ := Zi h
           refine Zk I I I I (st_index (k := .i64) (l := v8) (enc := Zb) (z := 0) (n := ((v10.getD v12.toNat []).getD v63.toNat 0)) (cs := [(.int .i64 (v8.getD ((v10.getD v12.toNat []).getD v63.toNat 0).toNat 0))]) (full := false) I s29 I I hg74 I) I <| Zk I I I I (st_loadI (cs := [(.int .i64 (v8.getD ((v10.getD v12.toNat []).getD v63.toNat 0).toNat 0))]) (v := (.int .i64 (v8.getD ((v10.getD v12.toNat []).getD v63.toNat 0).toNat 0))) I o3 I I) I <| Zk I I I I (Z6 (v := (.int .i64 v12)) I I) I <| Zk I I I I (st_cmp (k := .i64) (a := (v8.getD ((v10.getD v12.toNat []).getD v63.toNat 0).toNat 0)) (b := v12) (c := ((v8.getD ((v10.getD v12.toNat []).getD v63.toNat 0).toNat 0) != v12)) I I I I) I <| Z1 I (Zx (v := (.bool ((v8.getD ((v10.getD v12.toNat []).getD v63.toNat 0).toNat 0) != v12))) I I I) I <| Z1 I (Z6 (v := (.bool ((v8.getD ((v10.getD v12.toNat []).getD v63.toNat 0).toNat 0) != v12))) I I) I ?_
           have hif := of_if h
           refine AOps.split (fun hc => ?_) (fun hc => ?_)
           ·have h := hif.1 hc
            refine Z7 I I I I I I I <| Z7 I I I I I I I <| Z7 I I I I I I I <| Z7 (u := .tup []) I I I I I I I <| Z7 (u := .tup []) I I I I I I I <| Z7 (u := .tup []) I I I I I I I <| Z7 (u := .tup []) I I I I I I I <| Z7 (u := .tup []) I I I I I I I ?_
            refine Z7 (u := .tup []) I I I I I I I <| Z7 (u := .tup []) I I I I I I I <| Z7 (u := .tup []) I I I I I I I <| Z7 (u := .tup []) I I I I I I I <| Z7 (u := .tup []) I I I I I I I <| Z7 I I I I I I I <| Z1 I (st_pickT (v := (.bool true)) I I I) I <| Z8 ?_
            exact Zj (st' := ⟨[(3, (.sl 1 (v4.map Zl) false)), (4, (.ptr 4 0)), (5, (.sl 1 (v8.map Zb) false)), (6, (.sl 1 (v10.map Zg) false)), (7, (.int .i64 v62)), (8, (.int .i64 v12)), (9, (.int .i64 v63)), (81, (.bool true))], [(4, (.box (Z3 v6).cells))]⟩) ⟨rfl, rfl, rfl, rfl, rfl, rfl, rfl, rfl, trivial⟩ ⟨rfl, trivial⟩ (J73 true h)
           ·have h := hif.2 hc
            refine Zk I I I I (Z6 (v := (.int .i64 v63)) I I) I <| Zk I I I I (st_cmp (k := .i64) (a := v63) (b := 0) (c := (decide (v63 > 0))) I I I I) I <| Zk I I I I (Z6 (v := (.bool (decide (v63 > 0)))) I I) I ?_
            have hif := of_if h
            refine AOps.split (fun hc => ?_) (fun hc => ?_)
            ·have h := hif.1 hc
             refine Zk I I I I (Z6 (v := (.int .i64 ((v10.getD v12.toNat []).getD v63.toNat 0))) I I) I <| Zk I I I I (Z6 (v := (.sl 1 (v10.map Zg) false)) I I) I <| Zk I I I I (Z6 (v := (.int .i64 v12)) I I) I ?_
             have ⟨hg75, h⟩ := Zi h
             refine Zk I I I I (st_index (k := .i64) (l := v10) (enc := Zg) (z := []) (n := v12) (cs := [(.sl 1 ((v10.getD v12.toNat []).map Zb) false)]) (full := false) I s46 I I hg75 I) I <| Zk I I I I (st_loadI (cs := [(.sl 1 ((v10.getD v12.toNat []).map Zb) false)]) (v := (.sl 1 ((v10.getD v12.toNat []).map Zb) false)) I o29 I I) I <| Zk I I I I (Z6 (v := (.int .i64 v63)) I I) I <| Zk I I I I (Zz (k := .i64) (a := v63) (b := 1) (c := (IntKind.i64.wrap (v63 - 1))) I I I I) I ?_
             have ⟨hg76, h⟩ := Zi h
             refine Zk I I I I (st_index (k := .i64) (l := (v10.getD v12.toNat [])) (enc := Zb) (z := 0) (n := (IntKind.i64.wrap (v63 - 1))) (cs := [(.int .i64 ((v10.getD v12.toNat []).getD (IntKind.i64.wrap (v63 - 1)).toNat 0))]) (full := false) I s29 I I hg76 I) I <| Zk I I I I (st_loadI (cs := [(.int .i64 ((v10.getD v12.toNat []).getD (IntKind.i64.wrap (v63 - 1)).toNat 0))]) (v := (.int .i64 ((v10.getD v12.toNat []).getD (IntKind.i64.wrap (v63 - 1)).toNat 0))) I o3 I I) I <| Zk I I I I (st_cmp (k := .i64) (a := ((v10.getD v12.toNat []).getD v63.toNat 0)) (b := ((v10.getD v12.toNat []).getD (IntKind.i64.wrap (v63 - 1)).toNat 0)) (c := (decide (((v10.getD v12.toNat []).getD v63.toNat 0) ≤ ((v10.getD v12.toNat []).getD (IntKind.i64.wrap (v63 - 1)).toNat 0)))) I I I I) I <| Zk I I I I (st_pickT (v := (.bool (decide (((v10.getD v12.toNat []).getD v63.toNat 0) ≤ ((v10.getD v12.toNat []).getD (IntKind.i64.wrap (v63 - 1)).toNat 0))))) I I I) I <| Z1 I (Zx (v := (.bool (decide (((v10.getD v12.toNat []).getD v63.toNat 0) ≤ ((v10.getD v12.toNat []).getD (IntKind.i64.wrap (v63 - 1)).toNat 0))))) I I I) I <| Z8 ?_
             exact Zj (st' := ⟨[(3, (.sl 1 (v4.map Zl) false)), (4, (.ptr 4 0)), (5, (.sl 1 (v8.map Zb) false)), (6, (.sl 1 (v10.map Zg) false)), (7, (.int .i64 v62)), (8, (.int .i64 v12)), (9, (.int .i64 v63)), (81, (.bool (decide (((v10.getD v12.toNat []).getD v63.toNat 0) ≤ ((v10.getD v12.toNat []).getD (IntKind.i64.wrap (v63 - 1)).toNat 0)))))], [(4, (.box (Z3 v6).cells))]⟩) ⟨rfl, rfl, rfl, rfl, rfl, rfl, rfl, rfl, trivial⟩ ⟨rfl, trivial⟩ (J73 (decide (((v10.getD v12.toNat []).getD v63.toNat 0) ≤ ((v10.getD v12.toNat []).getD (IntKind.i64.wrap (v63 - 1)).toNat 0))) h)
            ·have h := hif.2 hc
             refine Z7 I I I I I I I <| Z7 I I I I I I I <| Z7 I I I I I I I <| Z7 I I I I I I I <| Z7 I I I I I I I <| Z7 I I I I I I I <| Z7 I I I I I I I <| Z7 I I I I I I I ?_
             refine Z7 I I I I I I I <| Z7 I I I I I I I <| Zk I I I I (Zx (v := (.bool false)) I I I) I <| Z1 I (Zx (v := (.bool false)) I I I) I <| Z8 ?_
             exact Zj (st' := ⟨[(3, (.sl 1 (v4.map Zl) false)), (4, (.ptr 4 0)), (5, (.sl 1 (v8.map Zb) false)), (6, (.sl 1 (v10.map Zg) false)), (7, (.int .i64 v62)), (8, (.int .i64 v12)), (9, (.int .i64 v63)), (81, (.bool false))], [(4, (.box (Z3 v6).cells))]⟩) ⟨rfl, rfl, rfl, rfl, rfl, rfl, rfl, rfl, trivial⟩ ⟨rfl, trivial⟩ (J73 false h)
       ·have h := hif.2 hc
        refine AWp.exit <| At.thru ?_
        exact Zj (st' := ⟨[(3, (.sl 1 (v4.map Zl) false)), (4, (.ptr 4 0)), (5, (.sl 1 (v8.map Zb) false)), (6, (.sl 1 (v10.map Zg) false)), (7, (.int .i64 v62)), (8, (.int .i64 v12))], [(4, (.box (Z3 v6).cells))]⟩) ⟨rfl, rfl, rfl, rfl, rfl, rfl, trivial⟩ ⟨rfl, trivial⟩ (J64 v62 h)
    ·have h := hif.2 hc
     refine AWp.exit <| At.thru ?_
     exact Zj (st' := ⟨[(3, (.sl 1 (v4.map Zl) false)), (4, (.ptr 4 0)), (5, (.sl 1 (v8.map Zb) false)), (6, (.sl 1 (v10.map Zg) false)), (7, (.int .i64 v11))], [(4, (.box (Z3 v6).cells))]⟩) ⟨rfl, rfl, rfl, rfl, rfl, trivial⟩ ⟨rfl, trivial⟩ (J13 v11 h)
end Go.AM.Gra
