/- What these functions compute, each with its walk: F26. -/
import Derived.Test.YtcfcnnkaiboddaaGraT
import Derived.Test.YtcfcnnkaiboddaaGraG0
namespace Go.AM.Gra
open Go Go.AM Go.Proofs
set_option maxRecDepth 100000
set_option maxHeartbeats 2000000
def F26_c14 (K : Nat) (v2 : (List (List Int))) (v7 : (List Int)) (v13 : (List Z7)) : Option (Za × (List Int)) :=
 (F35 K (v2.length : Int) v13).bind fun v17 =>
  some (v17.1, v7)
def F26_j25 (K : Nat) (b18 : Int → (List Z7) → Option (Za × (List Int))) (v10 : Int) (v24 : (List Z7)) : Option (Za × (List Int)) :=
 b18 (IntKind.i64.wrap (v10 + 1)) v24
def F26_l12 (K : Nat) (a0 : Za) (v7 : (List Int)) (c15 : (List Z7) → Option (Za × (List Int))) : Nat → Int → (List Z7) → Option (Za × (List Int))
 | 0, _, _ => none
 | k12 + 1, v10, v11 =>
  if (decide (v10 < (a0.Edges.length : Int))) = true then
   if (0 : Int) ≤ v10 ∧ v10 < a0.Edges.length then
    if (0 : Int) ≤ (a0.Edges.getD v10.toNat Z2).From ∧ (a0.Edges.getD v10.toNat Z2).From < (v7.length : Nat) then
     if (a0.Edges.getD v10.toNat Z2).From.toNat < v7.length then
      if (0 : Int) ≤ (a0.Edges.getD v10.toNat Z2).To ∧ (a0.Edges.getD v10.toNat Z2).To < (v7.length : Nat) then
       if (a0.Edges.getD v10.toNat Z2).To.toNat < v7.length then
        if ((v7.getD (a0.Edges.getD v10.toNat Z2).From.toNat 0) != (v7.getD (a0.Edges.getD v10.toNat Z2).To.toNat 0)) = true then
         if (0 : Int) ≤ (a0.Edges.getD v10.toNat Z2).From ∧ (a0.Edges.getD v10.toNat Z2).From < (v7.length : Nat) then
          if (a0.Edges.getD v10.toNat Z2).From.toNat < v7.length then
           if (0 : Int) ≤ (a0.Edges.getD v10.toNat Z2).To ∧ (a0.Edges.getD v10.toNat Z2).To < (v7.length : Nat) then
            if (a0.Edges.getD v10.toNat Z2).To.toNat < v7.length then
             if v11.length + [(⟨(v7.getD (a0.Edges.getD v10.toNat Z2).From.toNat 0), (v7.getD (a0.Edges.getD v10.toNat Z2).To.toNat 0)⟩ : Z7)].length ≤ 1073741824 then
              F26_j25 K (F26_l12 K a0 v7 c15 k12) v10 (v11 ++ [(⟨(v7.getD (a0.Edges.getD v10.toNat Z2).From.toNat 0), (v7.getD (a0.Edges.getD v10.toNat Z2).To.toNat 0)⟩ : Z7)])
             else none
            else none
           else none
          else none
         else none
        else
         F26_j25 K (F26_l12 K a0 v7 c15 k12) v10 v11
       else none
      else none
     else none
    else none
   else none
  else
   c15 v11
def F26_c8 (K : Nat) (a0 : Za) (v2 : (List (List Int))) (v7 : (List Int)) : Option (Za × (List Int)) :=
 F26_l12 K a0 v7 (F26_c14 K v2 v7) K 0 []
def F26_c37 (K : Nat) (b31 : Int → (List Int) → Option (Za × (List Int))) (v4 : Int) (v36 : (List Int)) : Option (Za × (List Int)) :=
 b31 (IntKind.i64.wrap (v4 + 1)) v36
def F26_l35 (K : Nat) (v2 : (List (List Int))) (v4 : Int) (c38 : (List Int) → Option (Za × (List Int))) : Nat → Int → (List Int) → Option (Za × (List Int))
 | 0, _, _ => none
 | k35 + 1, v33, v34 =>
  if (decide (v33 < ((v2.getD v4.toNat []).length : Int))) = true then
   if (0 : Int) ≤ v33 ∧ v33 < (v2.getD v4.toNat []).length then
    if (0 : Int) ≤ ((v2.getD v4.toNat []).getD v33.toNat 0) ∧ ((v2.getD v4.toNat []).getD v33.toNat 0) < (v34.length : Nat) then
     if ((v2.getD v4.toNat []).getD v33.toNat 0).toNat < v34.length then
      (F26_l35 K v2 v4 c38 k35) (IntKind.i64.wrap (v33 + 1)) (v34.set ((v2.getD v4.toNat []).getD v33.toNat 0).toNat v4)
     else none
    else none
   else none
  else
   c38 v34
def F26_l6 (K : Nat) (v2 : (List (List Int))) (c9 : (List Int) → Option (Za × (List Int))) : Nat → Int → (List Int) → Option (Za × (List Int))
 | 0, _, _ => none
 | k6 + 1, v4, v5 =>
  if (decide (v4 < (v2.length : Int))) = true then
   if (0 : Int) ≤ v4 ∧ v4 < v2.length then
    F26_l35 K v2 v4 (F26_c37 K (F26_l6 K v2 c9 k6) v4) K 0 v5
   else none
  else
   c9 v5
def F26 (K : Nat) (a0 : Za) : Option (Za × (List Int)) :=
 (F24 K a0).bind fun v2 =>
  if (0 : Int) ≤ a0.Count ∧ a0.Count ≤ a0.Count ∧ a0.Count ≤ 1073741824 then
   F26_l6 K v2 (F26_c8 K a0 v2) K 0 (List.replicate a0.Count.toNat (0 : Int))
  else none
theorem F26_ok (K : Nat) (a0 : Za) (r : Za × (List Int)) (h : F26 K a0 = some r) : ACall P 26 ⟨[(Z4 a0)], [], (.tup [(Z4 r.1), (.sl 1 (r.2.map Z8) false)]), [], []⟩ := by
 refine acall_of Try.func26 Try.results26 rfl Try.ntmps26 rfl rfl rfl ?_
 intro E Q hP hN hro hret
 obtain ⟨P', nt', w0, F0, p0, S0, β0, ro0⟩ := E
 simp only at hP hN
 subst hP hN
 dsimp only [argT]
 unfold F26 at h
 refine Zf <| Z6 <| Z1 I (st_box (v := (Z4 a0)) (cs := (Z4 a0).cells) I I I I I) I <| Z1 I (st_alloc (cs := [(.int .i64 0), (.sl 2 [] false)]) I z35 I I I) I <| Z1 I (Zh (v := (.sl 1 [] false)) I I) I <| Zb <| Ze <| Zf ?_
 refine Z6 <| Z1 I (st_loadPA (cs := (Z4 a0).cells) (vs := (Z4 a0).cells) I a35 I I I I) I ?_
 have ⟨v2, hv2, h⟩ := of_bind h
 refine Z1 I (st_call0 (ar := [(Z4 a0)]) (caps := []) Try.call24 (F24_ok K a0 v2 hv2) I I ⟨rfl, trivial⟩ I) I <| Z1 I (Zh (v := (.sl 1 (v2.map Zg) false)) I I) I <| Zb <| Ze <| Zf <| Z6 <| Z1 I (Z10 (m := 1) (o := 0) I f35_0 I I) I <| Z1 I (Zu (cs := (Z4 a0).cells) (v := (.int .i64 a0.Count)) I o3 I I I) I ?_
 have ⟨hg3, h⟩ := Zi h
 refine Z1 I (st_makeSlice (kx := .i64) (ky := .i64) (a := a0.Count) (c := a0.Count) (n := a0.Count.toNat) I el29 I ze3 els_i64 I I I hg3 I) I <| Z1 I (Zh (v := (.vs 16)) I I) I <| Zb <| Ze <| Zf <| Zf <| Z6 <| Z1 I (Z9 (v := (.sl 1 (v2.map Zg) false)) I I) I ?_
 refine Z1 I (stx_len (l := v2) (enc := Zg) I s46 I) I <| Z1 I (Z9 (v := (.int .i64 0)) I I) I <| Zb <| Ze <| AWp.ghost (st' := ⟨[(1, (.ptr 1 0)), (2, (.ptr 2 0)), (3, (.vs 3)), (4, (.sl 1 (v2.map Zg) false)), (17, (.sl 1 (v2.map Zg) false)), (18, (.int .i64 (v2.length : Int))), (19, (.int .i64 0))], [(1, (.box (Z4 a0).cells)), (2, (.box [(.int .i64 0), (.sl 2 [] false)])), (3, (.vec 1 (List.map Z8 (List.replicate a0.Count.toNat (0 : Int)))))]⟩) (fun a w h => (Zp ⟨[(1, (.ptr 1 0)), (2, (.ptr 2 0)), (3, (.vs 3)), (4, (.sl 1 (v2.map Zg) false)), (17, (.sl 1 (v2.map Zg) false)), (18, (.int .i64 (v2.length : Int))), (19, (.int .i64 0))], [(1, (.box (Z4 a0).cells)), (2, (.box [(.int .i64 0), (.sl 2 [] false)])), (3, (.vec 1 (List.map Z8 (List.replicate a0.Count.toNat (0 : Int)))))]⟩ (ghost_sw (a := 16) (b := 3) I I a w (Zp ⟨[(1, (.ptr 1 0)), (2, (.ptr 2 0)), (3, (.vs 16)), (4, (.sl 1 (v2.map Zg) false)), (17, (.sl 1 (v2.map Zg) false)), (18, (.int .i64 (v2.length : Int))), (19, (.int .i64 0))], [(1, (.box (Z4 a0).cells)), (2, (.box [(.int .i64 0), (.sl 2 [] false)])), (16, (.vec 1 (List.map Z8 (List.replicate a0.Count.toNat (0 : Int)))))]⟩ h ⟨rfl, rfl, rfl, rfl, rfl, rfl, rfl, trivial⟩ ⟨rfl, rfl, rfl, trivial⟩)) ⟨rfl, rfl, rfl, rfl, rfl, rfl, rfl, trivial⟩ ⟨rfl, rfl, rfl, trivial⟩)) <| AWp.weaken (st' := ⟨[(1, (.ptr 1 0)), (2, (.ptr 2 0)), (3, (.vs 3)), (4, (.sl 1 (v2.map Zg) false)), (17, (.sl 1 (v2.map Zg) false)), (18, (.int .i64 (v2.length : Int))), (19, (.int .i64 0))], [(1, (.box (Z4 a0).cells)), (2, (.box [(.int .i64 0), (.sl 2 [] false)])), (3, (.vec 1 (List.map Z8 (List.replicate a0.Count.toNat (0 : Int)))))]⟩) ⟨rfl, rfl, rfl, rfl, rfl, rfl, rfl, trivial⟩ ⟨rfl, rfl, rfl, trivial⟩ ?_
 refine Zw (V := Int × (List Int)) (X := (List Int)) (lp := fun k v => F26_l6 K v2 (F26_c8 K a0 v2) k v.1 v.2 = some r) (sh := fun v => ⟨[(1, (.ptr 1 0)), (2, (.ptr 2 0)), (3, (.vs 3)), (4, (.sl 1 (v2.map Zg) false)), (17, (.sl 1 (v2.map Zg) false)), (18, (.int .i64 (v2.length : Int))), (19, (.int .i64 v.1))], [(1, (.box (Z4 a0).cells)), (2, (.box [(.int .i64 0), (.sl 2 [] false)])), (3, (.vec 1 (List.map Z8 v.2)))]⟩) (x := fun v => F26_c8 K a0 v2 v = some r) (shx := fun v => ⟨[(1, (.ptr 1 0)), (2, (.ptr 2 0)), (3, (.vs 3)), (4, (.sl 1 (v2.map Zg) false))], [(1, (.box (Z4 a0).cells)), (2, (.box [(.int .i64 0), (.sl 2 [] false)])), (3, (.vec 1 (List.map Z8 v)))]⟩) (k := K) (v := (0, (List.replicate a0.Count.toNat (0 : Int)))) h ?_ ?_
 ·intro v h
  revert h
  revert v
  intro v7 h
  try dsimp only at h ⊢
  unfold F26_c8 at h
  refine Ze <| Zf <| Z6 <| Z1 I (Zh (v := (.sl 2 [] true)) I I) I <| Zb <| Ze <| Zf <| Zf ?_
  refine Z6 <| Z1 I (Z10 (m := 1) (o := 0) I f35_1 I I) I <| Z1 I (Zu (cs := (Z4 a0).cells) (v := (.sl 2 (a0.Edges.map Z3) false)) I o33 I I I) I <| Z1 I (stx_len (l := a0.Edges) (enc := Z3) I s33 I) I <| Z1 I (Z9 (v := (.int .i64 0)) I I) I <| Zb <| Ze <| AWp.ghost (st' := ⟨[(2, (.ptr 2 0)), (3, (.vs 3)), (4, (.sl 1 (v2.map Zg) false)), (9, (.vs 9)), (37, (.sl 2 (a0.Edges.map Z3) false)), (38, (.int .i64 (a0.Edges.length : Int))), (39, (.int .i64 0))], [(2, (.box [(.int .i64 0), (.sl 2 [] false)])), (3, (.vec 1 (List.map Z8 v7))), (9, (.vec 2 (List.map Z3 ([] : List Z7))))]⟩) (fun a w h => (Zp ⟨[(2, (.ptr 2 0)), (3, (.vs 3)), (4, (.sl 1 (v2.map Zg) false)), (9, (.vs 9)), (37, (.sl 2 (a0.Edges.map Z3) false)), (38, (.int .i64 (a0.Edges.length : Int))), (39, (.int .i64 0))], [(2, (.box [(.int .i64 0), (.sl 2 [] false)])), (3, (.vec 1 (List.map Z8 v7))), (9, (.vec 2 (List.map Z3 ([] : List Z7))))]⟩ (ghost_own (k := 9) (m := 9) (sz := 2) I I a w (Zp ⟨[(9, (.sl 2 [] true)), (2, (.ptr 2 0)), (3, (.vs 3)), (4, (.sl 1 (v2.map Zg) false)), (37, (.sl 2 (a0.Edges.map Z3) false)), (38, (.int .i64 (a0.Edges.length : Int))), (39, (.int .i64 0))], [(2, (.box [(.int .i64 0), (.sl 2 [] false)])), (3, (.vec 1 (List.map Z8 v7)))]⟩ h ⟨rfl, rfl, rfl, rfl, rfl, rfl, rfl, trivial⟩ ⟨rfl, rfl, trivial⟩)) ⟨rfl, rfl, rfl, rfl, rfl, rfl, rfl, trivial⟩ ⟨rfl, rfl, rfl, trivial⟩)) ?_
  refine AWp.weaken (st' := ⟨[(2, (.ptr 2 0)), (3, (.vs 3)), (4, (.sl 1 (v2.map Zg) false)), (9, (.vs 9)), (37, (.sl 2 (a0.Edges.map Z3) false)), (38, (.int .i64 (a0.Edges.length : Int))), (39, (.int .i64 0))], [(2, (.box [(.int .i64 0), (.sl 2 [] false)])), (3, (.vec 1 (List.map Z8 v7))), (9, (.vec 2 (List.map Z3 [])))]⟩) ⟨rfl, rfl, rfl, rfl, rfl, rfl, rfl, trivial⟩ ⟨rfl, rfl, rfl, trivial⟩ ?_
  refine Zw (V := Int × (List Z7)) (X := (List Z7)) (lp := fun k v => F26_l12 K a0 v7 (F26_c14 K v2 v7) k v.1 v.2 = some r) (sh := fun v => ⟨[(2, (.ptr 2 0)), (3, (.vs 3)), (4, (.sl 1 (v2.map Zg) false)), (9, (.vs 9)), (37, (.sl 2 (a0.Edges.map Z3) false)), (38, (.int .i64 (a0.Edges.length : Int))), (39, (.int .i64 v.1))], [(2, (.box [(.int .i64 0), (.sl 2 [] false)])), (3, (.vec 1 (List.map Z8 v7))), (9, (.vec 2 (List.map Z3 v.2)))]⟩) (x := fun v => F26_c14 K v2 v7 v = some r) (shx := fun v => ⟨[(2, (.ptr 2 0)), (3, (.vs 3)), (4, (.sl 1 (v2.map Zg) false)), (9, (.vs 9))], [(2, (.box [(.int .i64 0), (.sl 2 [] false)])), (3, (.vec 1 (List.map Z8 v7))), (9, (.vec 2 (List.map Z3 v)))]⟩) (k := K) (v := (0, [])) h ?_ ?_
  ·intro v h
   revert h
   revert v
   intro v13 h
   try dsimp only at h ⊢
   unfold F26_c14 at h
   refine Ze <| Zf <| Z6 <| Z1 I (Z9 (v := (.sl 1 (v2.map Zg) false)) I I) I <| Z1 I (stx_len (l := v2) (enc := Zg) I s46 I) I <| Z1 I (Z9 (v := (.vs 9)) I I) I <| AOps.ghost (st' := ⟨[(2, (.ptr 2 0)), (3, (.vs 3)), (71, (.int .i64 (v2.length : Int))), (72, (.sl 2 (v13.map Z3) false))], [(2, (.box [(.int .i64 0), (.sl 2 [] false)])), (3, (.vec 1 (List.map Z8 v7)))]⟩) (fun a w h => (Zp ⟨[(2, (.ptr 2 0)), (3, (.vs 3)), (71, (.int .i64 (v2.length : Int))), (72, (.sl 2 (v13.map Z3) false))], [(2, (.box [(.int .i64 0), (.sl 2 [] false)])), (3, (.vec 1 (List.map Z8 v7)))]⟩ (ghost_freeze (m := 9) (sz := 2) (es := (List.map Z3 v13)) a w (Zp ⟨[(2, (.ptr 2 0)), (3, (.vs 3)), (71, (.int .i64 (v2.length : Int))), (72, (.vs 9))], [(9, (.vec 2 (List.map Z3 v13))), (2, (.box [(.int .i64 0), (.sl 2 [] false)])), (3, (.vec 1 (List.map Z8 v7)))]⟩ h ⟨rfl, rfl, rfl, rfl, trivial⟩ ⟨rfl, rfl, rfl, trivial⟩)) ⟨rfl, rfl, rfl, rfl, trivial⟩ ⟨rfl, rfl, trivial⟩)) ?_
   have ⟨v17, hv17, h⟩ := of_bind h
   refine Z1 I (st_call0 (ar := [(.int .i64 (v2.length : Int)), (.sl 2 (v13.map Z3) false)]) (caps := []) Try.call35 (F35_ok K (v2.length : Int) v13 v17 hv17) I I ⟨rfl, rfl, trivial⟩ I) I <| Z1 I (Z9 (v := (.tup [(Z4 v17.1), (.int .i64 v17.2)])) I I) I <| Z1 I (st_extract (vs := [(Z4 v17.1), (.int .i64 v17.2)]) (v := (Z4 v17.1)) I I I) I <| Z1 I (st_extract (vs := [(Z4 v17.1), (.int .i64 v17.2)]) (v := (.int .i64 v17.2)) I I I) I <| Z1 I (st_storeP (cs := [(.int .i64 0), (.sl 2 [] false)]) (vs := (Z4 v17.1).cells) (ds := (Z4 v17.1).cells) (v := (Z4 v17.1)) sz35 I I I I I I I I) I <| Zb <| Ze <| Zf ?_
   refine Z6 <| Z1 I (st_loadPA (cs := (Z4 v17.1).cells) (vs := (Z4 v17.1).cells) I a35 I I I I) I <| Z1 I (Z9 (v := (.vs 3)) I I) I <| Z1 I (st_storeP (cs := (Z4 v17.1).cells) (vs := (Z4 v17.1).cells) (ds := (Z4 v17.1).cells) (v := (Z4 v17.1)) sz35 I I I I I I I I) I <| Z1 I (Zh (v := (.vs 3)) I I) I <| Zb <| Ze <| AWp.ret ?_
   refine At.ghost (st' := ⟨[(2, (.ptr 2 0)), (3, (.sl 1 (v7.map Z8) false))], [(2, (.box (Z4 v17.1).cells))]⟩) (fun a w h => (Zp ⟨[(2, (.ptr 2 0)), (3, (.sl 1 (v7.map Z8) false))], [(2, (.box (Z4 v17.1).cells))]⟩ (ghost_freeze (m := 3) (sz := 1) (es := (List.map Z8 v7)) a w (Zp ⟨[(2, (.ptr 2 0)), (3, (.vs 3))], [(3, (.vec 1 (List.map Z8 v7))), (2, (.box (Z4 v17.1).cells))]⟩ h ⟨rfl, rfl, trivial⟩ ⟨rfl, rfl, trivial⟩)) ⟨rfl, rfl, trivial⟩ ⟨rfl, trivial⟩)) ?_
   have h := Option.some.inj h
   subst h
   refine (hret _ ?_).1
   exact ⟨[(Z4 v17.1), (.sl 1 (v7.map Z8) false)], ⟨⟨2, _, rfl, rfl, .inr ⟨_, a35, rfl, rfl⟩⟩, rfl, trivial⟩, rfl, trivial⟩
  ·intro N k12 v h IH12 J12
   obtain ⟨v10, v11⟩ := v
   try dsimp only at h IH12 J12 ⊢
   cases k12 with
   | zero => cases h
   | succ k12 =>
    rw [F26_l12] at h
    refine Zf <| Z6 <| Z1 I (st_cmp (k := .i64) (a := v10) (b := (a0.Edges.length : Int)) (c := (decide (v10 < (a0.Edges.length : Int)))) I I I I) I <| Zb <| Ze <| Zf ?_
    have hif := of_if h
    refine Zv I (fun hc => ?_) (fun hc => ?_)
    ·have h := hif.1 hc
     refine Zy <| Ze <| Zf <| AWp.block <| Zf <| Z6 ?_
     have ⟨hg19, h⟩ := Zi h
     refine Z1 I (st_index (k := .i64) (l := a0.Edges) (enc := Z3) (z := Z2) (n := v10) (cs := (Z3 (a0.Edges.getD v10.toNat Z2)).cells) (full := false) I s33 I I hg19 I) I <| Z1 I (st_loadIA (cs := (Z3 (a0.Edges.getD v10.toNat Z2)).cells) (vs := (Z3 (a0.Edges.getD v10.toNat Z2)).cells) I a64 I I I) I <| Z1 I (st_alloc (cs := [(.int .i64 0), (.int .i64 0)]) I z64 I I I) I <| Z1 I (st_storeP (cs := [(.int .i64 0), (.int .i64 0)]) (vs := (Z3 (a0.Edges.getD v10.toNat Z2)).cells) (ds := (Z3 (a0.Edges.getD v10.toNat Z2)).cells) (v := (Z3 (a0.Edges.getD v10.toNat Z2))) sz64 I I I I I I I I) I <| Zb <| Ze <| Zf <| AWp.regionD mixed ?_
     refine Zd 0 I (Z9 (v := (.vs 3)) I I) <| Zd 1 I (Z10 (m := 11) (o := 0) I f64_0 I I) <| Zd 2 I (Zu (cs := (Z3 (a0.Edges.getD v10.toNat Z2)).cells) (v := (.int .i64 (a0.Edges.getD v10.toNat Z2).From)) I o3 I I I) ?_
     have ⟨hg20, h⟩ := Zi h
     refine Zd 3 I (st_indexV (k := .i64) (v := (.vs 3)) (n := 3) (off := 0) (len := v7.length) (es := (List.map Z8 v7)) (j := (a0.Edges.getD v10.toNat Z2).From) (m := (a0.Edges.getD v10.toNat Z2).From.toNat) I s29 I I (vecR_map _ _ _) I hg20 (Nat.zero_add _)) ?_
     have ⟨hg21, h⟩ := Zi h
     refine Zd 4 I (st_loadV (l := v7) (enc := Z8) (z := 0) (v := (.int .i64 (v7.getD (a0.Edges.getD v10.toNat Z2).From.toNat 0))) I o3 I I hg21 I) <| Zd 5 I (Z9 (v := (.vs 3)) I I) <| Zd 6 I (Z10 (m := 11) (o := 0) I f64_1 I I) <| Zd 7 I (Zu (cs := (Z3 (a0.Edges.getD v10.toNat Z2)).cells) (v := (.int .i64 (a0.Edges.getD v10.toNat Z2).To)) I o3 I I I) ?_
     have ⟨hg22, h⟩ := Zi h
     refine Zd 8 I (st_indexV (k := .i64) (v := (.vs 3)) (n := 3) (off := 0) (len := v7.length) (es := (List.map Z8 v7)) (j := (a0.Edges.getD v10.toNat Z2).To) (m := (a0.Edges.getD v10.toNat Z2).To.toNat) I s29 I I (vecR_map _ _ _) I hg22 (Nat.zero_add _)) ?_
     have ⟨hg23, h⟩ := Zi h
     refine Zd 9 I (st_loadV (l := v7) (enc := Z8) (z := 0) (v := (.int .i64 (v7.getD (a0.Edges.getD v10.toNat Z2).To.toNat 0))) I o3 I I hg23 I) <| Zd 10 I (st_cmp (k := .i64) (a := (v7.getD (a0.Edges.getD v10.toNat Z2).From.toNat 0)) (b := (v7.getD (a0.Edges.getD v10.toNat Z2).To.toNat 0)) (c := ((v7.getD (a0.Edges.getD v10.toNat Z2).From.toNat 0) != (v7.getD (a0.Edges.getD v10.toNat Z2).To.toNat 0))) I I I I) <| AOpsD.nil (by kernel_rfl) I <| Ze ?_
     refine AWp.join (V := (List Z7)) (lp := fun v => F26_j25 K (F26_l12 K a0 v7 (F26_c14 K v2 v7) k12) v10 v = some r) (sh := fun v => ⟨[(2, (.ptr 2 0)), (3, (.vs 3)), (4, (.sl 1 (v2.map Zg) false)), (9, (.vs 9)), (37, (.sl 2 (a0.Edges.map Z3) false)), (38, (.int .i64 (a0.Edges.length : Int))), (39, (.int .i64 v10))], [(2, (.box [(.int .i64 0), (.sl 2 [] false)])), (3, (.vec 1 (List.map Z8 v7))), (9, (.vec 2 (List.map Z3 v)))]⟩) ?_ ?_
     ·intro v h
      revert h
      revert v
      intro v24 h
      try dsimp only at h ⊢
      unfold F26_j25 at h
      refine At.end <| Ze <| Z6 <| Z1 I (st_arith (k := .i64) (a := v10) (b := 1) (c := (IntKind.i64.wrap (v10 + 1))) I I I I) I <| Z1 I (Z9 (v := (.int .i64 (IntKind.i64.wrap (v10 + 1)))) I I) I <| Zb ?_
      exact Zl (st' := ⟨[(2, (.ptr 2 0)), (3, (.vs 3)), (4, (.sl 1 (v2.map Zg) false)), (9, (.vs 9)), (37, (.sl 2 (a0.Edges.map Z3) false)), (38, (.int .i64 (a0.Edges.length : Int))), (39, (.int .i64 (IntKind.i64.wrap (v10 + 1))))], [(2, (.box [(.int .i64 0), (.sl 2 [] false)])), (3, (.vec 1 (List.map Z8 v7))), (9, (.vec 2 (List.map Z3 v24)))]⟩) ⟨rfl, rfl, rfl, rfl, rfl, rfl, rfl, trivial⟩ ⟨rfl, rfl, rfl, trivial⟩ (IH12 _ ((IntKind.i64.wrap (v10 + 1)), v24) (Nat.lt_succ_self _) h)
     ·intro J25
      have hif := of_if h
      refine Zv I (fun hc => ?_) (fun hc => ?_)
      ·have h := hif.1 hc
       refine AWp.regionD mixed <| Zd 0 I (Z9 (v := (.vs 9)) I I) <| Zd 1 I (Z9 (v := (.vs 3)) I I) <| Zd 2 I (Z10 (m := 11) (o := 0) I f64_0 I I) <| Zd 3 I (Zu (cs := (Z3 (a0.Edges.getD v10.toNat Z2)).cells) (v := (.int .i64 (a0.Edges.getD v10.toNat Z2).From)) I o3 I I I) ?_
       have ⟨hg26, h⟩ := Zi h
       refine Zd 4 I (st_indexV (k := .i64) (v := (.vs 3)) (n := 3) (off := 0) (len := v7.length) (es := (List.map Z8 v7)) (j := (a0.Edges.getD v10.toNat Z2).From) (m := (a0.Edges.getD v10.toNat Z2).From.toNat) I s29 I I (vecR_map _ _ _) I hg26 (Nat.zero_add _)) ?_
       have ⟨hg27, h⟩ := Zi h
       refine Zd 5 I (st_loadV (l := v7) (enc := Z8) (z := 0) (v := (.int .i64 (v7.getD (a0.Edges.getD v10.toNat Z2).From.toNat 0))) I o3 I I hg27 I) <| Zd 6 I (Z9 (v := (.vs 3)) I I) <| Zd 7 I (Z10 (m := 11) (o := 0) I f64_1 I I) <| Zd 8 I (Zu (cs := (Z3 (a0.Edges.getD v10.toNat Z2)).cells) (v := (.int .i64 (a0.Edges.getD v10.toNat Z2).To)) I o3 I I I) ?_
       have ⟨hg28, h⟩ := Zi h
       refine Zd 9 I (st_indexV (k := .i64) (v := (.vs 3)) (n := 3) (off := 0) (len := v7.length) (es := (List.map Z8 v7)) (j := (a0.Edges.getD v10.toNat Z2).To) (m := (a0.Edges.getD v10.toNat Z2).To.toNat) I s29 I I (vecR_map _ _ _) I hg28 (Nat.zero_add _)) ?_
       have ⟨hg29, h⟩ := Zi h
       refine Zd 10 I (st_loadV (l := v7) (enc := Z8) (z := 0) (v := (.int .i64 (v7.getD (a0.Edges.getD v10.toNat Z2).To.toNat 0))) I o3 I I hg29 I) <| Zd 11 I (stx_build (vs := [(0, (.int .i64 (v7.getD (a0.Edges.getD v10.toNat Z2).From.toNat 0))), (1, (.int .i64 (v7.getD (a0.Edges.getD v10.toNat Z2).To.toNat 0)))]) (cs := [(.int .i64 (v7.getD (a0.Edges.getD v10.toNat Z2).From.toNat 0)), (.int .i64 (v7.getD (a0.Edges.getD v10.toNat Z2).To.toNat 0))]) I st64 ⟨rfl, rfl, rfl, rfl, trivial⟩ I) <| Zd 12 I (stx_buildSlice (vs := [(.ag [(.int .i64 (v7.getD (a0.Edges.getD v10.toNat Z2).From.toNat 0)), (.int .i64 (v7.getD (a0.Edges.getD v10.toNat Z2).To.toNat 0))])]) (enc := Z3) (l := [(⟨(v7.getD (a0.Edges.getD v10.toNat Z2).From.toNat 0), (v7.getD (a0.Edges.getD v10.toNat Z2).To.toNat 0)⟩ : Z7)]) I el33 I I ⟨rfl, trivial⟩ I els_Tgraph_Edge I I I I) ?_
       have ⟨hg30, h⟩ := Zi h
       refine Zd 13 I (st_append (m := 9) (enc := Z3) (l := v11) (l' := [(⟨(v7.getD (a0.Edges.getD v10.toNat Z2).From.toNat 0), (v7.getD (a0.Edges.getD v10.toNat Z2).To.toNat 0)⟩ : Z7)]) (src := (.vs 66)) (rd := [(66, (.vec 2 (List.map Z3 [(⟨(v7.getD (a0.Edges.getD v10.toNat Z2).From.toNat 0), (v7.getD (a0.Edges.getD v10.toNat Z2).To.toNat 0)⟩ : Z7)])))]) I I el33 I u33 I I I I (oneRead I) els_Tgraph_Edge hg30) <| Zd 14 I (Zh (v := (.vs 9)) I I) <| AOpsD.nil (by kernel_rfl) I ?_
       exact Zl (st' := ⟨[(2, (.ptr 2 0)), (3, (.vs 3)), (4, (.sl 1 (v2.map Zg) false)), (9, (.vs 9)), (37, (.sl 2 (a0.Edges.map Z3) false)), (38, (.int .i64 (a0.Edges.length : Int))), (39, (.int .i64 v10))], [(2, (.box [(.int .i64 0), (.sl 2 [] false)])), (3, (.vec 1 (List.map Z8 v7))), (9, (.vec 2 (List.map Z3 (v11 ++ [(⟨(v7.getD (a0.Edges.getD v10.toNat Z2).From.toNat 0), (v7.getD (a0.Edges.getD v10.toNat Z2).To.toNat 0)⟩ : Z7)]))))]⟩) ⟨rfl, rfl, rfl, rfl, rfl, rfl, rfl, trivial⟩ ⟨rfl, rfl, rfl, trivial⟩ (J25 (v11 ++ [(⟨(v7.getD (a0.Edges.getD v10.toNat Z2).From.toNat 0), (v7.getD (a0.Edges.getD v10.toNat Z2).To.toNat 0)⟩ : Z7)]) h)
      ·have h := hif.2 hc
       refine Zy ?_
       exact Zl (st' := ⟨[(2, (.ptr 2 0)), (3, (.vs 3)), (4, (.sl 1 (v2.map Zg) false)), (9, (.vs 9)), (37, (.sl 2 (a0.Edges.map Z3) false)), (38, (.int .i64 (a0.Edges.length : Int))), (39, (.int .i64 v10))], [(2, (.box [(.int .i64 0), (.sl 2 [] false)])), (3, (.vec 1 (List.map Z8 v7))), (9, (.vec 2 (List.map Z3 v11)))]⟩) ⟨rfl, rfl, rfl, rfl, rfl, rfl, rfl, trivial⟩ ⟨rfl, rfl, rfl, trivial⟩ (J25 v11 h)
    ·have h := hif.2 hc
     refine AWp.exit <| At.thru ?_
     exact Zl (st' := ⟨[(2, (.ptr 2 0)), (3, (.vs 3)), (4, (.sl 1 (v2.map Zg) false)), (9, (.vs 9))], [(2, (.box [(.int .i64 0), (.sl 2 [] false)])), (3, (.vec 1 (List.map Z8 v7))), (9, (.vec 2 (List.map Z3 v11)))]⟩) ⟨rfl, rfl, rfl, rfl, trivial⟩ ⟨rfl, rfl, rfl, trivial⟩ (J12 v11 h)
 ·intro N k6 v h IH6 J6
  obtain ⟨v4, v5⟩ := v
  try dsimp only at h IH6 J6 ⊢
  cases k6 with
  | zero => cases h
  | succ k6 =>
   rw [F26_l6] at h
   refine Zf <| Z6 <| Z1 I (st_cmp (k := .i64) (a := v4) (b := (v2.length : Int)) (c := (decide (v4 < (v2.length : Int)))) I I I I) I <| Zb <| Ze <| Zf ?_
   have hif := of_if h
   refine Zv I (fun hc => ?_) (fun hc => ?_)
   ·have h := hif.1 hc
    refine Zy <| Ze <| Zf <| AWp.block <| Zf <| Z6 <| Z1 I (Z9 (v := (.int .i64 v4)) I I) I ?_
    have ⟨hg32, h⟩ := Zi h
    refine Z1 I (st_index (k := .i64) (l := v2) (enc := Zg) (z := []) (n := v4) (cs := [(.sl 1 ((v2.getD v4.toNat []).map Z8) false)]) (full := false) I s46 I I hg32 I) I <| Z1 I (st_loadI (cs := [(.sl 1 ((v2.getD v4.toNat []).map Z8) false)]) (v := (.sl 1 ((v2.getD v4.toNat []).map Z8) false)) I o29 I I) I <| Z1 I (Zh (v := (.int .i64 v4)) I I) I <| Z1 I (Zh (v := (.sl 1 ((v2.getD v4.toNat []).map Z8) false)) I I) I <| Zb <| Ze <| Zf <| Z6 ?_
    refine Z1 I (Z9 (v := (.sl 1 ((v2.getD v4.toNat []).map Z8) false)) I I) I <| Z1 I (stx_len (l := (v2.getD v4.toNat [])) (enc := Z8) I s29 I) I <| Z1 I (Z9 (v := (.int .i64 0)) I I) I <| Zb <| Ze <| AWp.weaken (st' := ⟨[(1, (.ptr 1 0)), (2, (.ptr 2 0)), (3, (.vs 3)), (4, (.sl 1 (v2.map Zg) false)), (5, (.int .i64 v4)), (17, (.sl 1 (v2.map Zg) false)), (18, (.int .i64 (v2.length : Int))), (19, (.int .i64 v4)), (24, (.sl 1 ((v2.getD v4.toNat []).map Z8) false)), (25, (.int .i64 ((v2.getD v4.toNat []).length : Int))), (26, (.int .i64 0))], [(1, (.box (Z4 a0).cells)), (2, (.box [(.int .i64 0), (.sl 2 [] false)])), (3, (.vec 1 (List.map Z8 v5)))]⟩) ⟨rfl, rfl, rfl, rfl, rfl, rfl, rfl, rfl, rfl, rfl, rfl, trivial⟩ ⟨rfl, rfl, rfl, trivial⟩ ?_
    refine Zw (V := Int × (List Int)) (X := (List Int)) (lp := fun k v => F26_l35 K v2 v4 (F26_c37 K (F26_l6 K v2 (F26_c8 K a0 v2) k6) v4) k v.1 v.2 = some r) (sh := fun v => ⟨[(1, (.ptr 1 0)), (2, (.ptr 2 0)), (3, (.vs 3)), (4, (.sl 1 (v2.map Zg) false)), (5, (.int .i64 v4)), (17, (.sl 1 (v2.map Zg) false)), (18, (.int .i64 (v2.length : Int))), (19, (.int .i64 v4)), (24, (.sl 1 ((v2.getD v4.toNat []).map Z8) false)), (25, (.int .i64 ((v2.getD v4.toNat []).length : Int))), (26, (.int .i64 v.1))], [(1, (.box (Z4 a0).cells)), (2, (.box [(.int .i64 0), (.sl 2 [] false)])), (3, (.vec 1 (List.map Z8 v.2)))]⟩) (x := fun v => F26_c37 K (F26_l6 K v2 (F26_c8 K a0 v2) k6) v4 v = some r) (shx := fun v => ⟨[(1, (.ptr 1 0)), (2, (.ptr 2 0)), (3, (.vs 3)), (4, (.sl 1 (v2.map Zg) false)), (17, (.sl 1 (v2.map Zg) false)), (18, (.int .i64 (v2.length : Int))), (19, (.int .i64 v4))], [(1, (.box (Z4 a0).cells)), (2, (.box [(.int .i64 0), (.sl 2 [] false)])), (3, (.vec 1 (List.map Z8 v)))]⟩) (k := K) (v := (0, v5)) h ?_ ?_
    ·intro v h
     revert h
     revert v
     intro v36 h
     try dsimp only at h ⊢
     unfold F26_c37 at h
     refine At.end <| Ze <| Z6 <| Z1 I (st_arith (k := .i64) (a := v4) (b := 1) (c := (IntKind.i64.wrap (v4 + 1))) I I I I) I <| Z1 I (Z9 (v := (.int .i64 (IntKind.i64.wrap (v4 + 1)))) I I) I <| Zb ?_
     exact Zl (st' := ⟨[(1, (.ptr 1 0)), (2, (.ptr 2 0)), (3, (.vs 3)), (4, (.sl 1 (v2.map Zg) false)), (17, (.sl 1 (v2.map Zg) false)), (18, (.int .i64 (v2.length : Int))), (19, (.int .i64 (IntKind.i64.wrap (v4 + 1))))], [(1, (.box (Z4 a0).cells)), (2, (.box [(.int .i64 0), (.sl 2 [] false)])), (3, (.vec 1 (List.map Z8 v36)))]⟩) ⟨rfl, rfl, rfl, rfl, rfl, rfl, rfl, trivial⟩ ⟨rfl, rfl, rfl, trivial⟩ (IH6 _ ((IntKind.i64.wrap (v4 + 1)), v36) (Nat.lt_succ_self _) h)
    ·intro N k35 v h IH35 J35
     obtain ⟨v33, v34⟩ := v
     try dsimp only at h IH35 J35 ⊢
     cases k35 with
     | zero => cases h
     | succ k35 =>
      rw [F26_l35] at h
      refine Zf <| Z6 <| Z1 I (st_cmp (k := .i64) (a := v33) (b := ((v2.getD v4.toNat []).length : Int)) (c := (decide (v33 < ((v2.getD v4.toNat []).length : Int)))) I I I I) I <| Zb <| Ze <| Zf ?_
      have hif := of_if h
      refine Zv I (fun hc => ?_) (fun hc => ?_)
      ·have h := hif.1 hc
       refine Zy <| Ze <| Zf <| AWp.block <| Zf <| Z6 ?_
       have ⟨hg40, h⟩ := Zi h
       refine Z1 I (st_index (k := .i64) (l := (v2.getD v4.toNat [])) (enc := Z8) (z := 0) (n := v33) (cs := [(.int .i64 ((v2.getD v4.toNat []).getD v33.toNat 0))]) (full := false) I s29 I I hg40 I) I <| Z1 I (st_loadI (cs := [(.int .i64 ((v2.getD v4.toNat []).getD v33.toNat 0))]) (v := (.int .i64 ((v2.getD v4.toNat []).getD v33.toNat 0))) I o3 I I) I <| Z1 I (Zh (v := (.int .i64 ((v2.getD v4.toNat []).getD v33.toNat 0))) I I) I <| Zb <| Ze <| Z6 <| Z1 I (Z9 (v := (.vs 3)) I I) I <| Z1 I (Z9 (v := (.int .i64 ((v2.getD v4.toNat []).getD v33.toNat 0))) I I) I ?_
       refine Z1 I (Z9 (v := (.int .i64 v4)) I I) I ?_
       have ⟨hg41, h⟩ := Zi h
       refine Z1 I (st_indexV (k := .i64) (v := (.vs 3)) (n := 3) (off := 0) (len := v34.length) (es := (List.map Z8 v34)) (j := ((v2.getD v4.toNat []).getD v33.toNat 0)) (m := ((v2.getD v4.toNat []).getD v33.toNat 0).toNat) I s29 I I (vecR_map _ _ _) I hg41 (Nat.zero_add _)) I ?_
       have ⟨hg42, h⟩ := Zi h
       refine Z1 I (st_storeV (l := v34) (enc := Z8) (z := 0) (a := v4) (v := (.int .i64 v4)) sz3 I I hg42 I els_i64 I I I I) I <| Zb <| At.end <| Ze <| Z6 <| Z1 I (st_arith (k := .i64) (a := v33) (b := 1) (c := (IntKind.i64.wrap (v33 + 1))) I I I I) I <| Z1 I (Z9 (v := (.int .i64 (IntKind.i64.wrap (v33 + 1)))) I I) I <| Zb ?_
       exact Zl (st' := ⟨[(1, (.ptr 1 0)), (2, (.ptr 2 0)), (3, (.vs 3)), (4, (.sl 1 (v2.map Zg) false)), (5, (.int .i64 v4)), (17, (.sl 1 (v2.map Zg) false)), (18, (.int .i64 (v2.length : Int))), (19, (.int .i64 v4)), (24, (.sl 1 ((v2.getD v4.toNat []).map Z8) false)), (25, (.int .i64 ((v2.getD v4.toNat []).length : Int))), (26, (.int .i64 (IntKind.i64.wrap (v33 + 1))))], [(1, (.box (Z4 a0).cells)), (2, (.box [(.int .i64 0), (.sl 2 [] false)])), (3, (.vec 1 (List.map Z8 (v34.set ((v2.getD v4.toNat []).getD v33.toNat 0).toNat v4))))]⟩) ⟨rfl, rfl, rfl, rfl, rfl, rfl, rfl, rfl, rfl, rfl, rfl, trivial⟩ ⟨rfl, rfl, rfl, trivial⟩ (IH35 _ ((IntKind.i64.wrap (v33 + 1)), (v34.set ((v2.getD v4.toNat []).getD v33.toNat 0).toNat v4)) (Nat.lt_succ_self _) h)
      ·have h := hif.2 hc
       refine AWp.exit <| At.thru ?_
       exact Zl (st' := ⟨[(1, (.ptr 1 0)), (2, (.ptr 2 0)), (3, (.vs 3)), (4, (.sl 1 (v2.map Zg) false)), (17, (.sl 1 (v2.map Zg) false)), (18, (.int .i64 (v2.length : Int))), (19, (.int .i64 v4))], [(1, (.box (Z4 a0).cells)), (2, (.box [(.int .i64 0), (.sl 2 [] false)])), (3, (.vec 1 (List.map Z8 v34)))]⟩) ⟨rfl, rfl, rfl, rfl, rfl, rfl, rfl, trivial⟩ ⟨rfl, rfl, rfl, trivial⟩ (J35 v34 h)
   ·have h := hif.2 hc
    refine AWp.exit <| At.thru ?_
    exact Zl (st' := ⟨[(1, (.ptr 1 0)), (2, (.ptr 2 0)), (3, (.vs 3)), (4, (.sl 1 (v2.map Zg) false))], [(1, (.box (Z4 a0).cells)), (2, (.box [(.int .i64 0), (.sl 2 [] false)])), (3, (.vec 1 (List.map Z8 v5)))]⟩) ⟨rfl, rfl, rfl, rfl, trivial⟩ ⟨rfl, rfl, rfl, trivial⟩ (J6 v5 h)
end Go.AM.Gra
