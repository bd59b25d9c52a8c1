/- What these functions compute, each with its walk: F55, F57, F58, F35, F47, F50, F51, F49, F54, F24, F30, F46. -/
import Derived.Test.YtcfcnnkaiboddaaGraT
namespace Go.AM.Gra
open Go Go.AM Go.Proofs
set_option maxRecDepth 100000
set_option maxHeartbeats 2000000
def F55 (K : Nat) (a0 : (List Z7)) : Option ((List Z7)) :=
 if ([] : List Z7).length + a0.length ≤ 1073741824 then
  some a0
 else none
theorem F55_ok (K : Nat) (a0 : (List Z7)) (r : (List Z7)) (h : F55 K a0 = some r) : ACall P 55 ⟨[(.sl 2 (a0.map Z3) false)], [], .vs 2, [(2, .vec 2 (List.map Z3 r))], [2]⟩ := by
 refine acall_of Try.func55 Try.results55 rfl Try.ntmps55 rfl rfl rfl ?_
 intro E Q hP hN hro hret
 obtain ⟨P', nt', w0, F0, p0, S0, β0, ro0⟩ := E
 simp only at hP hN
 subst hP hN
 dsimp only [argT]
 unfold F55 at h
 refine Zf <| Z6 <| Z1 I (Zh (v := (.sl 2 [] true)) I I) I <| Zb <| Ze <| Zf <| Zf <| Z6 ?_
 refine Z1 I (Z9 (v := (.sl 2 (a0.map Z3) false)) I I) I ?_
 refine AOps.consNil (enc := Z3) (es := a0) (full := false) I u33 I (fun x1 hbx1 => ?_)
 refine Zb <| Ze ?_
 refine Zv I (fun hc => ?_) (fun hc => ?_)
 ·have hz := hbx1 hc
  have h : (some []) = some r := by simp only [hz] at h ⊢; simpa using h
  refine Zf <| Z6 <| Z1 I (Zh (v := (.sl 2 [] true)) I I) I <| Zb <| Ze <| AWp.ret <| At.thruR <| At.ghost (st' := ⟨[(2, (.vs 2))], [(2, (.vec 2 (List.map Z3 ([] : List Z7))))]⟩) (fun a w h => (Zp ⟨[(2, (.vs 2))], [(2, (.vec 2 (List.map Z3 ([] : List Z7))))]⟩ (ghost_own (k := 2) (m := 2) (sz := 2) I I a w (Zp ⟨[(2, (.sl 2 [] true))], []⟩ h ⟨rfl, trivial⟩ trivial)) ⟨rfl, trivial⟩ ⟨rfl, trivial⟩)) ?_
  have h := Option.some.inj h
  subst h
  refine (hret _ ?_).1
  exact ⟨[(.vs 2)], ⟨rfl, trivial⟩, rfl, ⟨rfl, trivial⟩⟩
 ·refine Zy <| Ze <| Zf <| Z6 <| Z1 I (stx_buildSlice (vs := []) (enc := Z3) (l := ([] : List Z7)) I el33 I I trivial I els_Tgraph_Edge I I I I) I <| Z1 I (Z9 (v := (.sl 2 (a0.map Z3) false)) I I) I ?_
  have ⟨hg2, h⟩ := Zi h
  refine Z1 I (st_append (m := 5) (enc := Z3) (l := ([] : List Z7)) (l' := a0) (src := (.sl 2 (a0.map Z3) false)) (rd := []) I I el33 I u33 I I I ⟨rfl, rfl, rfl⟩ noReads els_Tgraph_Edge hg2) I <| Z1 I (Zh (v := (.vs 5)) I I) I <| Zb <| Ze <| AWp.ret <| At.ghost (st' := ⟨[(2, (.vs 2))], [(2, (.vec 2 (List.map Z3 a0)))]⟩) (fun a w h => (Zp ⟨[(2, (.vs 2))], [(2, (.vec 2 (List.map Z3 a0)))]⟩ (ghost_sw (a := 5) (b := 2) I I a w (Zp ⟨[(2, (.vs 5))], [(5, (.vec 2 (List.map Z3 a0)))]⟩ h ⟨rfl, trivial⟩ ⟨rfl, trivial⟩)) ⟨rfl, trivial⟩ ⟨rfl, trivial⟩)) ?_
  have h := Option.some.inj h
  subst h
  refine (hret _ ?_).1
  exact ⟨[(.vs 2)], ⟨rfl, trivial⟩, rfl, ⟨rfl, trivial⟩⟩
def F57 (K : Nat) (a0 : Z7) (a1 : Z7) : Option (Int) :=
 if (a0.From != a1.From) = true then
  some (IntKind.i64.wrap (a0.From - a1.From))
 else
  some (IntKind.i64.wrap (a0.To - a1.To))
theorem F57_ok (K : Nat) (a0 : Z7) (a1 : Z7) (r : Int) (h : F57 K a0 a1 = some r) : ACall P 57 ⟨[(Z3 a0), (Z3 a1)], [], (.int .i64 r), [], []⟩ := by
 refine acall_of Try.func57 Try.results57 rfl Try.ntmps57 rfl rfl rfl ?_
 intro E Q hP hN hro hret
 obtain ⟨P', nt', w0, F0, p0, S0, β0, ro0⟩ := E
 simp only at hP hN
 subst hP hN
 dsimp only [argT]
 unfold F57 at h
 refine Zf <| Z6 <| Z1 I (st_box (v := (Z3 a0)) (cs := (Z3 a0).cells) I I I I I) I <| Z1 I (st_box (v := (Z3 a1)) (cs := (Z3 a1).cells) I I I I I) I <| Z1 I (Zh (v := (.int .i64 0)) I I) I <| Zb <| Ze <| Zf ?_
 refine Zf <| Z6 <| Z1 I (Z10 (m := 2) (o := 0) I f64_0 I I) I <| Z1 I (Zu (cs := (Z3 a0).cells) (v := (.int .i64 a0.From)) I o3 I I I) I <| Z1 I (Z10 (m := 3) (o := 0) I f64_0 I I) I <| Z1 I (Zu (cs := (Z3 a1).cells) (v := (.int .i64 a1.From)) I o3 I I I) I <| Z1 I (st_cmp (k := .i64) (a := a0.From) (b := a1.From) (c := (a0.From != a1.From)) I I I I) I <| Zb ?_
 refine Ze ?_
 have hif := of_if h
 refine Zv I (fun hc => ?_) (fun hc => ?_)
 ·have h := hif.1 hc
  refine Zf <| Z6 <| Z1 I (Z10 (m := 2) (o := 0) I f64_0 I I) I <| Z1 I (Zu (cs := (Z3 a0).cells) (v := (.int .i64 a0.From)) I o3 I I I) I <| Z1 I (Z10 (m := 3) (o := 0) I f64_0 I I) I <| Z1 I (Zu (cs := (Z3 a1).cells) (v := (.int .i64 a1.From)) I o3 I I I) I <| Z1 I (st_arith (k := .i64) (a := a0.From) (b := a1.From) (c := (IntKind.i64.wrap (a0.From - a1.From))) I I I I) I <| Z1 I (Zh (v := (.int .i64 (IntKind.i64.wrap (a0.From - a1.From)))) I I) I ?_
  refine Zb <| Ze <| AWp.ret <| At.thruR ?_
  have h := Option.some.inj h
  subst h
  refine (hret _ ?_).1
  exact ⟨[(.int .i64 (IntKind.i64.wrap (a0.From - a1.From)))], ⟨rfl, trivial⟩, rfl, trivial⟩
 ·have h := hif.2 hc
  refine Zy <| Ze <| Zf <| Z6 <| Z1 I (Z10 (m := 2) (o := 0) I f64_1 I I) I <| Z1 I (Zu (cs := (Z3 a0).cells) (v := (.int .i64 a0.To)) I o3 I I I) I <| Z1 I (Z10 (m := 3) (o := 0) I f64_1 I I) I <| Z1 I (Zu (cs := (Z3 a1).cells) (v := (.int .i64 a1.To)) I o3 I I I) I ?_
  refine Z1 I (st_arith (k := .i64) (a := a0.To) (b := a1.To) (c := (IntKind.i64.wrap (a0.To - a1.To))) I I I I) I <| Z1 I (Zh (v := (.int .i64 (IntKind.i64.wrap (a0.To - a1.To)))) I I) I <| Zb <| Ze <| AWp.ret ?_
  have h := Option.some.inj h
  subst h
  refine (hret _ ?_).1
  exact ⟨[(.int .i64 (IntKind.i64.wrap (a0.To - a1.To)))], ⟨rfl, trivial⟩, rfl, trivial⟩
def F58_c3 (K : Nat) (a0 : (List Z7)) : Option ((List Z7)) :=
 some a0
def F58_c18 (K : Nat) (v16 : Int) (v17 : (List Z7)) : Option ((List Z7)) :=
 if (0 : Int) ≤ v16 ∧ v16 ≤ (v17.length : Int) ∧ (v17.length : Int) ≤ (v17.length : Nat) then
  if (0 + v16.toNat) + ((v17.length : Int).toNat - v16.toNat) ≤ v17.length then
   if (0 + v16.toNat) + ((v17.length : Int).toNat - v16.toNat) ≤ v17.length then
    if (0 : Int) ≤ 0 ∧ 0 ≤ v16 ∧ v16 ≤ ((v17.take (0 + v16.toNat) ++ List.replicate ((v17.length : Int).toNat - v16.toNat) Z2 ++ v17.drop ((0 + v16.toNat) + ((v17.length : Int).toNat - v16.toNat))).length : Nat) then
     if (0 + (0 : Int).toNat) + (v16.toNat - (0 : Int).toNat) ≤ (v17.take (0 + v16.toNat) ++ List.replicate ((v17.length : Int).toNat - v16.toNat) Z2 ++ v17.drop ((0 + v16.toNat) + ((v17.length : Int).toNat - v16.toNat))).length then
      some (((v17.take (0 + v16.toNat) ++ List.replicate ((v17.length : Int).toNat - v16.toNat) Z2 ++ v17.drop ((0 + v16.toNat) + ((v17.length : Int).toNat - v16.toNat))).drop (0 + (0 : Int).toNat)).take (v16.toNat - (0 : Int).toNat))
     else none
    else none
   else none
  else none
 else none
def F58_j35 (K : Nat) (b25 : Int → Int → (List Z7) → Option ((List Z7))) (v13 : Int) (v33 : Int) (v34 : (List Z7)) : Option ((List Z7)) :=
 b25 v33 (IntKind.i64.wrap (v13 + 1)) v34
def F58_l15 (K : Nat) (v1 : Int) (a0 : (List Z7)) (c19 : Int → (List Z7) → Option ((List Z7))) : Nat → Int → Int → (List Z7) → Option ((List Z7))
 | 0, _, _, _ => none
 | k15 + 1, v12, v13, v14 =>
  if (0 + v1.toNat) + ((a0.length : Int).toNat - v1.toNat) ≤ v14.length then
   if (decide (v13 < ((((a0.length : Int).toNat - v1.toNat) : Nat) : Int))) = true then
    if (0 + v1.toNat) + ((a0.length : Int).toNat - v1.toNat) ≤ v14.length then
     if (0 : Int) ≤ v13 ∧ v13 < (((a0.length : Int).toNat - v1.toNat) : Nat) then
      if ((0 + v1.toNat) + v13.toNat) < v14.length then
       if (0 + v1.toNat) + ((a0.length : Int).toNat - v1.toNat) ≤ v14.length then
        if (0 : Int) ≤ (IntKind.i64.wrap (v13 - 1)) ∧ (IntKind.i64.wrap (v13 - 1)) < (((a0.length : Int).toNat - v1.toNat) : Nat) then
         if ((0 + v1.toNat) + (IntKind.i64.wrap (v13 - 1)).toNat) < v14.length then
          if (!(((v14.getD ((0 + v1.toNat) + v13.toNat) Z2).From == (v14.getD ((0 + v1.toNat) + (IntKind.i64.wrap (v13 - 1)).toNat) Z2).From) && (((v14.getD ((0 + v1.toNat) + v13.toNat) Z2).To == (v14.getD ((0 + v1.toNat) + (IntKind.i64.wrap (v13 - 1)).toNat) Z2).To) && true))) = true then
           if (0 + v1.toNat) + ((a0.length : Int).toNat - v1.toNat) ≤ v14.length then
            if (0 : Int) ≤ v13 ∧ v13 < (((a0.length : Int).toNat - v1.toNat) : Nat) then
             if ((0 + v1.toNat) + v13.toNat) < v14.length then
              if (0 : Int) ≤ v12 ∧ v12 < (v14.length : Nat) then
               if v12.toNat < v14.length then
                F58_j35 K (F58_l15 K v1 a0 c19 k15) v13 (IntKind.i64.wrap (v12 + 1)) (v14.set v12.toNat (v14.getD ((0 + v1.toNat) + v13.toNat) Z2))
               else none
              else none
             else none
            else none
           else none
          else
           F58_j35 K (F58_l15 K v1 a0 c19 k15) v13 v12 v14
         else none
        else none
       else none
      else none
     else none
    else none
   else
    c19 v12 v14
  else none
def F58_l2 (K : Nat) (a0 : (List Z7)) (c4 : Option ((List Z7))) : Nat → Int → Option ((List Z7))
 | 0, _ => none
 | k2 + 1, v1 =>
  if (decide (v1 < (a0.length : Int))) = true then
   if (0 : Int) ≤ v1 ∧ v1 < (a0.length : Nat) then
    if v1.toNat < a0.length then
     if (0 : Int) ≤ (IntKind.i64.wrap (v1 - 1)) ∧ (IntKind.i64.wrap (v1 - 1)) < (a0.length : Nat) then
      if (IntKind.i64.wrap (v1 - 1)).toNat < a0.length then
       if (((a0.getD v1.toNat Z2).From == (a0.getD (IntKind.i64.wrap (v1 - 1)).toNat Z2).From) && (((a0.getD v1.toNat Z2).To == (a0.getD (IntKind.i64.wrap (v1 - 1)).toNat Z2).To) && true)) = true then
        if (0 : Int) ≤ v1 ∧ v1 ≤ (a0.length : Int) ∧ (a0.length : Int) ≤ (a0.length : Nat) then
         if (0 + v1.toNat) + ((a0.length : Int).toNat - v1.toNat) ≤ a0.length then
          F58_l15 K v1 a0 (F58_c18 K) K v1 1 a0
         else none
        else none
       else
        (F58_l2 K a0 c4 k2) (IntKind.i64.wrap (v1 + 1))
      else none
     else none
    else none
   else none
  else
   c4
def F58 (K : Nat) (a0 : (List Z7)) : Option ((List Z7)) :=
 if (decide ((a0.length : Int) < 2)) = true then
  some a0
 else
  F58_l2 K a0 (F58_c3 K a0) K 1
theorem F58_ok (K : Nat) (a0 : (List Z7)) (r : (List Z7)) (h : F58 K a0 = some r) : ACall P 58 ⟨[(.vs 0)], [(0, .vec 2 (List.map Z3 a0))], .vs 0, [(0, .vec 2 (List.map Z3 r))], [0]⟩ := by
 refine acall_of Try.func58 Try.results58 rfl Try.ntmps58 rfl rfl rfl ?_
 intro E Q hP hN hro hret
 obtain ⟨P', nt', w0, F0, p0, S0, β0, ro0⟩ := E
 simp only at hP hN
 subst hP hN
 dsimp only [argT]
 unfold F58 at h
 refine Zf <| Z6 <| Z1 I (Zh (v := (.sl 2 [] false)) I I) I <| Zb <| Ze <| Zf <| Zf <| Z6 ?_
 refine Z1 I (Z9 (v := (.vs 0)) I I) I <| Z1 I (stx_lenV (l := a0) (enc := Z3) I u33 I I) I <| Z1 I (st_cmp (k := .i64) (a := (a0.length : Int)) (b := 2) (c := (decide ((a0.length : Int) < 2))) I I I I) I <| Zb <| Ze ?_
 have hif := of_if h
 refine Zv I (fun hc => ?_) (fun hc => ?_)
 ·have h := hif.1 hc
  refine Zf <| Z6 <| Z1 I (Z9 (v := (.vs 0)) I I) I <| Z1 I (Zh (v := (.vs 0)) I I) I <| Zb <| Ze <| AWp.ret <| At.thruR ?_
  have h := Option.some.inj h
  subst h
  refine (hret _ ?_).1
  exact ⟨[(.vs 0)], ⟨rfl, trivial⟩, rfl, ⟨rfl, trivial⟩⟩
 ·have h := hif.2 hc
  refine Zy <| Ze <| Zf <| Zf <| Z6 <| Z1 I (Zh (v := (.int .i64 1)) I I) I <| Zb <| Ze ?_
  refine AWp.weaken (st' := ⟨[(0, (.vs 0)), (3, (.int .i64 1))], [(0, (.vec 2 (List.map Z3 a0)))]⟩) ⟨rfl, rfl, trivial⟩ ⟨rfl, trivial⟩ ?_
  refine Zw (V := Int) (X := Unit) (lp := fun k v => F58_l2 K a0 (F58_c3 K a0) k v = some r) (sh := fun v => ⟨[(0, (.vs 0)), (3, (.int .i64 v))], [(0, (.vec 2 (List.map Z3 a0)))]⟩) (x := fun v => F58_c3 K a0 = some r) (shx := fun v => ⟨[(0, (.vs 0))], [(0, (.vec 2 (List.map Z3 a0)))]⟩) (k := K) (v := 1) h ?_ ?_
  ·intro v h
   try dsimp only at h ⊢
   unfold F58_c3 at h
   refine Ze <| Zf <| Z6 <| Z1 I (Z9 (v := (.vs 0)) I I) I <| Z1 I (Zh (v := (.vs 0)) I I) I <| Zb <| Ze <| AWp.ret ?_
   have h := Option.some.inj h
   subst h
   refine (hret _ ?_).1
   exact ⟨[(.vs 0)], ⟨rfl, trivial⟩, rfl, ⟨rfl, trivial⟩⟩
  ·intro N k2 v h IH2 J2
   revert h
   revert v
   intro v1 h
   try dsimp only at h IH2 J2 ⊢
   cases k2 with
   | zero => cases h
   | succ k2 =>
    rw [F58_l2] at h
    refine Zf <| Zf <| Z6 <| Z1 I (Z9 (v := (.int .i64 v1)) I I) I <| Z1 I (Z9 (v := (.vs 0)) I I) I <| Z1 I (stx_lenV (l := a0) (enc := Z3) I u33 I I) I <| Z1 I (st_cmp (k := .i64) (a := v1) (b := (a0.length : Int)) (c := (decide (v1 < (a0.length : Int)))) I I I I) I <| Zb ?_
    refine Ze ?_
    have hif := of_if h
    refine Zv I (fun hc => ?_) (fun hc => ?_)
    ·have h := hif.1 hc
     refine Zy <| Ze <| Zf <| AWp.block <| Zf <| AWp.regionD mixed <| Zd 0 I (Z9 (v := (.vs 0)) I I) <| Zd 1 I (Z9 (v := (.int .i64 v1)) I I) ?_
     have ⟨hg6, h⟩ := Zi h
     refine Zd 2 I (st_indexV (k := .i64) (v := (.vs 0)) (n := 0) (off := 0) (len := a0.length) (es := (List.map Z3 a0)) (j := v1) (m := v1.toNat) I s33 I I (vecR_map _ _ _) I hg6 (Nat.zero_add _)) ?_
     have ⟨hg7, h⟩ := Zi h
     refine Zd 3 I (st_loadVA (l := a0) (enc := Z3) (z := Z2) (vs := (Z3 (a0.getD v1.toNat Z2)).cells) I a64 I I hg7 I I) <| Zd 4 I (Z9 (v := (.vs 0)) I I) <| Zd 5 I (Z9 (v := (.int .i64 v1)) I I) <| Zd 6 I (st_arith (k := .i64) (a := v1) (b := 1) (c := (IntKind.i64.wrap (v1 - 1))) I I I I) ?_
     have ⟨hg8, h⟩ := Zi h
     refine Zd 7 I (st_indexV (k := .i64) (v := (.vs 0)) (n := 0) (off := 0) (len := a0.length) (es := (List.map Z3 a0)) (j := (IntKind.i64.wrap (v1 - 1))) (m := (IntKind.i64.wrap (v1 - 1)).toNat) I s33 I I (vecR_map _ _ _) I hg8 (Nat.zero_add _)) ?_
     have ⟨hg9, h⟩ := Zi h
     refine Zd 8 I (st_loadVA (l := a0) (enc := Z3) (z := Z2) (vs := (Z3 (a0.getD (IntKind.i64.wrap (v1 - 1)).toNat Z2)).cells) I a64 I I hg9 I I) <| Zd 9 I (st_cmpA (xs := (Z3 (a0.getD v1.toNat Z2)).cells) (ys := (Z3 (a0.getD (IntKind.i64.wrap (v1 - 1)).toNat Z2)).cells) (b := (((a0.getD v1.toNat Z2).From == (a0.getD (IntKind.i64.wrap (v1 - 1)).toNat Z2).From) && (((a0.getD v1.toNat Z2).To == (a0.getD (IntKind.i64.wrap (v1 - 1)).toNat Z2).To) && true))) (c := (((a0.getD v1.toNat Z2).From == (a0.getD (IntKind.i64.wrap (v1 - 1)).toNat Z2).From) && (((a0.getD v1.toNat Z2).To == (a0.getD (IntKind.i64.wrap (v1 - 1)).toNat Z2).To) && true))) I eq64 I I I I) <| AOpsD.nil (by kernel_rfl) I <| Ze ?_
     have hif := of_if h
     refine Zv I (fun hc => ?_) (fun hc => ?_)
     ·have h := hif.1 hc
      refine Zf <| Z6 <| Z1 I (Z9 (v := (.vs 0)) I I) I <| Z1 I (Z9 (v := (.int .i64 v1)) I I) I ?_
      have ⟨hg10, h⟩ := Zi h
      have ⟨hg11, h⟩ := Zi h
      refine Z1 I (stx_sliceVL (v := (.vs 0)) (n := 0) (off := 0) (len := a0.length) (l := a0) (enc := Z3) (kl := .i64) (lo := v1) I s33 I I (vecR_map _ _ _) I hg10 I) I <| Z1 I (Zh (v := (.vsub 0 (0 + v1.toNat) ((a0.length : Int).toNat - v1.toNat) false)) I I) I <| Zb <| Ze <| Zf <| Zf <| Z6 <| Z1 I (Zh (v := (.int .i64 1)) I I) I ?_
      refine Zb <| Ze <| AWp.weaken (st' := ⟨[(0, (.vs 0)), (3, (.int .i64 v1)), (4, (.vsub 0 (0 + v1.toNat) ((a0.length : Int).toNat - v1.toNat) false)), (5, (.int .i64 1))], [(0, (.vec 2 (List.map Z3 a0)))]⟩) ⟨rfl, rfl, rfl, rfl, trivial⟩ ⟨rfl, trivial⟩ ?_
      refine Zw (V := Int × Int × (List Z7)) (X := Int × (List Z7)) (lp := fun k v => F58_l15 K v1 a0 (F58_c18 K) k v.1 v.2.1 v.2.2 = some r) (sh := fun v => ⟨[(0, (.vs 0)), (3, (.int .i64 v.1)), (4, (.vsub 0 (0 + v1.toNat) ((a0.length : Int).toNat - v1.toNat) false)), (5, (.int .i64 v.2.1))], [(0, (.vec 2 (List.map Z3 v.2.2)))]⟩) (x := fun v => F58_c18 K v.1 v.2 = some r) (shx := fun v => ⟨[(0, (.vs 0)), (3, (.int .i64 v.1))], [(0, (.vec 2 (List.map Z3 v.2)))]⟩) (k := K) (v := (v1, 1, a0)) h ?_ ?_
      ·intro v h
       obtain ⟨v16, v17⟩ := v
       try dsimp only at h ⊢
       unfold F58_c18 at h
       refine Ze <| Zf <| Z6 <| Z1 I (Z9 (v := (.vs 0)) I I) I <| Z1 I (Z9 (v := (.int .i64 v16)) I I) I ?_
       have ⟨hg20, h⟩ := Zi h
       have ⟨hg21, h⟩ := Zi h
       refine Z1 I (stx_sliceVL (v := (.vs 0)) (n := 0) (off := 0) (len := v17.length) (l := v17) (enc := Z3) (kl := .i64) (lo := v16) I s33 I I (vecR_map _ _ _) I hg20 I) I ?_
       have ⟨hg22, h⟩ := Zi h
       refine Z1 I (st_clear (v := (.vsub 0 (0 + v16.toNat) ((v17.length : Int).toNat - v16.toNat) false)) (n := 0) (off := (0 + v16.toNat)) (len := ((v17.length : Int).toNat - v16.toNat)) (l := v17) (enc := Z3) el33 ze64 I I I (vecR_sub hg22) els_Tgraph_Edge) I <| Zb <| Ze <| Zf <| Z6 <| Z1 I (Z9 (v := (.vs 0)) I I) I <| Z1 I (Z9 (v := (.int .i64 v16)) I I) I ?_
       have ⟨hg23, h⟩ := Zi h
       have ⟨hg24, h⟩ := Zi h
       refine Z1 I (stx_sliceVH (v := (.vs 0)) (n := 0) (off := 0) (len := (v17.take (0 + v16.toNat) ++ List.replicate ((v17.length : Int).toNat - v16.toNat) Z2 ++ v17.drop ((0 + v16.toNat) + ((v17.length : Int).toNat - v16.toNat))).length) (l := (v17.take (0 + v16.toNat) ++ List.replicate ((v17.length : Int).toNat - v16.toNat) Z2 ++ v17.drop ((0 + v16.toNat) + ((v17.length : Int).toNat - v16.toNat)))) (enc := Z3) (kh := .i64) (hi := v16) I s33 I I (vecR_map _ _ _) I hg23 I) I <| Z1 I (Zh (v := (.vsub 0 (0 + (0 : Int).toNat) (v16.toNat - (0 : Int).toNat) false)) I I) I <| Zb <| Ze <| AWp.ret <| At.overR <| At.thruR ?_
       refine At.thruR (At.overR ?_)
       refine At.thruR <| At.ghost (st' := ⟨[(2, (.vs 0))], [(0, (.vec 2 (List.map Z3 (((v17.take (0 + v16.toNat) ++ List.replicate ((v17.length : Int).toNat - v16.toNat) Z2 ++ v17.drop ((0 + v16.toNat) + ((v17.length : Int).toNat - v16.toNat))).drop (0 + (0 : Int).toNat)).take (v16.toNat - (0 : Int).toNat)))))]⟩) (fun a w h => (Zp ⟨[(2, (.vs 0))], [(0, (.vec 2 (List.map Z3 (((v17.take (0 + v16.toNat) ++ List.replicate ((v17.length : Int).toNat - v16.toNat) Z2 ++ v17.drop ((0 + v16.toNat) + ((v17.length : Int).toNat - v16.toNat))).drop (0 + (0 : Int).toNat)).take (v16.toNat - (0 : Int).toNat)))))]⟩ (ghost_trunc (k := 2) (m := 0) (sz := 2) (off := (0 + (0 : Int).toNat)) (len := (v16.toNat - (0 : Int).toNat)) (enc := Z3) (l := (v17.take (0 + v16.toNat) ++ List.replicate ((v17.length : Int).toNat - v16.toNat) Z2 ++ v17.drop ((0 + v16.toNat) + ((v17.length : Int).toNat - v16.toNat)))) I hg24 a w (Zp ⟨[(2, (.vsub 0 (0 + (0 : Int).toNat) (v16.toNat - (0 : Int).toNat) false))], [(0, (.vec 2 (List.map Z3 (v17.take (0 + v16.toNat) ++ List.replicate ((v17.length : Int).toNat - v16.toNat) Z2 ++ v17.drop ((0 + v16.toNat) + ((v17.length : Int).toNat - v16.toNat))))))]⟩ h ⟨rfl, trivial⟩ ⟨rfl, trivial⟩)) ⟨rfl, trivial⟩ ⟨rfl, trivial⟩)) ?_
       have h := Option.some.inj h
       subst h
       refine (hret _ ?_).1
       exact ⟨[(.vs 0)], ⟨rfl, trivial⟩, rfl, ⟨rfl, trivial⟩⟩
      ·intro N k15 v h IH15 J15
       obtain ⟨v12, v13, v14⟩ := v
       try dsimp only at h IH15 J15 ⊢
       cases k15 with
       | zero => cases h
       | succ k15 =>
        rw [F58_l15] at h
        refine Zf <| Zf <| Z6 <| Z1 I (Z9 (v := (.int .i64 v13)) I I) I <| Z1 I (Z9 (v := (.vsub 0 (0 + v1.toNat) ((a0.length : Int).toNat - v1.toNat) false)) I I) I ?_
        have ⟨hg26, h⟩ := Zi h
        refine Z1 I (stx_lenVS (v := (.vsub 0 (0 + v1.toNat) ((a0.length : Int).toNat - v1.toNat) false)) (n := 0) (off := (0 + v1.toNat)) (len := ((a0.length : Int).toNat - v1.toNat)) (l := v14) (enc := Z3) I u33 I I (vecR_sub hg26)) I <| Z1 I (st_cmp (k := .i64) (a := v13) (b := ((((a0.length : Int).toNat - v1.toNat) : Nat) : Int)) (c := (decide (v13 < ((((a0.length : Int).toNat - v1.toNat) : Nat) : Int)))) I I I I) I <| Zb <| Ze ?_
        have hif := of_if h
        refine Zv I (fun hc => ?_) (fun hc => ?_)
        ·have h := hif.1 hc
         refine Zy <| Ze <| Zf <| AWp.block <| Zf <| AWp.regionD mixed <| Zd 0 I (Z9 (v := (.vsub 0 (0 + v1.toNat) ((a0.length : Int).toNat - v1.toNat) false)) I I) <| Zd 1 I (Z9 (v := (.int .i64 v13)) I I) ?_
         have ⟨hg27, h⟩ := Zi h
         have ⟨hg28, h⟩ := Zi h
         refine Zd 2 I (st_indexV (k := .i64) (v := (.vsub 0 (0 + v1.toNat) ((a0.length : Int).toNat - v1.toNat) false)) (n := 0) (off := (0 + v1.toNat)) (len := ((a0.length : Int).toNat - v1.toNat)) (es := (List.map Z3 v14)) (j := v13) (m := ((0 + v1.toNat) + v13.toNat)) I s33 I I (vecR_sub hg27) I hg28 (I)) ?_
         have ⟨hg29, h⟩ := Zi h
         refine Zd 3 I (st_loadVA (l := v14) (enc := Z3) (z := Z2) (vs := (Z3 (v14.getD ((0 + v1.toNat) + v13.toNat) Z2)).cells) I a64 I I hg29 I I) <| Zd 4 I (Z9 (v := (.vsub 0 (0 + v1.toNat) ((a0.length : Int).toNat - v1.toNat) false)) I I) <| Zd 5 I (Z9 (v := (.int .i64 v13)) I I) <| Zd 6 I (st_arith (k := .i64) (a := v13) (b := 1) (c := (IntKind.i64.wrap (v13 - 1))) I I I I) ?_
         have ⟨hg30, h⟩ := Zi h
         have ⟨hg31, h⟩ := Zi h
         refine Zd 7 I (st_indexV (k := .i64) (v := (.vsub 0 (0 + v1.toNat) ((a0.length : Int).toNat - v1.toNat) false)) (n := 0) (off := (0 + v1.toNat)) (len := ((a0.length : Int).toNat - v1.toNat)) (es := (List.map Z3 v14)) (j := (IntKind.i64.wrap (v13 - 1))) (m := ((0 + v1.toNat) + (IntKind.i64.wrap (v13 - 1)).toNat)) I s33 I I (vecR_sub hg30) I hg31 (I)) ?_
         have ⟨hg32, h⟩ := Zi h
         refine Zd 8 I (st_loadVA (l := v14) (enc := Z3) (z := Z2) (vs := (Z3 (v14.getD ((0 + v1.toNat) + (IntKind.i64.wrap (v13 - 1)).toNat) Z2)).cells) I a64 I I hg32 I I) <| Zd 9 I (st_cmpA (xs := (Z3 (v14.getD ((0 + v1.toNat) + v13.toNat) Z2)).cells) (ys := (Z3 (v14.getD ((0 + v1.toNat) + (IntKind.i64.wrap (v13 - 1)).toNat) Z2)).cells) (b := (((v14.getD ((0 + v1.toNat) + v13.toNat) Z2).From == (v14.getD ((0 + v1.toNat) + (IntKind.i64.wrap (v13 - 1)).toNat) Z2).From) && (((v14.getD ((0 + v1.toNat) + v13.toNat) Z2).To == (v14.getD ((0 + v1.toNat) + (IntKind.i64.wrap (v13 - 1)).toNat) Z2).To) && true))) (c := (!(((v14.getD ((0 + v1.toNat) + v13.toNat) Z2).From == (v14.getD ((0 + v1.toNat) + (IntKind.i64.wrap (v13 - 1)).toNat) Z2).From) && (((v14.getD ((0 + v1.toNat) + v13.toNat) Z2).To == (v14.getD ((0 + v1.toNat) + (IntKind.i64.wrap (v13 - 1)).toNat) Z2).To) && true)))) I eq64 I I I I) <| AOpsD.nil (by kernel_rfl) I <| Ze ?_
         refine AWp.join (V := Int × (List Z7)) (lp := fun v => F58_j35 K (F58_l15 K v1 a0 (F58_c18 K) k15) v13 v.1 v.2 = some r) (sh := fun v => ⟨[(0, (.vs 0)), (3, (.int .i64 v.1)), (4, (.vsub 0 (0 + v1.toNat) ((a0.length : Int).toNat - v1.toNat) false)), (5, (.int .i64 v13))], [(0, (.vec 2 (List.map Z3 v.2)))]⟩) ?_ ?_
         ·intro v h
          obtain ⟨v33, v34⟩ := v
          try dsimp only at h ⊢
          unfold F58_j35 at h
          refine At.end <| Ze <| Z6 <| Z1 I (Z9 (v := (.int .i64 v13)) I I) I <| Z1 I (st_arith (k := .i64) (a := v13) (b := 1) (c := (IntKind.i64.wrap (v13 + 1))) I I I I) I <| Z1 I (Zh (v := (.int .i64 (IntKind.i64.wrap (v13 + 1)))) I I) I <| Zb ?_
          exact Zl (st' := ⟨[(0, (.vs 0)), (3, (.int .i64 v33)), (4, (.vsub 0 (0 + v1.toNat) ((a0.length : Int).toNat - v1.toNat) false)), (5, (.int .i64 (IntKind.i64.wrap (v13 + 1))))], [(0, (.vec 2 (List.map Z3 v34)))]⟩) ⟨rfl, rfl, rfl, rfl, trivial⟩ ⟨rfl, trivial⟩ (IH15 _ (v33, (IntKind.i64.wrap (v13 + 1)), v34) (Nat.lt_succ_self _) h)
         ·intro J35
          have hif := of_if h
          refine Zv I (fun hc => ?_) (fun hc => ?_)
          ·have h := hif.1 hc
           refine Zf <| Z6 <| Z1 I (Z9 (v := (.vs 0)) I I) I <| Z1 I (Z9 (v := (.int .i64 v12)) I I) I <| Z1 I (Z9 (v := (.vsub 0 (0 + v1.toNat) ((a0.length : Int).toNat - v1.toNat) false)) I I) I <| Z1 I (Z9 (v := (.int .i64 v13)) I I) I ?_
           have ⟨hg36, h⟩ := Zi h
           have ⟨hg37, h⟩ := Zi h
           refine Z1 I (st_indexV (k := .i64) (v := (.vsub 0 (0 + v1.toNat) ((a0.length : Int).toNat - v1.toNat) false)) (n := 0) (off := (0 + v1.toNat)) (len := ((a0.length : Int).toNat - v1.toNat)) (es := (List.map Z3 v14)) (j := v13) (m := ((0 + v1.toNat) + v13.toNat)) I s33 I I (vecR_sub hg36) I hg37 (I)) I ?_
           have ⟨hg38, h⟩ := Zi h
           refine Z1 I (st_loadVA (l := v14) (enc := Z3) (z := Z2) (vs := (Z3 (v14.getD ((0 + v1.toNat) + v13.toNat) Z2)).cells) I a64 I I hg38 I I) I ?_
           have ⟨hg39, h⟩ := Zi h
           refine Z1 I (st_indexV (k := .i64) (v := (.vs 0)) (n := 0) (off := 0) (len := v14.length) (es := (List.map Z3 v14)) (j := v12) (m := v12.toNat) I s33 I I (vecR_map _ _ _) I hg39 (Nat.zero_add _)) I ?_
           have ⟨hg40, h⟩ := Zi h
           refine Z1 I (st_storeV (l := v14) (enc := Z3) (z := Z2) (a := (v14.getD ((0 + v1.toNat) + v13.toNat) Z2)) (v := (Z3 (v14.getD ((0 + v1.toNat) + v13.toNat) Z2))) sz64 I I hg40 I els_Tgraph_Edge I I I I) I <| Zb <| Ze <| Z6 <| Z1 I (Z9 (v := (.int .i64 v12)) I I) I <| Z1 I (st_arith (k := .i64) (a := v12) (b := 1) (c := (IntKind.i64.wrap (v12 + 1))) I I I I) I <| Z1 I (Zh (v := (.int .i64 (IntKind.i64.wrap (v12 + 1)))) I I) I <| Zb ?_
           exact Zl (st' := ⟨[(0, (.vs 0)), (3, (.int .i64 (IntKind.i64.wrap (v12 + 1)))), (4, (.vsub 0 (0 + v1.toNat) ((a0.length : Int).toNat - v1.toNat) false)), (5, (.int .i64 v13))], [(0, (.vec 2 (List.map Z3 (v14.set v12.toNat (v14.getD ((0 + v1.toNat) + v13.toNat) Z2)))))]⟩) ⟨rfl, rfl, rfl, rfl, trivial⟩ ⟨rfl, trivial⟩ (J35 ((IntKind.i64.wrap (v12 + 1)), (v14.set v12.toNat (v14.getD ((0 + v1.toNat) + v13.toNat) Z2))) h)
          ·have h := hif.2 hc
           refine Zy ?_
           exact Zl (st' := ⟨[(0, (.vs 0)), (3, (.int .i64 v12)), (4, (.vsub 0 (0 + v1.toNat) ((a0.length : Int).toNat - v1.toNat) false)), (5, (.int .i64 v13))], [(0, (.vec 2 (List.map Z3 v14)))]⟩) ⟨rfl, rfl, rfl, rfl, trivial⟩ ⟨rfl, trivial⟩ (J35 (v12, v14) h)
        ·have h := hif.2 hc
         refine AWp.exit <| At.thru ?_
         exact Zl (st' := ⟨[(0, (.vs 0)), (3, (.int .i64 v12))], [(0, (.vec 2 (List.map Z3 v14)))]⟩) ⟨rfl, rfl, trivial⟩ ⟨rfl, trivial⟩ (J15 (v12, v14) h)
     ·have h := hif.2 hc
      refine Zy <| At.end <| Ze <| Z6 <| Z1 I (Z9 (v := (.int .i64 v1)) I I) I <| Z1 I (st_arith (k := .i64) (a := v1) (b := 1) (c := (IntKind.i64.wrap (v1 + 1))) I I I I) I <| Z1 I (Zh (v := (.int .i64 (IntKind.i64.wrap (v1 + 1)))) I I) I <| Zb ?_
      exact Zl (st' := ⟨[(0, (.vs 0)), (3, (.int .i64 (IntKind.i64.wrap (v1 + 1))))], [(0, (.vec 2 (List.map Z3 a0)))]⟩) ⟨rfl, rfl, trivial⟩ ⟨rfl, trivial⟩ (IH2 _ (IntKind.i64.wrap (v1 + 1)) (Nat.lt_succ_self _) h)
    ·have h := hif.2 hc
     refine AWp.exit <| At.thru ?_
     exact Zl (st' := ⟨[(0, (.vs 0))], [(0, (.vec 2 (List.map Z3 a0)))]⟩) ⟨rfl, trivial⟩ ⟨rfl, trivial⟩ (J2 () h)
def F35_c3 (K : Nat) (a1 : (List Z7)) (a0 : Int) : Option (Za × Int) :=
 (F55 K a1).bind fun v6 =>
  (sortF (fun a b => F57 K a b) v6).bind fun v8 =>
   (F58 K v8).bind fun v10 =>
    some ((⟨a0, v10⟩ : Za), 0)
def F35_j14 (K : Nat) (b11 : Int → Option (Za × Int)) (v1 : Int) (v13 : Bool) : Option (Za × Int) :=
 if v13 = true then
  some (z_Tgraph_Graph, 10)
 else
  b11 (IntKind.i64.wrap (v1 + 1))
def F35_l2 (K : Nat) (a1 : (List Z7)) (a0 : Int) (c4 : Option (Za × Int)) : Nat → Int → Option (Za × Int)
 | 0, _ => none
 | k2 + 1, v1 =>
  if (decide (v1 < (a1.length : Int))) = true then
   if (0 : Int) ≤ v1 ∧ v1 < a1.length then
    if (decide ((a1.getD v1.toNat Z2).From < 0)) = true then
     F35_j14 K (F35_l2 K a1 a0 c4 k2) v1 true
    else
     if (decide ((a1.getD v1.toNat Z2).From ≥ a0)) = true then
      F35_j14 K (F35_l2 K a1 a0 c4 k2) v1 true
     else
      if (decide ((a1.getD v1.toNat Z2).To < 0)) = true then
       F35_j14 K (F35_l2 K a1 a0 c4 k2) v1 true
      else
       F35_j14 K (F35_l2 K a1 a0 c4 k2) v1 (decide ((a1.getD v1.toNat Z2).To ≥ a0))
   else none
  else
   c4
def F35 (K : Nat) (a0 : Int) (a1 : (List Z7)) : Option (Za × Int) :=
 if (decide (a0 < 0)) = true then
  some (z_Tgraph_Graph, 2)
 else
  if (decide (a0 > 256)) = true then
   some (z_Tgraph_Graph, 2)
  else
   F35_l2 K a1 a0 (F35_c3 K a1 a0) K 0
theorem F35_ok (K : Nat) (a0 : Int) (a1 : (List Z7)) (r : Za × Int) (h : F35 K a0 a1 = some r) : ACall P 35 ⟨[(.int .i64 a0), (.sl 2 (a1.map Z3) false)], [], (.tup [(Z4 r.1), (.int .i64 r.2)]), [], []⟩ := by
 refine acall_of Try.func35 Try.results35 rfl Try.ntmps35 rfl rfl rfl ?_
 intro E Q hP hN hro hret
 obtain ⟨P', nt', w0, F0, p0, S0, β0, ro0⟩ := E
 simp only at hP hN
 subst hP hN
 dsimp only [argT]
 unfold F35 at h
 refine Zf <| Z6 <| Z1 I (st_alloc (cs := [(.int .i64 0), (.sl 2 [] false)]) I z35 I I I) I <| Z1 I (Zh (v := (.int .i64 0)) I I) I <| Zb <| Ze <| Zf <| Zf ?_
 refine Z6 <| Z1 I (Z9 (v := (.int .i64 a0)) I I) I <| Z1 I (st_cmp (k := .i64) (a := a0) (b := 0) (c := (decide (a0 < 0))) I I I I) I <| Z1 I (Z9 (v := (.bool (decide (a0 < 0)))) I I) I ?_
 have hif := of_if h
 refine AOps.split (fun hc => ?_) (fun hc => ?_)
 ·have h := hif.1 hc
  refine Z5 I I I I I I I <| Z5 I I I I I I I <| Z1 I (Zz (v := (.bool true)) I I I) I <| Zb <| Ze ?_
  refine Zv (b := true) I (fun hc => ?_) (fun hc => ?_)
  rotate_left
  ·cases hc
  refine Zf <| Z6 <| Z1 I (stx_build (vs := []) (cs := [(.int .i64 0), (.sl 2 [] false)]) I st35 trivial I) I <| Z1 I (st_storeP (cs := [(.int .i64 0), (.sl 2 [] false)]) (vs := [(.int .i64 0), (.sl 2 [] false)]) (ds := [(.int .i64 0), (.sl 2 [] false)]) (v := (.ag [(.int .i64 0), (.sl 2 [] false)])) sz35 I I I I I I I I) I <| Z1 I (Zh (v := (.int .i64 2)) I I) I <| Zb <| Ze <| AWp.ret ?_
  refine At.thruR ?_
  have h := Option.some.inj h
  subst h
  refine (hret _ ?_).1
  exact ⟨[(.ag [(.int .i64 0), (.sl 2 [] false)]), (.int .i64 2)], ⟨⟨4, _, rfl, rfl, .inr ⟨_, a35, rfl, rfl⟩⟩, rfl, trivial⟩, rfl, trivial⟩
 ·have h := hif.2 hc
  refine Zj I I I I (Z9 (v := (.int .i64 a0)) I I) I <| Zj I I I I (st_cmp (k := .i64) (a := a0) (b := 256) (c := (decide (a0 > 256))) I I I I) I <| Z1 I (Zx (v := (.bool (decide (a0 > 256)))) I I I) I <| Zb <| Ze ?_
  have hif := of_if h
  refine Zv I (fun hc => ?_) (fun hc => ?_)
  ·have h := hif.1 hc
   refine Zf <| Z6 <| Z1 I (stx_build (vs := []) (cs := [(.int .i64 0), (.sl 2 [] false)]) I st35 trivial I) I <| Z1 I (st_storeP (cs := [(.int .i64 0), (.sl 2 [] false)]) (vs := [(.int .i64 0), (.sl 2 [] false)]) (ds := [(.int .i64 0), (.sl 2 [] false)]) (v := (.ag [(.int .i64 0), (.sl 2 [] false)])) sz35 I I I I I I I I) I <| Z1 I (Zh (v := (.int .i64 2)) I I) I <| Zb <| Ze <| AWp.ret ?_
   refine At.thruR ?_
   have h := Option.some.inj h
   subst h
   refine (hret _ ?_).1
   exact ⟨[(.ag [(.int .i64 0), (.sl 2 [] false)]), (.int .i64 2)], ⟨⟨4, _, rfl, rfl, .inr ⟨_, a35, rfl, rfl⟩⟩, rfl, trivial⟩, rfl, trivial⟩
  ·have h := hif.2 hc
   refine Zy <| Ze <| Zf <| Zf <| Z6 <| Z1 I (Z9 (v := (.sl 2 (a1.map Z3) false)) I I) I <| Z1 I (stx_len (l := a1) (enc := Z3) I s33 I) I <| Z1 I (Z9 (v := (.int .i64 0)) I I) I ?_
   refine Zb <| Ze <| AWp.weaken (st' := ⟨[(0, (.int .i64 a0)), (1, (.sl 2 (a1.map Z3) false)), (4, (.ptr 4 0)), (16, (.sl 2 (a1.map Z3) false)), (17, (.int .i64 (a1.length : Int))), (18, (.int .i64 0))], [(4, (.box [(.int .i64 0), (.sl 2 [] false)]))]⟩) ⟨rfl, rfl, rfl, rfl, rfl, rfl, trivial⟩ ⟨rfl, trivial⟩ ?_
   refine Zw (V := Int) (X := Unit) (lp := fun k v => F35_l2 K a1 a0 (F35_c3 K a1 a0) k v = some r) (sh := fun v => ⟨[(0, (.int .i64 a0)), (1, (.sl 2 (a1.map Z3) false)), (4, (.ptr 4 0)), (16, (.sl 2 (a1.map Z3) false)), (17, (.int .i64 (a1.length : Int))), (18, (.int .i64 v))], [(4, (.box [(.int .i64 0), (.sl 2 [] false)]))]⟩) (x := fun v => F35_c3 K a1 a0 = some r) (shx := fun v => ⟨[(0, (.int .i64 a0)), (1, (.sl 2 (a1.map Z3) false)), (4, (.ptr 4 0))], [(4, (.box [(.int .i64 0), (.sl 2 [] false)]))]⟩) (k := K) (v := 0) h ?_ ?_
   ·intro v h
    try dsimp only at h ⊢
    unfold F35_c3 at h
    refine Ze <| Zf <| Z6 <| Z1 I (Z9 (v := (.sl 2 (a1.map Z3) false)) I I) I ?_
    have ⟨v6, hv6, h⟩ := of_bind h
    refine Z1 I (st_callO (sz := 2) (es := (List.map Z3 v6)) (ar := [(.sl 2 (a1.map Z3) false)]) (caps := []) Try.call55 ((F55_ok K a1 v6 hv6).sw 2 45) I I ⟨rfl, trivial⟩ I) I <| Z1 I (Zh (v := (.vs 45)) I I) I <| Zb <| Ze <| Zf <| Z6 <| Z1 I (Z9 (v := (.vs 45)) I I) I ?_
    have ⟨v8, hv8, h⟩ := of_bind h
    refine Z1 I (st_call (d := some 47) (c := ⟨[(.vs 45), (.clo 57 [])], [(45, (.vec 2 (List.map Z3 v6)))], .tup [], [(45, .vec 2 (List.map Z3 v8))], []⟩) (ar := [(.vs 45), (.clo 57 [])]) (caps := []) (news := []) (forg := []) Try.call56 (sort_ok (n := 45) (enc := Z3) (l := v6) (caps := []) (c := (fun a b => F57 K a b)) sortC56 Try.call57 els_Tgraph_Edge (fun _ => I) (fun a b m hm => F57_ok K a b m hm) hv8) I I ⟨rfl, rfl, trivial⟩ I ⟨rfl, trivial⟩ I) I <| Zb <| Ze <| Zf <| Z6 <| Z1 I (Z9 (v := (.int .i64 a0)) I I) I <| Z1 I (Z9 (v := (.vs 45)) I I) I ?_
    have ⟨v10, hv10, h⟩ := of_bind h
    refine Z1 I (st_call (d := some 50) (c := ⟨[(.vs 45)] ++ [], [(45, (.vec 2 (List.map Z3 v8)))], .vs 45, [(45, .vec 2 (List.map Z3 v10))], [45]⟩) (ar := [(.vs 45)]) (caps := []) (news := []) (forg := [45]) Try.call58 ((F58_ok K v8 v10 hv10).sw 0 45) I I ⟨rfl, trivial⟩ I ⟨rfl, trivial⟩ I) I <| Z1 I (stx_build (vs := [(0, (.int .i64 a0)), (1, (.vs 45))]) (cs := [(.int .i64 a0), (.vs 45)]) I st35 ⟨rfl, rfl, rfl, rfl, trivial⟩ I) I <| Z1 I (st_storeP (cs := [(.int .i64 0), (.sl 2 [] false)]) (vs := [(.int .i64 a0), (.vs 45)]) (ds := [(.int .i64 a0), (.vs 45)]) (v := (.ag [(.int .i64 a0), (.vs 45)])) sz35 I I I I I I I I) I <| Z1 I (Zh (v := (.int .i64 0)) I I) I <| Zb <| Ze <| AWp.ret <| At.ghost (st' := ⟨[(4, (.ptr 4 0)), (5, (.int .i64 0))], [(4, (.box [(.int .i64 a0), (.sl 2 (v10.map Z3) false)]))]⟩) (fun a w h => (Zp ⟨[(4, (.ptr 4 0)), (5, (.int .i64 0))], [(4, (.box [(.int .i64 a0), (.sl 2 (v10.map Z3) false)]))]⟩ (ghost_freeze (m := 45) (sz := 2) (es := (List.map Z3 v10)) a w (Zp ⟨[(4, (.ptr 4 0)), (5, (.int .i64 0))], [(45, (.vec 2 (List.map Z3 v10))), (4, (.box [(.int .i64 a0), (.vs 45)]))]⟩ h ⟨rfl, rfl, trivial⟩ ⟨rfl, rfl, trivial⟩)) ⟨rfl, rfl, trivial⟩ ⟨rfl, trivial⟩)) ?_
    have h := Option.some.inj h
    subst h
    refine (hret _ ?_).1
    exact ⟨[(.ag [(.int .i64 a0), (.sl 2 (v10.map Z3) false)]), (.int .i64 0)], ⟨⟨4, _, rfl, rfl, .inr ⟨_, a35, rfl, rfl⟩⟩, rfl, trivial⟩, rfl, trivial⟩
   ·intro N k2 v h IH2 J2
    revert h
    revert v
    intro v1 h
    try dsimp only at h IH2 J2 ⊢
    cases k2 with
    | zero => cases h
    | succ k2 =>
     rw [F35_l2] at h
     refine Zf <| Z6 <| Z1 I (st_cmp (k := .i64) (a := v1) (b := (a1.length : Int)) (c := (decide (v1 < (a1.length : Int)))) I I I I) I <| Zb <| Ze <| Zf ?_
     have hif := of_if h
     refine Zv I (fun hc => ?_) (fun hc => ?_)
     ·have h := hif.1 hc
      refine Zy <| Ze <| Zf <| AWp.block <| Zf <| Z6 ?_
      have ⟨hg12, h⟩ := Zi h
      refine Z1 I (st_index (k := .i64) (l := a1) (enc := Z3) (z := Z2) (n := v1) (cs := (Z3 (a1.getD v1.toNat Z2)).cells) (full := false) I s33 I I hg12 I) I <| Z1 I (st_loadIA (cs := (Z3 (a1.getD v1.toNat Z2)).cells) (vs := (Z3 (a1.getD v1.toNat Z2)).cells) I a64 I I I) I <| Z1 I (st_alloc (cs := [(.int .i64 0), (.int .i64 0)]) I z64 I I I) I <| Z1 I (st_storeP (cs := [(.int .i64 0), (.int .i64 0)]) (vs := (Z3 (a1.getD v1.toNat Z2)).cells) (ds := (Z3 (a1.getD v1.toNat Z2)).cells) (v := (Z3 (a1.getD v1.toNat Z2))) sz64 I I I I I I I I) I <| Zb <| Ze <| Zf ?_
      refine AWp.join (V := Bool) (lp := fun v => F35_j14 K (F35_l2 K a1 a0 (F35_c3 K a1 a0) k2) v1 v = some r) (sh := fun v => ⟨[(0, (.int .i64 a0)), (1, (.sl 2 (a1.map Z3) false)), (4, (.ptr 4 0)), (16, (.sl 2 (a1.map Z3) false)), (17, (.int .i64 (a1.length : Int))), (18, (.int .i64 v1)), (41, (.bool v))], [(4, (.box [(.int .i64 0), (.sl 2 [] false)]))]⟩) ?_ ?_
      ·intro v h
       revert h
       revert v
       intro v13 h
       try dsimp only at h ⊢
       unfold F35_j14 at h
       refine Ze ?_
       have hif := of_if h
       refine Zv I (fun hc => ?_) (fun hc => ?_)
       ·have h := hif.1 hc
        refine Zf <| Z6 <| Z1 I (stx_build (vs := []) (cs := [(.int .i64 0), (.sl 2 [] false)]) I st35 trivial I) I <| Z1 I (st_storeP (cs := [(.int .i64 0), (.sl 2 [] false)]) (vs := [(.int .i64 0), (.sl 2 [] false)]) (ds := [(.int .i64 0), (.sl 2 [] false)]) (v := (.ag [(.int .i64 0), (.sl 2 [] false)])) sz35 I I I I I I I I) I <| Z1 I (Zh (v := (.int .i64 10)) I I) I <| Zb <| Ze <| AWp.ret ?_
        refine At.overR <| At.thruR ?_
        refine At.thruR (At.overR ?_)
        refine At.thruR ?_
        have h := Option.some.inj h
        subst h
        refine (hret _ ?_).1
        exact ⟨[(.ag [(.int .i64 0), (.sl 2 [] false)]), (.int .i64 10)], ⟨⟨4, _, rfl, rfl, .inr ⟨_, a35, rfl, rfl⟩⟩, rfl, trivial⟩, rfl, trivial⟩
       ·have h := hif.2 hc
        refine Zy <| At.end <| Ze <| Z6 <| Z1 I (st_arith (k := .i64) (a := v1) (b := 1) (c := (IntKind.i64.wrap (v1 + 1))) I I I I) I <| Z1 I (Z9 (v := (.int .i64 (IntKind.i64.wrap (v1 + 1)))) I I) I <| Zb ?_
        exact Zl (st' := ⟨[(0, (.int .i64 a0)), (1, (.sl 2 (a1.map Z3) false)), (4, (.ptr 4 0)), (16, (.sl 2 (a1.map Z3) false)), (17, (.int .i64 (a1.length : Int))), (18, (.int .i64 (IntKind.i64.wrap (v1 + 1))))], [(4, (.box [(.int .i64 0), (.sl 2 [] false)]))]⟩) ⟨rfl, rfl, rfl, rfl, rfl, rfl, trivial⟩ ⟨rfl, trivial⟩ (IH2 _ (IntKind.i64.wrap (v1 + 1)) (Nat.lt_succ_self _) h)
      ·intro J14
       refine Z6 <| Z1 I (Z10 (m := 7) (o := 0) I f64_0 I I) I <| Z1 I (Zu (cs := (Z3 (a1.getD v1.toNat Z2)).cells) (v := (.int .i64 (a1.getD v1.toNat Z2).From)) I o3 I I I) I <| Z1 I (st_cmp (k := .i64) (a := (a1.getD v1.toNat Z2).From) (b := 0) (c := (decide ((a1.getD v1.toNat Z2).From < 0))) I I I I) I <| Z1 I (Z9 (v := (.bool (decide ((a1.getD v1.toNat Z2).From < 0)))) I I) I ?_
       have hif := of_if h
       refine AOps.split (fun hc => ?_) (fun hc => ?_)
       ·have h := hif.1 hc
        refine Z5 I I I I I I I <| Z5 I I I I I I I <| Z5 I I I I I I I <| Z5 I I I I I I I <| Z1 I (Zz (v := (.bool true)) I I I) I <| Z1 I (Z9 (v := (.bool true)) I I) I <| Z5 I I I I I I I <| Z5 I I I I I I I ?_
        refine Z5 I I I I I I I <| Z1 I (Zz (v := (.bool true)) I I I) I <| Z1 I (Z9 (v := (.bool true)) I I) I <| Z5 I I I I I I I <| Z5 I I I I I I I <| Z5 I I I I I I I <| Z5 I I I I I I I <| Z1 I (Zz (v := (.bool true)) I I I) I ?_
        refine Zb ?_
        exact Zl (st' := ⟨[(0, (.int .i64 a0)), (1, (.sl 2 (a1.map Z3) false)), (4, (.ptr 4 0)), (16, (.sl 2 (a1.map Z3) false)), (17, (.int .i64 (a1.length : Int))), (18, (.int .i64 v1)), (41, (.bool true))], [(4, (.box [(.int .i64 0), (.sl 2 [] false)]))]⟩) ⟨rfl, rfl, rfl, rfl, rfl, rfl, rfl, trivial⟩ ⟨rfl, trivial⟩ (J14 true h)
       ·have h := hif.2 hc
        refine Zj I I I I (Z10 (m := 7) (o := 0) I f64_0 I I) I <| Zj I I I I (Zu (cs := (Z3 (a1.getD v1.toNat Z2)).cells) (v := (.int .i64 (a1.getD v1.toNat Z2).From)) I o3 I I I) I <| Zj I I I I (Z9 (v := (.int .i64 a0)) I I) I <| Zj I I I I (st_cmp (k := .i64) (a := (a1.getD v1.toNat Z2).From) (b := a0) (c := (decide ((a1.getD v1.toNat Z2).From ≥ a0))) I I I I) I <| Z1 I (Zx (v := (.bool (decide ((a1.getD v1.toNat Z2).From ≥ a0)))) I I I) I <| Z1 I (Z9 (v := (.bool (decide ((a1.getD v1.toNat Z2).From ≥ a0)))) I I) I ?_
        have hif := of_if h
        refine AOps.split (fun hc => ?_) (fun hc => ?_)
        ·have h := hif.1 hc
         refine Z5 I I I I I I I <| Z5 I I I I I I I <| Z5 I I I I I I I <| Z1 I (Zz (v := (.bool true)) I I I) I <| Z1 I (Z9 (v := (.bool true)) I I) I <| Z5 I I I I I I I <| Z5 I I I I I I I <| Z5 I I I I I I I ?_
         refine Z5 I I I I I I I <| Z1 I (Zz (v := (.bool true)) I I I) I <| Zb ?_
         exact Zl (st' := ⟨[(0, (.int .i64 a0)), (1, (.sl 2 (a1.map Z3) false)), (4, (.ptr 4 0)), (16, (.sl 2 (a1.map Z3) false)), (17, (.int .i64 (a1.length : Int))), (18, (.int .i64 v1)), (41, (.bool true))], [(4, (.box [(.int .i64 0), (.sl 2 [] false)]))]⟩) ⟨rfl, rfl, rfl, rfl, rfl, rfl, rfl, trivial⟩ ⟨rfl, trivial⟩ (J14 true h)
        ·have h := hif.2 hc
         refine Zj I I I I (Z10 (m := 7) (o := 0) I f64_1 I I) I <| Zj I I I I (Zu (cs := (Z3 (a1.getD v1.toNat Z2)).cells) (v := (.int .i64 (a1.getD v1.toNat Z2).To)) I o3 I I I) I <| Zj I I I I (st_cmp (k := .i64) (a := (a1.getD v1.toNat Z2).To) (b := 0) (c := (decide ((a1.getD v1.toNat Z2).To < 0))) I I I I) I <| Z1 I (Zx (v := (.bool (decide ((a1.getD v1.toNat Z2).To < 0)))) I I I) I <| Z1 I (Z9 (v := (.bool (decide ((a1.getD v1.toNat Z2).To < 0)))) I I) I ?_
         have hif := of_if h
         refine AOps.split (fun hc => ?_) (fun hc => ?_)
         ·have h := hif.1 hc
          refine Z5 I I I I I I I <| Z5 I I I I I I I <| Z5 I I I I I I I <| Z5 I I I I I I I <| Z1 I (Zz (v := (.bool true)) I I I) I <| Zb ?_
          exact Zl (st' := ⟨[(0, (.int .i64 a0)), (1, (.sl 2 (a1.map Z3) false)), (4, (.ptr 4 0)), (16, (.sl 2 (a1.map Z3) false)), (17, (.int .i64 (a1.length : Int))), (18, (.int .i64 v1)), (41, (.bool true))], [(4, (.box [(.int .i64 0), (.sl 2 [] false)]))]⟩) ⟨rfl, rfl, rfl, rfl, rfl, rfl, rfl, trivial⟩ ⟨rfl, trivial⟩ (J14 true h)
         ·have h := hif.2 hc
          refine Zj I I I I (Z10 (m := 7) (o := 0) I f64_1 I I) I <| Zj I I I I (Zu (cs := (Z3 (a1.getD v1.toNat Z2)).cells) (v := (.int .i64 (a1.getD v1.toNat Z2).To)) I o3 I I I) I <| Zj I I I I (Z9 (v := (.int .i64 a0)) I I) I <| Zj I I I I (st_cmp (k := .i64) (a := (a1.getD v1.toNat Z2).To) (b := a0) (c := (decide ((a1.getD v1.toNat Z2).To ≥ a0))) I I I I) I <| Z1 I (Zx (v := (.bool (decide ((a1.getD v1.toNat Z2).To ≥ a0)))) I I I) I <| Zb ?_
          exact Zl (st' := ⟨[(0, (.int .i64 a0)), (1, (.sl 2 (a1.map Z3) false)), (4, (.ptr 4 0)), (16, (.sl 2 (a1.map Z3) false)), (17, (.int .i64 (a1.length : Int))), (18, (.int .i64 v1)), (41, (.bool (decide ((a1.getD v1.toNat Z2).To ≥ a0))))], [(4, (.box [(.int .i64 0), (.sl 2 [] false)]))]⟩) ⟨rfl, rfl, rfl, rfl, rfl, rfl, rfl, trivial⟩ ⟨rfl, trivial⟩ (J14 (decide ((a1.getD v1.toNat Z2).To ≥ a0)) h)
     ·have h := hif.2 hc
      refine AWp.exit <| At.thru ?_
      exact Zl (st' := ⟨[(0, (.int .i64 a0)), (1, (.sl 2 (a1.map Z3) false)), (4, (.ptr 4 0))], [(4, (.box [(.int .i64 0), (.sl 2 [] false)]))]⟩) ⟨rfl, rfl, rfl, trivial⟩ ⟨rfl, trivial⟩ (J2 () h)
def F47_c6 (K : Nat) (v5 : (List (List Int))) : Option ((List (List Int))) :=
 some v5
def F47_l4 (K : Nat) (a0 : Za) (c7 : (List (List Int)) → Option ((List (List Int)))) : Nat → Int → (List (List Int)) → Option ((List (List Int)))
 | 0, _, _ => none
 | k4 + 1, v2, v3 =>
  if (decide (v2 < (a0.Edges.length : Int))) = true then
   if (0 : Int) ≤ v2 ∧ v2 < a0.Edges.length then
    if (0 : Int) ≤ (a0.Edges.getD v2.toNat Z2).From ∧ (a0.Edges.getD v2.toNat Z2).From < v3.length then
     if (a0.Edges.getD v2.toNat Z2).From.toNat < v3.length then
      if (a0.Edges.getD v2.toNat Z2).From.toNat < v3.length then
       if (v3.getD (a0.Edges.getD v2.toNat Z2).From.toNat []).length + [(a0.Edges.getD v2.toNat Z2).To].length ≤ 1073741824 then
        if (0 : Int) ≤ (a0.Edges.getD v2.toNat Z2).From ∧ (a0.Edges.getD v2.toNat Z2).From < (v3.set (a0.Edges.getD v2.toNat Z2).From.toNat ((v3.getD (a0.Edges.getD v2.toNat Z2).From.toNat []) ++ [(a0.Edges.getD v2.toNat Z2).To])).length then
         if (a0.Edges.getD v2.toNat Z2).From.toNat < (v3.set (a0.Edges.getD v2.toNat Z2).From.toNat ((v3.getD (a0.Edges.getD v2.toNat Z2).From.toNat []) ++ [(a0.Edges.getD v2.toNat Z2).To])).length then
          (F47_l4 K a0 c7 k4) (IntKind.i64.wrap (v2 + 1)) (v3.set (a0.Edges.getD v2.toNat Z2).From.toNat ((v3.getD (a0.Edges.getD v2.toNat Z2).From.toNat []) ++ [(a0.Edges.getD v2.toNat Z2).To]))
         else none
        else none
       else none
      else none
     else none
    else none
   else none
  else
   c7 v3
def F47 (K : Nat) (a0 : Za) : Option ((List (List Int))) :=
 if (0 : Int) ≤ a0.Count ∧ a0.Count ≤ a0.Count ∧ a0.Count ≤ 1073741824 then
  F47_l4 K a0 (F47_c6 K) K 0 (List.replicate a0.Count.toNat ([] : List Int))
 else none
theorem F47_ok (K : Nat) (a0 : Za) (r : (List (List Int))) (h : F47 K a0 = some r) : ACall P 47 ⟨[(Z4 a0)], [], (.sl 1 (r.map Zg) false), [], []⟩ := by
 refine acall_of Try.func47 Try.results47 rfl Try.ntmps47 rfl rfl rfl ?_
 intro E Q hP hN hro hret
 obtain ⟨P', nt', w0, F0, p0, S0, β0, ro0⟩ := E
 simp only at hP hN
 subst hP hN
 dsimp only [argT]
 unfold F47 at h
 refine Zf <| Z6 <| Z1 I (st_box (v := (Z4 a0)) (cs := (Z4 a0).cells) I I I I I) I <| Z1 I (Zh (v := (.sl 1 [] false)) I I) I <| Zb <| Ze <| Zf <| Z6 ?_
 refine Z1 I (Z10 (m := 1) (o := 0) I f35_0 I I) I <| Z1 I (Zu (cs := (Z4 a0).cells) (v := (.int .i64 a0.Count)) I o3 I I I) I ?_
 have ⟨hg1, h⟩ := Zi h
 refine Z1 I (st_makeSlice (enc := (fun _ : Unit => AV.sl 1 [] true)) (z := ()) (kx := .i64) (ky := .i64) (a := a0.Count) (c := a0.Count) (n := a0.Count.toNat) I el46 I zeT29 (fun _ => I) I I I hg1 I) I <| AOps.ghost (st' := ⟨[(1, (.ptr 1 0)), (7, (.int .i64 a0.Count)), (8, (.vs 8))], [(1, (.box (Z4 a0).cells)), (8, (.tab (List.map (List.map Z8) (List.replicate a0.Count.toNat ([] : List Int))) none))]⟩) (fun a w h => (Zp ⟨[(1, (.ptr 1 0)), (7, (.int .i64 a0.Count)), (8, (.vs 8))], [(1, (.box (Z4 a0).cells)), (8, (.tab (List.map (List.map Z8) (List.replicate a0.Count.toNat ([] : List Int))) none))]⟩ (ghost_tab (m := 8) (k := a0.Count.toNat) (sz := 1) (enc := Z8) I I a w (Zp ⟨[(1, (.ptr 1 0)), (7, (.int .i64 a0.Count)), (8, (.vs 8))], [(8, (.vec 1 (List.map (fun _ : Unit => AV.sl 1 [] true) (List.replicate a0.Count.toNat ())))), (1, (.box (Z4 a0).cells))]⟩ h ⟨rfl, rfl, rfl, trivial⟩ ⟨rfl, rfl, trivial⟩)) ⟨rfl, rfl, rfl, trivial⟩ ⟨rfl, rfl, trivial⟩)) <| Z1 I (Zh (v := (.vs 8)) I I) I <| Zb <| Ze <| Zf <| Zf <| Z6 ?_
 refine Z1 I (Z10 (m := 1) (o := 0) I f35_1 I I) I <| Z1 I (Zu (cs := (Z4 a0).cells) (v := (.sl 2 (a0.Edges.map Z3) false)) I o33 I I I) I <| Z1 I (stx_len (l := a0.Edges) (enc := Z3) I s33 I) I <| Z1 I (Z9 (v := (.int .i64 0)) I I) I <| Zb <| Ze <| AWp.ghost (st' := ⟨[(3, (.vs 3)), (10, (.sl 2 (a0.Edges.map Z3) false)), (11, (.int .i64 (a0.Edges.length : Int))), (12, (.int .i64 0))], [(3, (.tab (List.map (List.map Z8) (List.replicate a0.Count.toNat ([] : List Int))) none))]⟩) (fun a w h => (Zp ⟨[(3, (.vs 3)), (10, (.sl 2 (a0.Edges.map Z3) false)), (11, (.int .i64 (a0.Edges.length : Int))), (12, (.int .i64 0))], [(3, (.tab (List.map (List.map Z8) (List.replicate a0.Count.toNat ([] : List Int))) none))]⟩ (ghost_sw (a := 8) (b := 3) I I a w (Zp ⟨[(3, (.vs 8)), (10, (.sl 2 (a0.Edges.map Z3) false)), (11, (.int .i64 (a0.Edges.length : Int))), (12, (.int .i64 0))], [(8, (.tab (List.map (List.map Z8) (List.replicate a0.Count.toNat ([] : List Int))) none))]⟩ h ⟨rfl, rfl, rfl, rfl, trivial⟩ ⟨rfl, trivial⟩)) ⟨rfl, rfl, rfl, rfl, trivial⟩ ⟨rfl, trivial⟩)) <| AWp.weaken (st' := ⟨[(3, (.vs 3)), (10, (.sl 2 (a0.Edges.map Z3) false)), (11, (.int .i64 (a0.Edges.length : Int))), (12, (.int .i64 0))], [(3, (.tab (List.map (List.map Z8) (List.replicate a0.Count.toNat ([] : List Int))) none))]⟩) ⟨rfl, rfl, rfl, rfl, trivial⟩ ⟨rfl, trivial⟩ ?_
 refine Zw (V := Int × (List (List Int))) (X := (List (List Int))) (lp := fun k v => F47_l4 K a0 (F47_c6 K) k v.1 v.2 = some r) (sh := fun v => ⟨[(3, (.vs 3)), (10, (.sl 2 (a0.Edges.map Z3) false)), (11, (.int .i64 (a0.Edges.length : Int))), (12, (.int .i64 v.1))], [(3, (.tab (List.map (List.map Z8) v.2) none))]⟩) (x := fun v => F47_c6 K v = some r) (shx := fun v => ⟨[(3, (.vs 3))], [(3, (.tab (List.map (List.map Z8) v) none))]⟩) (k := K) (v := (0, (List.replicate a0.Count.toNat ([] : List Int)))) h ?_ ?_
 ·intro v h
  revert h
  revert v
  intro v5 h
  try dsimp only at h ⊢
  unfold F47_c6 at h
  refine Ze <| Zf <| Z6 <| Z1 I (Z9 (v := (.vs 3)) I I) I <| Z1 I (Zh (v := (.vs 3)) I I) I <| Zb <| Ze <| AWp.ret ?_
  refine At.ghost (st' := ⟨[(2, (.sl 1 (v5.map Zg) false))], []⟩) (fun a w h => (Zp ⟨[(2, (.sl 1 (v5.map Zg) false))], []⟩ (ghost_freezeT (m := 3) (enc := Z8) (l := v5) a w (Zp ⟨[(2, (.vs 3))], [(3, (.tab (List.map (List.map Z8) v5) none))]⟩ h ⟨rfl, trivial⟩ ⟨rfl, trivial⟩)) ⟨rfl, trivial⟩ trivial)) ?_
  have h := Option.some.inj h
  subst h
  refine (hret _ ?_).1
  exact ⟨[(.sl 1 (v5.map Zg) false)], ⟨rfl, trivial⟩, rfl, trivial⟩
 ·intro N k4 v h IH4 J4
  obtain ⟨v2, v3⟩ := v
  try dsimp only at h IH4 J4 ⊢
  cases k4 with
  | zero => cases h
  | succ k4 =>
   rw [F47_l4] at h
   refine Zf <| Z6 <| Z1 I (st_cmp (k := .i64) (a := v2) (b := (a0.Edges.length : Int)) (c := (decide (v2 < (a0.Edges.length : Int)))) I I I I) I <| Zb <| Ze <| Zf ?_
   have hif := of_if h
   refine Zv I (fun hc => ?_) (fun hc => ?_)
   ·have h := hif.1 hc
    refine Zy <| Ze <| Zf <| AWp.block <| Zf <| Z6 ?_
    have ⟨hg9, h⟩ := Zi h
    refine Z1 I (st_index (k := .i64) (l := a0.Edges) (enc := Z3) (z := Z2) (n := v2) (cs := (Z3 (a0.Edges.getD v2.toNat Z2)).cells) (full := false) I s33 I I hg9 I) I <| Z1 I (st_loadIA (cs := (Z3 (a0.Edges.getD v2.toNat Z2)).cells) (vs := (Z3 (a0.Edges.getD v2.toNat Z2)).cells) I a64 I I I) I <| Z1 I (st_alloc (cs := [(.int .i64 0), (.int .i64 0)]) I z64 I I I) I <| Z1 I (st_storeP (cs := [(.int .i64 0), (.int .i64 0)]) (vs := (Z3 (a0.Edges.getD v2.toNat Z2)).cells) (ds := (Z3 (a0.Edges.getD v2.toNat Z2)).cells) (v := (Z3 (a0.Edges.getD v2.toNat Z2))) sz64 I I I I I I I I) I <| Zb <| Ze <| AWp.regionD mixed <| Zd 0 I (Z9 (v := (.vs 3)) I I) ?_
    refine Zd 1 I (Z10 (m := 5) (o := 0) I f64_0 I I) <| Zd 2 I (Zu (cs := (Z3 (a0.Edges.getD v2.toNat Z2)).cells) (v := (.int .i64 (a0.Edges.getD v2.toNat Z2).From)) I o3 I I I) <| Zd 3 I (Z9 (v := (.vs 3)) I I) <| Zd 4 I (Z10 (m := 5) (o := 0) I f64_0 I I) <| Zd 5 I (Zu (cs := (Z3 (a0.Edges.getD v2.toNat Z2)).cells) (v := (.int .i64 (a0.Edges.getD v2.toNat Z2).From)) I o3 I I I) ?_
    have ⟨hg10, h⟩ := Zi h
    refine Zd 6 I (st_indexT (enc := Z8) (l := v3) (k := .i64) (j := (a0.Edges.getD v2.toNat Z2).From) (m := (a0.Edges.getD v2.toNat Z2).From.toNat) I s46 I I I hg10 I) ?_
    have ⟨hg11, h⟩ := Zi h
    refine Zd 7 I (st_loadT (enc := Z8) (l := v3) I o29 I I hg11) <| Zd 8 I (Z10 (m := 5) (o := 0) I f64_1 I I) <| Zd 9 I (Zu (cs := (Z3 (a0.Edges.getD v2.toNat Z2)).cells) (v := (.int .i64 (a0.Edges.getD v2.toNat Z2).To)) I o3 I I I) <| Zd 10 I (stx_buildSlice (vs := [(.int .i64 (a0.Edges.getD v2.toNat Z2).To)]) (enc := Z8) (l := [(a0.Edges.getD v2.toNat Z2).To]) I el29 I I ⟨rfl, trivial⟩ I els_i64 I I I I) ?_
    have ⟨hg12, h⟩ := Zi h
    have ⟨hg13, h⟩ := Zi h
    refine Zd 11 I (st_appendTR (enc := Z8) (l := v3) (l' := [(a0.Edges.getD v2.toNat Z2).To]) (src := (.vs 26)) (rd := [(26, (.vec 1 (List.map Z8 [(a0.Edges.getD v2.toNat Z2).To])))]) I I el29 I u29 I I hg12 I I (oneRead I) els_i64 hg13) ?_
    have ⟨hg14, h⟩ := Zi h
    refine Zd 12 I (st_indexT (enc := Z8) (l := (v3.set (a0.Edges.getD v2.toNat Z2).From.toNat ((v3.getD (a0.Edges.getD v2.toNat Z2).From.toNat []) ++ [(a0.Edges.getD v2.toNat Z2).To]))) (k := .i64) (j := (a0.Edges.getD v2.toNat Z2).From) (m := (a0.Edges.getD v2.toNat Z2).From.toNat) I s46 I I I hg14 I) ?_
    have ⟨hg15, h⟩ := Zi h
    refine Zd 13 I (st_storeTR (enc := Z8) (l := (v3.set (a0.Edges.getD v2.toNat Z2).From.toNat ((v3.getD (a0.Edges.getD v2.toNat Z2).From.toNat []) ++ [(a0.Edges.getD v2.toNat Z2).To]))) sz29 I I I hg15) <| AOpsD.nil (by kernel_rfl) I <| At.end <| Ze <| Z6 <| Z1 I (st_arith (k := .i64) (a := v2) (b := 1) (c := (IntKind.i64.wrap (v2 + 1))) I I I I) I <| Z1 I (Z9 (v := (.int .i64 (IntKind.i64.wrap (v2 + 1)))) I I) I <| Zb ?_
    exact Zl (st' := ⟨[(3, (.vs 3)), (10, (.sl 2 (a0.Edges.map Z3) false)), (11, (.int .i64 (a0.Edges.length : Int))), (12, (.int .i64 (IntKind.i64.wrap (v2 + 1))))], [(3, (.tab (List.map (List.map Z8) (v3.set (a0.Edges.getD v2.toNat Z2).From.toNat ((v3.getD (a0.Edges.getD v2.toNat Z2).From.toNat []) ++ [(a0.Edges.getD v2.toNat Z2).To]))) none))]⟩) ⟨rfl, rfl, rfl, rfl, trivial⟩ ⟨rfl, trivial⟩ (IH4 _ ((IntKind.i64.wrap (v2 + 1)), (v3.set (a0.Edges.getD v2.toNat Z2).From.toNat ((v3.getD (a0.Edges.getD v2.toNat Z2).From.toNat []) ++ [(a0.Edges.getD v2.toNat Z2).To]))) (Nat.lt_succ_self _) h)
   ·have h := hif.2 hc
    refine AWp.exit <| At.thru ?_
    exact Zl (st' := ⟨[(3, (.vs 3))], [(3, (.tab (List.map (List.map Z8) v3) none))]⟩) ⟨rfl, trivial⟩ ⟨rfl, trivial⟩ (J4 v3 h)
def F50_c3 (K : Nat) : Option (Int) :=
 some (Int.negSucc 0)
def F50_l2 (K : Nat) (a0 : (List Int)) (a1 : Int) (c4 : Option (Int)) : Nat → Int → Option (Int)
 | 0, _ => none
 | k2 + 1, v1 =>
  if (decide (v1 < (a0.length : Int))) = true then
   if (0 : Int) ≤ v1 ∧ v1 < a0.length then
    if (a1 == (a0.getD v1.toNat 0)) = true then
     some v1
    else
     (F50_l2 K a0 a1 c4 k2) (IntKind.i64.wrap (v1 + 1))
   else none
  else
   c4
def F50 (K : Nat) (a0 : (List Int)) (a1 : Int) : Option (Int) :=
 F50_l2 K a0 a1 (F50_c3 K) K 0
theorem F50_ok (K : Nat) (a0 : (List Int)) (a1 : Int) (r : Int) (h : F50 K a0 a1 = some r) : ACall P 50 ⟨[(.sl 1 (a0.map Z8) false), (.int .i64 a1)], [], (.int .i64 r), [], []⟩ := by
 refine acall_of Try.func50 Try.results50 rfl Try.ntmps50 rfl rfl rfl ?_
 intro E Q hP hN hro hret
 obtain ⟨P', nt', w0, F0, p0, S0, β0, ro0⟩ := E
 simp only at hP hN
 subst hP hN
 dsimp only [argT]
 unfold F50 at h
 refine Zf <| Z6 <| Z1 I (Zh (v := (.int .i64 0)) I I) I <| Zb <| Ze <| Zf <| Zf <| Z6 ?_
 refine Z1 I (Z9 (v := (.sl 1 (a0.map Z8) false)) I I) I <| Z1 I (stx_len (l := a0) (enc := Z8) I s29 I) I <| Z1 I (Z9 (v := (.int .i64 0)) I I) I <| Zb <| Ze <| AWp.weaken (st' := ⟨[(0, (.sl 1 (a0.map Z8) false)), (1, (.int .i64 a1)), (7, (.int .i64 (a0.length : Int))), (8, (.int .i64 0))], []⟩) ⟨rfl, rfl, rfl, rfl, trivial⟩ trivial ?_
 refine Zw (V := Int) (X := Unit) (lp := fun k v => F50_l2 K a0 a1 (F50_c3 K) k v = some r) (sh := fun v => ⟨[(0, (.sl 1 (a0.map Z8) false)), (1, (.int .i64 a1)), (7, (.int .i64 (a0.length : Int))), (8, (.int .i64 v))], []⟩) (x := fun v => F50_c3 K = some r) (shx := fun v => ⟨[], []⟩) (k := K) (v := 0) h ?_ ?_
 ·intro v h
  try dsimp only at h ⊢
  unfold F50_c3 at h
  refine Ze <| Zf <| Z6 <| Z1 I (Zh (v := (.int .i64 (Int.negSucc 0))) I I) I <| Zb <| Ze <| AWp.ret ?_
  have h := Option.some.inj h
  subst h
  refine (hret _ ?_).1
  exact ⟨[(.int .i64 (Int.negSucc 0))], ⟨rfl, trivial⟩, rfl, trivial⟩
 ·intro N k2 v h IH2 J2
  revert h
  revert v
  intro v1 h
  try dsimp only at h IH2 J2 ⊢
  cases k2 with
  | zero => cases h
  | succ k2 =>
   rw [F50_l2] at h
   refine Zf <| Z6 <| Z1 I (st_cmp (k := .i64) (a := v1) (b := (a0.length : Int)) (c := (decide (v1 < (a0.length : Int)))) I I I I) I <| Zb <| Ze <| Zf ?_
   have hif := of_if h
   refine Zv I (fun hc => ?_) (fun hc => ?_)
   ·have h := hif.1 hc
    refine Zy <| Ze <| Zf <| AWp.block <| Zf <| Z6 <| Z1 I (Z9 (v := (.int .i64 v1)) I I) I <| Z1 I (Zh (v := (.int .i64 v1)) I I) I ?_
    refine Zb <| Ze <| Zf <| Z6 <| Z1 I (Z9 (v := (.int .i64 a1)) I I) I <| Z1 I (Z9 (v := (.sl 1 (a0.map Z8) false)) I I) I <| Z1 I (Z9 (v := (.int .i64 v1)) I I) I ?_
    have ⟨hg6, h⟩ := Zi h
    refine Z1 I (st_index (k := .i64) (l := a0) (enc := Z8) (z := 0) (n := v1) (cs := [(.int .i64 (a0.getD v1.toNat 0))]) (full := false) I s29 I I hg6 I) I <| Z1 I (st_loadI (cs := [(.int .i64 (a0.getD v1.toNat 0))]) (v := (.int .i64 (a0.getD v1.toNat 0))) I o3 I I) I <| Z1 I (st_cmp (k := .i64) (a := a1) (b := (a0.getD v1.toNat 0)) (c := (a1 == (a0.getD v1.toNat 0))) I I I I) I <| Zb <| Ze ?_
    have hif := of_if h
    refine Zv I (fun hc => ?_) (fun hc => ?_)
    ·have h := hif.1 hc
     refine Zf <| Z6 <| Z1 I (Z9 (v := (.int .i64 v1)) I I) I <| Z1 I (Zh (v := (.int .i64 v1)) I I) I <| Zb <| Ze <| AWp.ret <| At.overR ?_
     refine At.thruR ?_
     refine At.thruR (At.overR ?_)
     refine At.thruR ?_
     have h := Option.some.inj h
     subst h
     refine (hret _ ?_).1
     exact ⟨[(.int .i64 v1)], ⟨rfl, trivial⟩, rfl, trivial⟩
    ·have h := hif.2 hc
     refine Zy <| At.end <| Ze <| Z6 <| Z1 I (st_arith (k := .i64) (a := v1) (b := 1) (c := (IntKind.i64.wrap (v1 + 1))) I I I I) I <| Z1 I (Z9 (v := (.int .i64 (IntKind.i64.wrap (v1 + 1)))) I I) I <| Zb ?_
     exact Zl (st' := ⟨[(0, (.sl 1 (a0.map Z8) false)), (1, (.int .i64 a1)), (7, (.int .i64 (a0.length : Int))), (8, (.int .i64 (IntKind.i64.wrap (v1 + 1))))], []⟩) ⟨rfl, rfl, rfl, rfl, trivial⟩ trivial (IH2 _ (IntKind.i64.wrap (v1 + 1)) (Nat.lt_succ_self _) h)
   ·have h := hif.2 hc
    refine AWp.exit <| At.thru ?_
    exact Zl (st' := ⟨[], []⟩) trivial trivial (J2 () h)
def F51 (K : Nat) (a0 : (List Int)) : Option ((List Int)) :=
 if ([] : List Int).length + a0.length ≤ 1073741824 then
  some a0
 else none
theorem F51_ok (K : Nat) (a0 : (List Int)) (r : (List Int)) (h : F51 K a0 = some r) : ACall P 51 ⟨[(.sl 1 (a0.map Z8) false)], [], .vs 2, [(2, .vec 1 (List.map Z8 r))], [2]⟩ := by
 refine acall_of Try.func51 Try.results51 rfl Try.ntmps51 rfl rfl rfl ?_
 intro E Q hP hN hro hret
 obtain ⟨P', nt', w0, F0, p0, S0, β0, ro0⟩ := E
 simp only at hP hN
 subst hP hN
 dsimp only [argT]
 unfold F51 at h
 refine Zf <| Z6 <| Z1 I (Zh (v := (.sl 1 [] true)) I I) I <| Zb <| Ze <| Zf <| Zf <| Z6 ?_
 refine Z1 I (Z9 (v := (.sl 1 (a0.map Z8) false)) I I) I ?_
 refine AOps.consNil (enc := Z8) (es := a0) (full := false) I u29 I (fun x1 hbx1 => ?_)
 refine Zb <| Ze ?_
 refine Zv I (fun hc => ?_) (fun hc => ?_)
 ·have hz := hbx1 hc
  have h : (some []) = some r := by simp only [hz] at h ⊢; simpa using h
  refine Zf <| Z6 <| Z1 I (Zh (v := (.sl 1 [] true)) I I) I <| Zb <| Ze <| AWp.ret <| At.thruR <| At.ghost (st' := ⟨[(2, (.vs 2))], [(2, (.vec 1 (List.map Z8 ([] : List Int))))]⟩) (fun a w h => (Zp ⟨[(2, (.vs 2))], [(2, (.vec 1 (List.map Z8 ([] : List Int))))]⟩ (ghost_own (k := 2) (m := 2) (sz := 1) I I a w (Zp ⟨[(2, (.sl 1 [] true))], []⟩ h ⟨rfl, trivial⟩ trivial)) ⟨rfl, trivial⟩ ⟨rfl, trivial⟩)) ?_
  have h := Option.some.inj h
  subst h
  refine (hret _ ?_).1
  exact ⟨[(.vs 2)], ⟨rfl, trivial⟩, rfl, ⟨rfl, trivial⟩⟩
 ·refine Zy <| Ze <| Zf <| Z6 <| Z1 I (stx_buildSlice (vs := []) (enc := Z8) (l := ([] : List Int)) I el29 I I trivial I els_i64 I I I I) I <| Z1 I (Z9 (v := (.sl 1 (a0.map Z8) false)) I I) I ?_
  have ⟨hg2, h⟩ := Zi h
  refine Z1 I (st_append (m := 5) (enc := Z8) (l := ([] : List Int)) (l' := a0) (src := (.sl 1 (a0.map Z8) false)) (rd := []) I I el29 I u29 I I I ⟨rfl, rfl, rfl⟩ noReads els_i64 hg2) I <| Z1 I (Zh (v := (.vs 5)) I I) I <| Zb <| Ze <| AWp.ret <| At.ghost (st' := ⟨[(2, (.vs 2))], [(2, (.vec 1 (List.map Z8 a0)))]⟩) (fun a w h => (Zp ⟨[(2, (.vs 2))], [(2, (.vec 1 (List.map Z8 a0)))]⟩ (ghost_sw (a := 5) (b := 2) I I a w (Zp ⟨[(2, (.vs 5))], [(5, (.vec 1 (List.map Z8 a0)))]⟩ h ⟨rfl, trivial⟩ ⟨rfl, trivial⟩)) ⟨rfl, trivial⟩ ⟨rfl, trivial⟩)) ?_
  have h := Option.some.inj h
  subst h
  refine (hret _ ?_).1
  exact ⟨[(.vs 2)], ⟨rfl, trivial⟩, rfl, ⟨rfl, trivial⟩⟩
def F49_c51 (K : Nat) (v43 : (List Int)) (v25 : (List (List Int))) (v30 : Int) (v31 : (List (List Int))) (v29 : (List Int)) (v28 : (List Int)) (v27 : (List Int)) (v39 : Int) (v50 : (List Bool)) : Option (Int × (List (List Int)) × (List Int) × (List Int) × (List Int) × (List Bool) × (List (List Int))) :=
 (sortI v43).bind fun v54 =>
  if v25.length + [v54].length ≤ 1073741824 then
   some (v30, v31, v29, v28, ((v27.drop (0 + (0 : Int).toNat)).take (v39.toNat - (0 : Int).toNat)), v50, (v25 ++ [v54]))
  else none
def F49_l49 (K : Nat) (v43 : (List Int)) (c52 : (List Bool) → Option (Int × (List (List Int)) × (List Int) × (List Int) × (List Int) × (List Bool) × (List (List Int)))) : Nat → Int → (List Bool) → Option (Int × (List (List Int)) × (List Int) × (List Int) × (List Int) × (List Bool) × (List (List Int)))
 | 0, _, _ => none
 | k49 + 1, v47, v48 =>
  if (decide (v47 < (v43.length : Int))) = true then
   if (0 : Int) ≤ v47 ∧ v47 < (v43.length : Nat) then
    if v47.toNat < v43.length then
     if (0 : Int) ≤ (v43.getD v47.toNat 0) ∧ (v43.getD v47.toNat 0) < (v48.length : Nat) then
      if (v43.getD v47.toNat 0).toNat < v48.length then
       (F49_l49 K v43 c52 k49) (IntKind.i64.wrap (v47 + 1)) (v48.set (v43.getD v47.toNat 0).toNat false)
      else none
     else none
    else none
   else none
  else
   c52 v48
def F49_c32 (K : Nat) (a0 : Int) (v25 : (List (List Int))) (v26 : (List Bool)) (v27 : (List Int)) (v28 : (List Int)) (v29 : (List Int)) (v30 : Int) (v31 : (List (List Int))) : Option (Int × (List (List Int)) × (List Int) × (List Int) × (List Int) × (List Bool) × (List (List Int))) :=
 if (0 : Int) ≤ a0 ∧ a0 < (v28.length : Nat) then
  if a0.toNat < v28.length then
   if (0 : Int) ≤ a0 ∧ a0 < (v29.length : Nat) then
    if a0.toNat < v29.length then
     if ((v28.getD a0.toNat 0) != (v29.getD a0.toNat 0)) = true then
      some (v30, v31, v29, v28, v27, v26, v25)
     else
      (F50 K v27 a0).bind fun v39 =>
       if (0 : Int) ≤ v39 ∧ v39 ≤ (v27.length : Int) ∧ (v27.length : Int) ≤ (v27.length : Nat) then
        if (0 + v39.toNat) + ((v27.length : Int).toNat - v39.toNat) ≤ v27.length then
         (F51 K ((v27.drop (0 + v39.toNat)).take ((v27.length : Int).toNat - v39.toNat))).bind fun v43 =>
          if (0 : Int) ≤ 0 ∧ 0 ≤ v39 ∧ v39 ≤ (v27.length : Nat) then
           if (0 + (0 : Int).toNat) + (v39.toNat - (0 : Int).toNat) ≤ v27.length then
            if (0 + (0 : Int).toNat) + (v39.toNat - (0 : Int).toNat) ≤ v27.length then
             F49_l49 K v43 (F49_c51 K v43 v25 v30 v31 v29 v28 v27 v39) K 0 v26
            else none
           else none
          else none
        else none
       else none
    else none
   else none
  else none
 else none
def F49_j72 (K : Nat) (b61 : Int → (List (List Int)) → (List Bool) → (List Int) → (List Int) → (List Int) → Int → (List (List Int)) → Option (Int × (List (List Int)) × (List Int) × (List Int) × (List Int) × (List Bool) × (List (List Int)))) (v16 : Int) (v65 : (List (List Int))) (v66 : (List Bool)) (v67 : (List Int)) (v68 : (List Int)) (v69 : (List Int)) (v70 : Int) (v71 : (List (List Int))) : Option (Int × (List (List Int)) × (List Int) × (List Int) × (List Int) × (List Bool) × (List (List Int))) :=
 b61 (IntKind.i64.wrap (v16 + 1)) v65 v66 v67 v68 v69 v70 v71
def F49_l24 (K : Nat) (a2 : (List (List Int))) (a0 : Int) (b900 : Int → Int → (List (List Int)) → (List Int) → (List Int) → (List Int) → (List Bool) → (List (List Int)) → Option (Int × (List (List Int)) × (List Int) × (List Int) × (List Int) × (List Bool) × (List (List Int)))) (c33 : (List (List Int)) → (List Bool) → (List Int) → (List Int) → (List Int) → Int → (List (List Int)) → Option (Int × (List (List Int)) × (List Int) × (List Int) × (List Int) × (List Bool) × (List (List Int)))) : Nat → Int → (List (List Int)) → (List Bool) → (List Int) → (List Int) → (List Int) → Int → (List (List Int)) → Option (Int × (List (List Int)) × (List Int) × (List Int) × (List Int) × (List Bool) × (List (List Int)))
 | 0, _, _, _, _, _, _, _, _ => none
 | k24 + 1, v16, v17, v18, v19, v20, v21, v22, v23 =>
  if (decide (v16 < ((a2.getD a0.toNat []).length : Int))) = true then
   if (0 : Int) ≤ v16 ∧ v16 < (a2.getD a0.toNat []).length then
    if (0 : Int) ≤ ((a2.getD a0.toNat []).getD v16.toNat 0) ∧ ((a2.getD a0.toNat []).getD v16.toNat 0) < (v21.length : Nat) then
     if ((a2.getD a0.toNat []).getD v16.toNat 0).toNat < v21.length then
      if ((v21.getD ((a2.getD a0.toNat []).getD v16.toNat 0).toNat 0) == 0) = true then
       (b900 ((a2.getD a0.toNat []).getD v16.toNat 0) v22 v23 v21 v20 v19 v18 v17).bind fun v74 =>
        if (0 : Int) ≤ a0 ∧ a0 < (v74.2.2.2.1.length : Nat) then
         if a0.toNat < v74.2.2.2.1.length then
          if (0 : Int) ≤ ((a2.getD a0.toNat []).getD v16.toNat 0) ∧ ((a2.getD a0.toNat []).getD v16.toNat 0) < (v74.2.2.2.1.length : Nat) then
           if ((a2.getD a0.toNat []).getD v16.toNat 0).toNat < v74.2.2.2.1.length then
            if (0 : Int) ≤ a0 ∧ a0 < (v74.2.2.2.1.length : Nat) then
             if a0.toNat < v74.2.2.2.1.length then
              F49_j72 K (F49_l24 K a2 a0 b900 c33 k24) v16 v74.2.2.2.2.2.2 v74.2.2.2.2.2.1 v74.2.2.2.2.1 (v74.2.2.2.1.set a0.toNat (if (v74.2.2.2.1.getD ((a2.getD a0.toNat []).getD v16.toNat 0).toNat 0) < (v74.2.2.2.1.getD a0.toNat 0) then (v74.2.2.2.1.getD ((a2.getD a0.toNat []).getD v16.toNat 0).toNat 0) else (v74.2.2.2.1.getD a0.toNat 0))) v74.2.2.1 v74.1 v74.2.1
             else none
            else none
           else none
          else none
         else none
        else none
      else
       if (0 : Int) ≤ ((a2.getD a0.toNat []).getD v16.toNat 0) ∧ ((a2.getD a0.toNat []).getD v16.toNat 0) < (v18.length : Nat) then
        if ((a2.getD a0.toNat []).getD v16.toNat 0).toNat < v18.length then
         if (v18.getD ((a2.getD a0.toNat []).getD v16.toNat 0).toNat false) = true then
          if (0 : Int) ≤ a0 ∧ a0 < (v20.length : Nat) then
           if a0.toNat < v20.length then
            if (0 : Int) ≤ ((a2.getD a0.toNat []).getD v16.toNat 0) ∧ ((a2.getD a0.toNat []).getD v16.toNat 0) < (v21.length : Nat) then
             if ((a2.getD a0.toNat []).getD v16.toNat 0).toNat < v21.length then
              if (0 : Int) ≤ a0 ∧ a0 < (v20.length : Nat) then
               if a0.toNat < v20.length then
                F49_j72 K (F49_l24 K a2 a0 b900 c33 k24) v16 v17 v18 v19 (v20.set a0.toNat (if (v21.getD ((a2.getD a0.toNat []).getD v16.toNat 0).toNat 0) < (v20.getD a0.toNat 0) then (v21.getD ((a2.getD a0.toNat []).getD v16.toNat 0).toNat 0) else (v20.getD a0.toNat 0))) v21 v22 v23
               else none
              else none
             else none
            else none
           else none
          else none
         else
          F49_j72 K (F49_l24 K a2 a0 b900 c33 k24) v16 v17 v18 v19 v20 v21 v22 v23
        else none
       else none
     else none
    else none
   else none
  else
   c33 v17 v18 v19 v20 v21 v22 v23
def F49 : Nat → Int → Int → (List (List Int)) → (List Int) → (List Int) → (List Int) → (List Bool) → (List (List Int)) → Option (Int × (List (List Int)) × (List Int) × (List Int) × (List Int) × (List Bool) × (List (List Int)))
 | 0, _, _, _, _, _, _, _, _ => none
 | K + 1, a0, a1, a2, a3, a4, a5, a6, a7 =>
  if (0 : Int) ≤ a0 ∧ a0 < (a3.length : Nat) then
   if a0.toNat < a3.length then
    if (0 : Int) ≤ a0 ∧ a0 < (a4.length : Nat) then
     if a0.toNat < a4.length then
      if a5.length + [a0].length ≤ 1073741824 then
       if (0 : Int) ≤ a0 ∧ a0 < (a6.length : Nat) then
        if a0.toNat < a6.length then
         if (0 : Int) ≤ a0 ∧ a0 < a2.length then
          F49_l24 K a2 a0 (F49 K) (F49_c32 K a0) K 0 a7 (a6.set a0.toNat true) (a5 ++ [a0]) (a4.set a0.toNat (IntKind.i64.wrap (a1 + 1))) (a3.set a0.toNat (IntKind.i64.wrap (a1 + 1))) (IntKind.i64.wrap (a1 + 1)) a2
         else none
        else none
       else none
      else none
     else none
    else none
   else none
  else none
theorem F49_ok : ∀ (K : Nat) (a0 : Int) (a1 : Int) (a2 : (List (List Int))) (a3 : (List Int)) (a4 : (List Int)) (a5 : (List Int)) (a6 : (List Bool)) (a7 : (List (List Int))) (r : Int × (List (List Int)) × (List Int) × (List Int) × (List Int) × (List Bool) × (List (List Int))) (h : F49 K a0 a1 a2 a3 a4 a5 a6 a7 = some r), ACall P 49 ⟨[(.int .i64 a0), (.ptr 2000 0), (.ptr 2001 0), (.ptr 2002 0), (.ptr 2003 0), (.ptr 2004 0), (.ptr 2005 0), (.ptr 2006 0), (.ptr 2007 0)], [(2000, (.box [(.int .i64 a1)])), (2001, (.box [(.vs 111)])), (2002, (.box [(.vs 110)])), (2003, (.box [(.vs 108)])), (2004, (.box [(.vs 107)])), (2005, (.box [(.sl 1 (a2.map Zg) false)])), (2006, (.box [(.clo 49 [(.ptr 2000 0), (.ptr 2001 0), (.ptr 2002 0), (.ptr 2003 0), (.ptr 2004 0), (.ptr 2005 0), (.ptr 2006 0), (.ptr 2007 0)])])), (2007, (.box [(.vs 106)])), (111, (.vec 1 (List.map Z8 a3))), (110, (.vec 1 (List.map Z8 a4))), (108, (.vec 1 (List.map Z8 a5))), (107, (.vec 1 (List.map Zo a6))), (106, (.vec 1 (List.map Zg a7)))], (.tup []), [(2000, (.box [(.int .i64 r.1)])), (2001, (.box [(.vs 111)])), (2002, (.box [(.vs 110)])), (2003, (.box [(.vs 108)])), (2004, (.box [(.vs 107)])), (2005, (.box [(.sl 1 (r.2.1.map Zg) false)])), (2006, (.box [(.clo 49 [(.ptr 2000 0), (.ptr 2001 0), (.ptr 2002 0), (.ptr 2003 0), (.ptr 2004 0), (.ptr 2005 0), (.ptr 2006 0), (.ptr 2007 0)])])), (2007, (.box [(.vs 106)])), (111, (.vec 1 (List.map Z8 r.2.2.1))), (110, (.vec 1 (List.map Z8 r.2.2.2.1))), (108, (.vec 1 (List.map Z8 r.2.2.2.2.1))), (107, (.vec 1 (List.map Zo r.2.2.2.2.2.1))), (106, (.vec 1 (List.map Zg r.2.2.2.2.2.2)))], [111, 110, 108, 107, 106]⟩ := by
 intro K
 induction K with
 | zero => intro a0 a1 a2 a3 a4 a5 a6 a7 r h; cases h
 | succ K IH =>
  intro a0 a1 a2 a3 a4 a5 a6 a7 r h
  refine acall_of Try.func49 Try.results49 rfl Try.ntmps49 rfl rfl rfl ?_
  intro E Q hP hN hro hret
  obtain ⟨P', nt', w0, F0, p0, S0, β0, ro0⟩ := E
  simp only at hP hN
  subst hP hN
  dsimp only [argT]
  rw [F49] at h
  refine Zf <| Z6 <| Z1 I (Zu (cs := [(.int .i64 a1)]) (v := (.int .i64 a1)) I o3 I I I) I <| Z1 I (st_arith (k := .i64) (a := a1) (b := 1) (c := (IntKind.i64.wrap (a1 + 1))) I I I I) I <| Z1 I (st_storeP (cs := [(.int .i64 a1)]) (vs := [(.int .i64 (IntKind.i64.wrap (a1 + 1)))]) (ds := [(.int .i64 (IntKind.i64.wrap (a1 + 1)))]) (v := (.int .i64 (IntKind.i64.wrap (a1 + 1)))) sz3 I I I I I I I I) I <| Zb <| Ze <| Zf ?_
  refine AWp.regionD mixed <| Zd 0 I (st_loadPC (cs := [(.vs 111)]) (v := (.vs 111)) I o29 I I I) <| Zd 1 I (Z9 (v := (.int .i64 a0)) I I) <| Zd 2 I (st_loadPC (cs := [(.vs 110)]) (v := (.vs 110)) I o29 I I I) <| Zd 3 I (Z9 (v := (.int .i64 a0)) I I) <| Zd 4 I (Zu (cs := [(.int .i64 (IntKind.i64.wrap (a1 + 1)))]) (v := (.int .i64 (IntKind.i64.wrap (a1 + 1)))) I o3 I I I) <| Zd 5 I (Zu (cs := [(.int .i64 (IntKind.i64.wrap (a1 + 1)))]) (v := (.int .i64 (IntKind.i64.wrap (a1 + 1)))) I o3 I I I) ?_
  have ⟨hg8, h⟩ := Zi h
  refine Zd 6 I (st_indexV (k := .i64) (v := (.vs 111)) (n := 111) (off := 0) (len := a3.length) (es := (List.map Z8 a3)) (j := a0) (m := a0.toNat) I s29 I I (vecR_map _ _ _) I hg8 (Nat.zero_add _)) ?_
  have ⟨hg9, h⟩ := Zi h
  refine Zd 7 I (st_storeV (l := a3) (enc := Z8) (z := 0) (a := (IntKind.i64.wrap (a1 + 1))) (v := (.int .i64 (IntKind.i64.wrap (a1 + 1)))) sz3 I I hg9 I els_i64 I I I I) ?_
  have ⟨hg10, h⟩ := Zi h
  refine Zd 8 I (st_indexV (k := .i64) (v := (.vs 110)) (n := 110) (off := 0) (len := a4.length) (es := (List.map Z8 a4)) (j := a0) (m := a0.toNat) I s29 I I (vecR_map _ _ _) I hg10 (Nat.zero_add _)) ?_
  have ⟨hg11, h⟩ := Zi h
  refine Zd 9 I (st_storeV (l := a4) (enc := Z8) (z := 0) (a := (IntKind.i64.wrap (a1 + 1))) (v := (.int .i64 (IntKind.i64.wrap (a1 + 1)))) sz3 I I hg11 I els_i64 I I I I) <| AOpsD.nil (by kernel_rfl) I <| Ze <| Zf <| Z6 <| Z1 I (Zu (cs := [(.vs 108)]) (v := (.vs 108)) I o29 I I I) I <| Z1 I (Z9 (v := (.int .i64 a0)) I I) I <| Z1 I (stx_buildSlice (vs := [(.int .i64 a0)]) (enc := Z8) (l := [a0]) I el29 I I ⟨rfl, trivial⟩ I els_i64 I I I I) I ?_
  have ⟨hg12, h⟩ := Zi h
  refine Z1 I (st_append (m := 108) (enc := Z8) (l := a5) (l' := [a0]) (src := (.vs 28)) (rd := [(28, (.vec 1 (List.map Z8 [a0])))]) I I el29 I u29 I I I I (oneRead I) els_i64 hg12) I <| Z1 I (st_storeP (cs := [.undef]) (vs := [(.vs 108)]) (ds := [(.vs 108)]) (v := (.vs 108)) sz29 I I I I I I I I) I <| Zb <| Ze <| Zf <| Z6 <| Z1 I (Zu (cs := [(.vs 107)]) (v := (.vs 107)) I o49 I I I) I <| Z1 I (Z9 (v := (.int .i64 a0)) I I) I ?_
  have ⟨hg13, h⟩ := Zi h
  refine Z1 I (st_indexV (k := .i64) (v := (.vs 107)) (n := 107) (off := 0) (len := a6.length) (es := (List.map Zo a6)) (j := a0) (m := a0.toNat) I s49 I I (vecR_map _ _ _) I hg13 (Nat.zero_add _)) I ?_
  have ⟨hg14, h⟩ := Zi h
  refine Z1 I (st_storeV (l := a6) (enc := Zo) (z := false) (a := true) (v := (.bool true)) sz4 I I hg14 I els_bool I I I I) I <| Zb <| Ze <| Zf <| Zf <| Z6 <| Z1 I (Zu (cs := [(.sl 1 (a2.map Zg) false)]) (v := (.sl 1 (a2.map Zg) false)) I o46 I I I) I <| Z1 I (Z9 (v := (.int .i64 a0)) I I) I ?_
  have ⟨hg15, h⟩ := Zi h
  refine Z1 I (st_index (k := .i64) (l := a2) (enc := Zg) (z := []) (n := a0) (cs := [(.sl 1 ((a2.getD a0.toNat []).map Z8) false)]) (full := false) I s46 I I hg15 I) I <| Z1 I (st_loadI (cs := [(.sl 1 ((a2.getD a0.toNat []).map Z8) false)]) (v := (.sl 1 ((a2.getD a0.toNat []).map Z8) false)) I o29 I I) I <| Z1 I (stx_len (l := (a2.getD a0.toNat [])) (enc := Z8) I s29 I) I <| Z1 I (Z9 (v := (.int .i64 0)) I I) I <| Zb <| Ze <| AWp.weaken (st' := ⟨[(0, (.int .i64 a0)), (2, (.ptr 2001 0)), (3, (.ptr 2002 0)), (4, (.ptr 2003 0)), (5, (.ptr 2004 0)), (7, (.ptr 2006 0)), (8, (.ptr 2007 0)), (36, (.sl 1 ((a2.getD a0.toNat []).map Z8) false)), (37, (.int .i64 ((a2.getD a0.toNat []).length : Int))), (38, (.int .i64 0))], [(106, (.vec 1 (List.map Zg a7))), (107, (.vec 1 (List.map Zo (a6.set a0.toNat true)))), (108, (.vec 1 (List.map Z8 (a5 ++ [a0])))), (110, (.vec 1 (List.map Z8 (a4.set a0.toNat (IntKind.i64.wrap (a1 + 1)))))), (111, (.vec 1 (List.map Z8 (a3.set a0.toNat (IntKind.i64.wrap (a1 + 1)))))), (2000, (.box [(.int .i64 (IntKind.i64.wrap (a1 + 1)))])), (2001, (.box [(.vs 111)])), (2002, (.box [(.vs 110)])), (2003, (.box [(.vs 108)])), (2004, (.box [(.vs 107)])), (2005, (.box [(.sl 1 (a2.map Zg) false)])), (2006, (.box [(.clo 49 [(.ptr 2000 0), (.ptr 2001 0), (.ptr 2002 0), (.ptr 2003 0), (.ptr 2004 0), (.ptr 2005 0), (.ptr 2006 0), (.ptr 2007 0)])])), (2007, (.box [(.vs 106)]))]⟩) ⟨rfl, rfl, rfl, rfl, rfl, rfl, rfl, rfl, rfl, rfl, trivial⟩ ⟨rfl, rfl, rfl, rfl, rfl, rfl, rfl, rfl, rfl, rfl, rfl, rfl, rfl, trivial⟩ ?_
  refine Zw (V := Int × (List (List Int)) × (List Bool) × (List Int) × (List Int) × (List Int) × Int × (List (List Int))) (X := (List (List Int)) × (List Bool) × (List Int) × (List Int) × (List Int) × Int × (List (List Int))) (lp := fun k v => F49_l24 K a2 a0 (F49 K) (F49_c32 K a0) k v.1 v.2.1 v.2.2.1 v.2.2.2.1 v.2.2.2.2.1 v.2.2.2.2.2.1 v.2.2.2.2.2.2.1 v.2.2.2.2.2.2.2 = some r) (sh := fun v => ⟨[(0, (.int .i64 a0)), (2, (.ptr 2001 0)), (3, (.ptr 2002 0)), (4, (.ptr 2003 0)), (5, (.ptr 2004 0)), (7, (.ptr 2006 0)), (8, (.ptr 2007 0)), (36, (.sl 1 ((a2.getD a0.toNat []).map Z8) false)), (37, (.int .i64 ((a2.getD a0.toNat []).length : Int))), (38, (.int .i64 v.1))], [(106, (.vec 1 (List.map Zg v.2.1))), (107, (.vec 1 (List.map Zo v.2.2.1))), (108, (.vec 1 (List.map Z8 v.2.2.2.1))), (110, (.vec 1 (List.map Z8 v.2.2.2.2.1))), (111, (.vec 1 (List.map Z8 v.2.2.2.2.2.1))), (2000, (.box [(.int .i64 v.2.2.2.2.2.2.1)])), (2001, (.box [(.vs 111)])), (2002, (.box [(.vs 110)])), (2003, (.box [(.vs 108)])), (2004, (.box [(.vs 107)])), (2005, (.box [(.sl 1 (v.2.2.2.2.2.2.2.map Zg) false)])), (2006, (.box [(.clo 49 [(.ptr 2000 0), (.ptr 2001 0), (.ptr 2002 0), (.ptr 2003 0), (.ptr 2004 0), (.ptr 2005 0), (.ptr 2006 0), (.ptr 2007 0)])])), (2007, (.box [(.vs 106)]))]⟩) (x := fun v => F49_c32 K a0 v.1 v.2.1 v.2.2.1 v.2.2.2.1 v.2.2.2.2.1 v.2.2.2.2.2.1 v.2.2.2.2.2.2 = some r) (shx := fun v => ⟨[(0, (.int .i64 a0)), (2, (.ptr 2001 0)), (3, (.ptr 2002 0)), (4, (.ptr 2003 0)), (5, (.ptr 2004 0)), (8, (.ptr 2007 0))], [(106, (.vec 1 (List.map Zg v.1))), (107, (.vec 1 (List.map Zo v.2.1))), (108, (.vec 1 (List.map Z8 v.2.2.1))), (110, (.vec 1 (List.map Z8 v.2.2.2.1))), (111, (.vec 1 (List.map Z8 v.2.2.2.2.1))), (2000, (.box [(.int .i64 v.2.2.2.2.2.1)])), (2001, (.box [(.vs 111)])), (2002, (.box [(.vs 110)])), (2003, (.box [(.vs 108)])), (2004, (.box [(.vs 107)])), (2005, (.box [(.sl 1 (v.2.2.2.2.2.2.map Zg) false)])), (2006, (.box [(.clo 49 [(.ptr 2000 0), (.ptr 2001 0), (.ptr 2002 0), (.ptr 2003 0), (.ptr 2004 0), (.ptr 2005 0), (.ptr 2006 0), (.ptr 2007 0)])])), (2007, (.box [(.vs 106)]))]⟩) (k := K) (v := (0, a7, (a6.set a0.toNat true), (a5 ++ [a0]), (a4.set a0.toNat (IntKind.i64.wrap (a1 + 1))), (a3.set a0.toNat (IntKind.i64.wrap (a1 + 1))), (IntKind.i64.wrap (a1 + 1)), a2)) h ?_ ?_
  ·intro v h
   obtain ⟨v25, v26, v27, v28, v29, v30, v31⟩ := v
   try dsimp only at h ⊢
   unfold F49_c32 at h
   refine Ze <| Zf <| Zf <| AWp.regionD mixed <| Zd 0 I (st_loadPC (cs := [(.vs 110)]) (v := (.vs 110)) I o29 I I I) <| Zd 1 I (Z9 (v := (.int .i64 a0)) I I) ?_
   have ⟨hg34, h⟩ := Zi h
   refine Zd 2 I (st_indexV (k := .i64) (v := (.vs 110)) (n := 110) (off := 0) (len := v28.length) (es := (List.map Z8 v28)) (j := a0) (m := a0.toNat) I s29 I I (vecR_map _ _ _) I hg34 (Nat.zero_add _)) ?_
   have ⟨hg35, h⟩ := Zi h
   refine Zd 3 I (st_loadV (l := v28) (enc := Z8) (z := 0) (v := (.int .i64 (v28.getD a0.toNat 0))) I o3 I I hg35 I) <| Zd 4 I (st_loadPC (cs := [(.vs 111)]) (v := (.vs 111)) I o29 I I I) <| Zd 5 I (Z9 (v := (.int .i64 a0)) I I) ?_
   have ⟨hg36, h⟩ := Zi h
   refine Zd 6 I (st_indexV (k := .i64) (v := (.vs 111)) (n := 111) (off := 0) (len := v29.length) (es := (List.map Z8 v29)) (j := a0) (m := a0.toNat) I s29 I I (vecR_map _ _ _) I hg36 (Nat.zero_add _)) ?_
   have ⟨hg37, h⟩ := Zi h
   refine Zd 7 I (st_loadV (l := v29) (enc := Z8) (z := 0) (v := (.int .i64 (v29.getD a0.toNat 0))) I o3 I I hg37 I) <| Zd 8 I (st_cmp (k := .i64) (a := (v28.getD a0.toNat 0)) (b := (v29.getD a0.toNat 0)) (c := ((v28.getD a0.toNat 0) != (v29.getD a0.toNat 0))) I I I I) <| AOpsD.nil (by kernel_rfl) I <| Ze ?_
   have hif := of_if h
   refine Zv I (fun hc => ?_) (fun hc => ?_)
   ·have h := hif.1 hc
    refine AWp.ret <| At.thruR ?_
    have h := Option.some.inj h
    subst h
    refine (hret _ ?_).1
    exact ⟨[], trivial, rfl, ⟨rfl, rfl, rfl, rfl, rfl, rfl, rfl, rfl, rfl, rfl, rfl, rfl, rfl, trivial⟩⟩
   ·have h := hif.2 hc
    refine Zy <| Ze <| Zf <| Z6 <| Z1 I (Zu (cs := [(.vs 108)]) (v := (.vs 108)) I o29 I I I) I <| Z1 I (Z9 (v := (.int .i64 a0)) I I) I ?_
    have ⟨v39, hv39, h⟩ := of_bind h
    refine Z1 I (st_callB (rd := [(108, (.vec 1 (List.map Z8 v27)))]) (ar := [(.vs 108), (.int .i64 a0)]) (caps := []) Try.call50 (F50_ok K v27 a0 v39 hv39) I I ⟨rfl, rfl, trivial⟩ (subS_mem ⟨rfl, trivial⟩) I I I) I <| Z1 I (Zh (v := (.int .i64 v39)) I I) I <| Zb <| Ze <| Zf <| Z6 <| Z1 I (Zu (cs := [(.vs 108)]) (v := (.vs 108)) I o29 I I I) I <| Z1 I (Z9 (v := (.int .i64 v39)) I I) I ?_
    have ⟨hg40, h⟩ := Zi h
    have ⟨hg41, h⟩ := Zi h
    refine Z1 I (stx_sliceVL (v := (.vs 108)) (n := 108) (off := 0) (len := v27.length) (l := v27) (enc := Z8) (kl := .i64) (lo := v39) I s29 I I (vecR_map _ _ _) I hg40 I) I ?_
    have ⟨v43, hv43, h⟩ := of_bind h
    refine Z1 I (st_callBO (enc := Z8) (l := v43) (rd := [(108, (.vec 1 (List.map Z8 v27)))]) (ar := [(.vsub 108 (0 + v39.toNat) ((v27.length : Int).toNat - v39.toNat) false)]) (caps := []) Try.call51 ((F51_ok K ((v27.drop (0 + v39.toNat)).take ((v27.length : Int).toNat - v39.toNat)) v43 hv43).sw 2 94) I I ⟨rfl, trivial⟩ (subS_mem ⟨rfl, trivial⟩) I (lend_sub1 hg41 I) (fun _ => I)) I <| Z1 I (Zh (v := (.vs 94)) I I) I <| Zb <| Ze <| Zf <| Z6 <| Z1 I (Zu (cs := [(.vs 108)]) (v := (.vs 108)) I o29 I I I) I <| Z1 I (Z9 (v := (.int .i64 v39)) I I) I ?_
    have ⟨hg44, h⟩ := Zi h
    have ⟨hg45, h⟩ := Zi h
    refine Z1 I (stx_sliceVH (v := (.vs 108)) (n := 108) (off := 0) (len := v27.length) (l := v27) (enc := Z8) (kh := .i64) (hi := v39) I s29 I I (vecR_map _ _ _) I hg44 I) I ?_
    have ⟨hg46, h⟩ := Zi h
    refine AOps.ghost (st' := ⟨[(4, (.ptr 2003 0)), (5, (.ptr 2004 0)), (8, (.ptr 2007 0)), (13, (.vs 94)), (97, (.vs 108))], [(94, (.vec 1 (List.map Z8 v43))), (106, (.vec 1 (List.map Zg v25))), (107, (.vec 1 (List.map Zo v26))), (108, (.vec 1 (List.map Z8 ((v27.drop (0 + (0 : Int).toNat)).take (v39.toNat - (0 : Int).toNat))))), (110, (.vec 1 (List.map Z8 v28))), (111, (.vec 1 (List.map Z8 v29))), (2000, (.box [(.int .i64 v30)])), (2001, (.box [(.vs 111)])), (2002, (.box [(.vs 110)])), (2003, (.box [.undef])), (2004, (.box [(.vs 107)])), (2005, (.box [(.sl 1 (v31.map Zg) false)])), (2006, (.box [(.clo 49 [(.ptr 2000 0), (.ptr 2001 0), (.ptr 2002 0), (.ptr 2003 0), (.ptr 2004 0), (.ptr 2005 0), (.ptr 2006 0), (.ptr 2007 0)])])), (2007, (.box [(.vs 106)]))]⟩) (fun a w h => (Zp ⟨[(4, (.ptr 2003 0)), (5, (.ptr 2004 0)), (8, (.ptr 2007 0)), (13, (.vs 94)), (97, (.vs 108))], [(94, (.vec 1 (List.map Z8 v43))), (106, (.vec 1 (List.map Zg v25))), (107, (.vec 1 (List.map Zo v26))), (108, (.vec 1 (List.map Z8 ((v27.drop (0 + (0 : Int).toNat)).take (v39.toNat - (0 : Int).toNat))))), (110, (.vec 1 (List.map Z8 v28))), (111, (.vec 1 (List.map Z8 v29))), (2000, (.box [(.int .i64 v30)])), (2001, (.box [(.vs 111)])), (2002, (.box [(.vs 110)])), (2003, (.box [.undef])), (2004, (.box [(.vs 107)])), (2005, (.box [(.sl 1 (v31.map Zg) false)])), (2006, (.box [(.clo 49 [(.ptr 2000 0), (.ptr 2001 0), (.ptr 2002 0), (.ptr 2003 0), (.ptr 2004 0), (.ptr 2005 0), (.ptr 2006 0), (.ptr 2007 0)])])), (2007, (.box [(.vs 106)]))]⟩ (ghost_trunc (k := 97) (m := 108) (sz := 1) (off := (0 + (0 : Int).toNat)) (len := (v39.toNat - (0 : Int).toNat)) (enc := Z8) (l := v27) I hg46 a w (Zp ⟨[(97, (.vsub 108 (0 + (0 : Int).toNat) (v39.toNat - (0 : Int).toNat) false)), (4, (.ptr 2003 0)), (5, (.ptr 2004 0)), (8, (.ptr 2007 0)), (13, (.vs 94))], [(108, (.vec 1 (List.map Z8 v27))), (94, (.vec 1 (List.map Z8 v43))), (106, (.vec 1 (List.map Zg v25))), (107, (.vec 1 (List.map Zo v26))), (110, (.vec 1 (List.map Z8 v28))), (111, (.vec 1 (List.map Z8 v29))), (2000, (.box [(.int .i64 v30)])), (2001, (.box [(.vs 111)])), (2002, (.box [(.vs 110)])), (2003, (.box [(.vs 108)])), (2004, (.box [(.vs 107)])), (2005, (.box [(.sl 1 (v31.map Zg) false)])), (2006, (.box [(.clo 49 [(.ptr 2000 0), (.ptr 2001 0), (.ptr 2002 0), (.ptr 2003 0), (.ptr 2004 0), (.ptr 2005 0), (.ptr 2006 0), (.ptr 2007 0)])])), (2007, (.box [(.vs 106)]))]⟩ h ⟨rfl, rfl, rfl, rfl, rfl, trivial⟩ ⟨rfl, rfl, rfl, rfl, rfl, rfl, rfl, rfl, rfl, rfl, rfl, rfl, rfl, rfl, trivial⟩)) ⟨rfl, rfl, rfl, rfl, rfl, trivial⟩ ⟨rfl, rfl, rfl, rfl, rfl, rfl, rfl, rfl, rfl, rfl, rfl, rfl, rfl, rfl, trivial⟩)) <| Z1 I (st_storeP (cs := [.undef]) (vs := [(.vs 108)]) (ds := [(.vs 108)]) (v := (.vs 108)) sz29 I I I I I I I I) I <| Zb <| Ze <| Zf <| Zf <| Z6 <| Z1 I (Z9 (v := (.vs 94)) I I) I ?_
    refine Z1 I (stx_lenV (l := v43) (enc := Z8) I u29 I I) I <| Z1 I (Z9 (v := (.int .i64 0)) I I) I <| Zb <| Ze <| AWp.ghost (st' := ⟨[(5, (.ptr 2004 0)), (8, (.ptr 2007 0)), (13, (.vs 13)), (98, (.vs 13)), (99, (.int .i64 (v43.length : Int))), (100, (.int .i64 0))], [(13, (.vec 1 (List.map Z8 v43))), (106, (.vec 1 (List.map Zg v25))), (107, (.vec 1 (List.map Zo v26))), (108, (.vec 1 (List.map Z8 ((v27.drop (0 + (0 : Int).toNat)).take (v39.toNat - (0 : Int).toNat))))), (110, (.vec 1 (List.map Z8 v28))), (111, (.vec 1 (List.map Z8 v29))), (2000, (.box [(.int .i64 v30)])), (2001, (.box [(.vs 111)])), (2002, (.box [(.vs 110)])), (2003, (.box [(.vs 108)])), (2004, (.box [(.vs 107)])), (2005, (.box [(.sl 1 (v31.map Zg) false)])), (2006, (.box [(.clo 49 [(.ptr 2000 0), (.ptr 2001 0), (.ptr 2002 0), (.ptr 2003 0), (.ptr 2004 0), (.ptr 2005 0), (.ptr 2006 0), (.ptr 2007 0)])])), (2007, (.box [(.vs 106)]))]⟩) (fun a w h => (Zp ⟨[(5, (.ptr 2004 0)), (8, (.ptr 2007 0)), (13, (.vs 13)), (98, (.vs 13)), (99, (.int .i64 (v43.length : Int))), (100, (.int .i64 0))], [(13, (.vec 1 (List.map Z8 v43))), (106, (.vec 1 (List.map Zg v25))), (107, (.vec 1 (List.map Zo v26))), (108, (.vec 1 (List.map Z8 ((v27.drop (0 + (0 : Int).toNat)).take (v39.toNat - (0 : Int).toNat))))), (110, (.vec 1 (List.map Z8 v28))), (111, (.vec 1 (List.map Z8 v29))), (2000, (.box [(.int .i64 v30)])), (2001, (.box [(.vs 111)])), (2002, (.box [(.vs 110)])), (2003, (.box [(.vs 108)])), (2004, (.box [(.vs 107)])), (2005, (.box [(.sl 1 (v31.map Zg) false)])), (2006, (.box [(.clo 49 [(.ptr 2000 0), (.ptr 2001 0), (.ptr 2002 0), (.ptr 2003 0), (.ptr 2004 0), (.ptr 2005 0), (.ptr 2006 0), (.ptr 2007 0)])])), (2007, (.box [(.vs 106)]))]⟩ (ghost_sw (a := 94) (b := 13) I I a w (Zp ⟨[(5, (.ptr 2004 0)), (8, (.ptr 2007 0)), (13, (.vs 94)), (98, (.vs 94)), (99, (.int .i64 (v43.length : Int))), (100, (.int .i64 0))], [(94, (.vec 1 (List.map Z8 v43))), (106, (.vec 1 (List.map Zg v25))), (107, (.vec 1 (List.map Zo v26))), (108, (.vec 1 (List.map Z8 ((v27.drop (0 + (0 : Int).toNat)).take (v39.toNat - (0 : Int).toNat))))), (110, (.vec 1 (List.map Z8 v28))), (111, (.vec 1 (List.map Z8 v29))), (2000, (.box [(.int .i64 v30)])), (2001, (.box [(.vs 111)])), (2002, (.box [(.vs 110)])), (2003, (.box [(.vs 108)])), (2004, (.box [(.vs 107)])), (2005, (.box [(.sl 1 (v31.map Zg) false)])), (2006, (.box [(.clo 49 [(.ptr 2000 0), (.ptr 2001 0), (.ptr 2002 0), (.ptr 2003 0), (.ptr 2004 0), (.ptr 2005 0), (.ptr 2006 0), (.ptr 2007 0)])])), (2007, (.box [(.vs 106)]))]⟩ h ⟨rfl, rfl, rfl, rfl, rfl, rfl, trivial⟩ ⟨rfl, rfl, rfl, rfl, rfl, rfl, rfl, rfl, rfl, rfl, rfl, rfl, rfl, rfl, trivial⟩)) ⟨rfl, rfl, rfl, rfl, rfl, rfl, trivial⟩ ⟨rfl, rfl, rfl, rfl, rfl, rfl, rfl, rfl, rfl, rfl, rfl, rfl, rfl, rfl, trivial⟩)) <| AWp.weaken (st' := ⟨[(5, (.ptr 2004 0)), (8, (.ptr 2007 0)), (13, (.vs 13)), (98, (.vs 13)), (99, (.int .i64 (v43.length : Int))), (100, (.int .i64 0))], [(13, (.vec 1 (List.map Z8 v43))), (106, (.vec 1 (List.map Zg v25))), (107, (.vec 1 (List.map Zo v26))), (108, (.vec 1 (List.map Z8 ((v27.drop (0 + (0 : Int).toNat)).take (v39.toNat - (0 : Int).toNat))))), (110, (.vec 1 (List.map Z8 v28))), (111, (.vec 1 (List.map Z8 v29))), (2000, (.box [(.int .i64 v30)])), (2001, (.box [(.vs 111)])), (2002, (.box [(.vs 110)])), (2003, (.box [(.vs 108)])), (2004, (.box [(.vs 107)])), (2005, (.box [(.sl 1 (v31.map Zg) false)])), (2006, (.box [(.clo 49 [(.ptr 2000 0), (.ptr 2001 0), (.ptr 2002 0), (.ptr 2003 0), (.ptr 2004 0), (.ptr 2005 0), (.ptr 2006 0), (.ptr 2007 0)])])), (2007, (.box [(.vs 106)]))]⟩) ⟨rfl, rfl, rfl, rfl, rfl, rfl, trivial⟩ ⟨rfl, rfl, rfl, rfl, rfl, rfl, rfl, rfl, rfl, rfl, rfl, rfl, rfl, rfl, trivial⟩ ?_
    refine Zw (V := Int × (List Bool)) (X := (List Bool)) (lp := fun k v => F49_l49 K v43 (F49_c51 K v43 v25 v30 v31 v29 v28 v27 v39) k v.1 v.2 = some r) (sh := fun v => ⟨[(5, (.ptr 2004 0)), (8, (.ptr 2007 0)), (13, (.vs 13)), (98, (.vs 13)), (99, (.int .i64 (v43.length : Int))), (100, (.int .i64 v.1))], [(13, (.vec 1 (List.map Z8 v43))), (106, (.vec 1 (List.map Zg v25))), (107, (.vec 1 (List.map Zo v.2))), (108, (.vec 1 (List.map Z8 ((v27.drop (0 + (0 : Int).toNat)).take (v39.toNat - (0 : Int).toNat))))), (110, (.vec 1 (List.map Z8 v28))), (111, (.vec 1 (List.map Z8 v29))), (2000, (.box [(.int .i64 v30)])), (2001, (.box [(.vs 111)])), (2002, (.box [(.vs 110)])), (2003, (.box [(.vs 108)])), (2004, (.box [(.vs 107)])), (2005, (.box [(.sl 1 (v31.map Zg) false)])), (2006, (.box [(.clo 49 [(.ptr 2000 0), (.ptr 2001 0), (.ptr 2002 0), (.ptr 2003 0), (.ptr 2004 0), (.ptr 2005 0), (.ptr 2006 0), (.ptr 2007 0)])])), (2007, (.box [(.vs 106)]))]⟩) (x := fun v => F49_c51 K v43 v25 v30 v31 v29 v28 v27 v39 v = some r) (shx := fun v => ⟨[(8, (.ptr 2007 0)), (13, (.vs 13))], [(13, (.vec 1 (List.map Z8 v43))), (106, (.vec 1 (List.map Zg v25))), (107, (.vec 1 (List.map Zo v))), (108, (.vec 1 (List.map Z8 ((v27.drop (0 + (0 : Int).toNat)).take (v39.toNat - (0 : Int).toNat))))), (110, (.vec 1 (List.map Z8 v28))), (111, (.vec 1 (List.map Z8 v29))), (2000, (.box [(.int .i64 v30)])), (2001, (.box [(.vs 111)])), (2002, (.box [(.vs 110)])), (2003, (.box [(.vs 108)])), (2004, (.box [(.vs 107)])), (2005, (.box [(.sl 1 (v31.map Zg) false)])), (2006, (.box [(.clo 49 [(.ptr 2000 0), (.ptr 2001 0), (.ptr 2002 0), (.ptr 2003 0), (.ptr 2004 0), (.ptr 2005 0), (.ptr 2006 0), (.ptr 2007 0)])])), (2007, (.box [(.vs 106)]))]⟩) (k := K) (v := (0, v26)) h ?_ ?_
    ·intro v h
     revert h
     revert v
     intro v50 h
     try dsimp only at h ⊢
     unfold F49_c51 at h
     refine Ze <| Zf <| Z6 <| Z1 I (Z9 (v := (.vs 13)) I I) I ?_
     have ⟨v54, hv54, h⟩ := of_bind h
     refine Z1 I (st_call (d := some 109) (c := ⟨[(.vs 13)], [(13, (.vec 1 (List.map Z8 v43)))], .tup [], [(13, .vec 1 (List.map Z8 v54))], []⟩) (ar := [(.vs 13)]) (caps := []) (news := []) (forg := []) Try.call52 (sortI_ok (n := 13) (enc := Z8) (l := v43) sortC52 (fun _ => I) hv54) I I ⟨rfl, trivial⟩ I ⟨rfl, trivial⟩ I) I <| Zb <| Ze <| Z6 <| Z1 I (Zu (cs := [(.vs 106)]) (v := (.vs 106)) I o46 I I I) I <| Z1 I (Z9 (v := (.vs 13)) I I) I <| AOps.ghost (st' := ⟨[(8, (.ptr 2007 0)), (110, (.vs 106)), (111, (.sl 1 (v54.map Z8) false))], [(106, (.vec 1 (List.map Zg v25))), (107, (.vec 1 (List.map Zo v50))), (108, (.vec 1 (List.map Z8 ((v27.drop (0 + (0 : Int).toNat)).take (v39.toNat - (0 : Int).toNat))))), (110, (.vec 1 (List.map Z8 v28))), (111, (.vec 1 (List.map Z8 v29))), (2000, (.box [(.int .i64 v30)])), (2001, (.box [(.vs 111)])), (2002, (.box [(.vs 110)])), (2003, (.box [(.vs 108)])), (2004, (.box [(.vs 107)])), (2005, (.box [(.sl 1 (v31.map Zg) false)])), (2006, (.box [(.clo 49 [(.ptr 2000 0), (.ptr 2001 0), (.ptr 2002 0), (.ptr 2003 0), (.ptr 2004 0), (.ptr 2005 0), (.ptr 2006 0), (.ptr 2007 0)])])), (2007, (.box [(.vs 106)]))]⟩) (fun a w h => (Zp ⟨[(8, (.ptr 2007 0)), (110, (.vs 106)), (111, (.sl 1 (v54.map Z8) false))], [(106, (.vec 1 (List.map Zg v25))), (107, (.vec 1 (List.map Zo v50))), (108, (.vec 1 (List.map Z8 ((v27.drop (0 + (0 : Int).toNat)).take (v39.toNat - (0 : Int).toNat))))), (110, (.vec 1 (List.map Z8 v28))), (111, (.vec 1 (List.map Z8 v29))), (2000, (.box [(.int .i64 v30)])), (2001, (.box [(.vs 111)])), (2002, (.box [(.vs 110)])), (2003, (.box [(.vs 108)])), (2004, (.box [(.vs 107)])), (2005, (.box [(.sl 1 (v31.map Zg) false)])), (2006, (.box [(.clo 49 [(.ptr 2000 0), (.ptr 2001 0), (.ptr 2002 0), (.ptr 2003 0), (.ptr 2004 0), (.ptr 2005 0), (.ptr 2006 0), (.ptr 2007 0)])])), (2007, (.box [(.vs 106)]))]⟩ (ghost_freeze (m := 13) (sz := 1) (es := (List.map Z8 v54)) a w (Zp ⟨[(8, (.ptr 2007 0)), (110, (.vs 106)), (111, (.vs 13))], [(13, (.vec 1 (List.map Z8 v54))), (106, (.vec 1 (List.map Zg v25))), (107, (.vec 1 (List.map Zo v50))), (108, (.vec 1 (List.map Z8 ((v27.drop (0 + (0 : Int).toNat)).take (v39.toNat - (0 : Int).toNat))))), (110, (.vec 1 (List.map Z8 v28))), (111, (.vec 1 (List.map Z8 v29))), (2000, (.box [(.int .i64 v30)])), (2001, (.box [(.vs 111)])), (2002, (.box [(.vs 110)])), (2003, (.box [(.vs 108)])), (2004, (.box [(.vs 107)])), (2005, (.box [(.sl 1 (v31.map Zg) false)])), (2006, (.box [(.clo 49 [(.ptr 2000 0), (.ptr 2001 0), (.ptr 2002 0), (.ptr 2003 0), (.ptr 2004 0), (.ptr 2005 0), (.ptr 2006 0), (.ptr 2007 0)])])), (2007, (.box [(.vs 106)]))]⟩ h ⟨rfl, rfl, rfl, trivial⟩ ⟨rfl, rfl, rfl, rfl, rfl, rfl, rfl, rfl, rfl, rfl, rfl, rfl, rfl, rfl, trivial⟩)) ⟨rfl, rfl, rfl, trivial⟩ ⟨rfl, rfl, rfl, rfl, rfl, rfl, rfl, rfl, rfl, rfl, rfl, rfl, rfl, trivial⟩)) <| Z1 I (stx_buildSlice (vs := [(.sl 1 (v54.map Z8) false)]) (enc := Zg) (l := [v54]) I el46 I I ⟨rfl, trivial⟩ I els_l_i64 I I I I) I ?_
     have ⟨hg55, h⟩ := Zi h
     refine Z1 I (st_append (m := 106) (enc := Zg) (l := v25) (l' := [v54]) (src := (.vs 112)) (rd := [(112, (.vec 1 (List.map Zg [v54])))]) I I el46 I u46 I I I I (oneRead I) els_l_i64 hg55) I <| Z1 I (st_storeP (cs := [.undef]) (vs := [(.vs 106)]) (ds := [(.vs 106)]) (v := (.vs 106)) sz46 I I I I I I I I) I <| Zb ?_
     have h := Option.some.inj h
     subst h
     refine (hret _ ?_).2
     exact ⟨[], trivial, rfl, ⟨rfl, rfl, rfl, rfl, rfl, rfl, rfl, rfl, rfl, rfl, rfl, rfl, rfl, trivial⟩⟩
    ·intro N k49 v h IH49 J49
     obtain ⟨v47, v48⟩ := v
     try dsimp only at h IH49 J49 ⊢
     cases k49 with
     | zero => cases h
     | succ k49 =>
      rw [F49_l49] at h
      refine Zf <| Z6 <| Z1 I (st_cmp (k := .i64) (a := v47) (b := (v43.length : Int)) (c := (decide (v47 < (v43.length : Int)))) I I I I) I <| Zb <| Ze <| Zf ?_
      have hif := of_if h
      refine Zv I (fun hc => ?_) (fun hc => ?_)
      ·have h := hif.1 hc
       refine Zy <| Ze <| Zf <| AWp.block <| Zf <| Z6 ?_
       have ⟨hg57, h⟩ := Zi h
       refine Z1 I (st_indexV (k := .i64) (v := (.vs 13)) (n := 13) (off := 0) (len := v43.length) (es := (List.map Z8 v43)) (j := v47) (m := v47.toNat) I s29 I I (vecR_map _ _ _) I hg57 (Nat.zero_add _)) I ?_
       have ⟨hg58, h⟩ := Zi h
       refine Z1 I (st_loadV (l := v43) (enc := Z8) (z := 0) (v := (.int .i64 (v43.getD v47.toNat 0))) I o3 I I hg58 I) I <| Z1 I (Zh (v := (.int .i64 (v43.getD v47.toNat 0))) I I) I <| Zb <| Ze <| Z6 <| Z1 I (Zu (cs := [(.vs 107)]) (v := (.vs 107)) I o49 I I I) I <| Z1 I (Z9 (v := (.int .i64 (v43.getD v47.toNat 0))) I I) I ?_
       have ⟨hg59, h⟩ := Zi h
       refine Z1 I (st_indexV (k := .i64) (v := (.vs 107)) (n := 107) (off := 0) (len := v48.length) (es := (List.map Zo v48)) (j := (v43.getD v47.toNat 0)) (m := (v43.getD v47.toNat 0).toNat) I s49 I I (vecR_map _ _ _) I hg59 (Nat.zero_add _)) I ?_
       have ⟨hg60, h⟩ := Zi h
       refine Z1 I (st_storeV (l := v48) (enc := Zo) (z := false) (a := false) (v := (.bool false)) sz4 I I hg60 I els_bool I I I I) I <| Zb <| At.end <| Ze <| Z6 <| Z1 I (st_arith (k := .i64) (a := v47) (b := 1) (c := (IntKind.i64.wrap (v47 + 1))) I I I I) I <| Z1 I (Z9 (v := (.int .i64 (IntKind.i64.wrap (v47 + 1)))) I I) I <| Zb ?_
       exact Zl (st' := ⟨[(5, (.ptr 2004 0)), (8, (.ptr 2007 0)), (13, (.vs 13)), (98, (.vs 13)), (99, (.int .i64 (v43.length : Int))), (100, (.int .i64 (IntKind.i64.wrap (v47 + 1))))], [(13, (.vec 1 (List.map Z8 v43))), (106, (.vec 1 (List.map Zg v25))), (107, (.vec 1 (List.map Zo (v48.set (v43.getD v47.toNat 0).toNat false)))), (108, (.vec 1 (List.map Z8 ((v27.drop (0 + (0 : Int).toNat)).take (v39.toNat - (0 : Int).toNat))))), (110, (.vec 1 (List.map Z8 v28))), (111, (.vec 1 (List.map Z8 v29))), (2000, (.box [(.int .i64 v30)])), (2001, (.box [(.vs 111)])), (2002, (.box [(.vs 110)])), (2003, (.box [(.vs 108)])), (2004, (.box [(.vs 107)])), (2005, (.box [(.sl 1 (v31.map Zg) false)])), (2006, (.box [(.clo 49 [(.ptr 2000 0), (.ptr 2001 0), (.ptr 2002 0), (.ptr 2003 0), (.ptr 2004 0), (.ptr 2005 0), (.ptr 2006 0), (.ptr 2007 0)])])), (2007, (.box [(.vs 106)]))]⟩) ⟨rfl, rfl, rfl, rfl, rfl, rfl, trivial⟩ ⟨rfl, rfl, rfl, rfl, rfl, rfl, rfl, rfl, rfl, rfl, rfl, rfl, rfl, rfl, trivial⟩ (IH49 _ ((IntKind.i64.wrap (v47 + 1)), (v48.set (v43.getD v47.toNat 0).toNat false)) (Nat.lt_succ_self _) h)
      ·have h := hif.2 hc
       refine AWp.exit <| At.thru ?_
       exact Zl (st' := ⟨[(8, (.ptr 2007 0)), (13, (.vs 13))], [(13, (.vec 1 (List.map Z8 v43))), (106, (.vec 1 (List.map Zg v25))), (107, (.vec 1 (List.map Zo v48))), (108, (.vec 1 (List.map Z8 ((v27.drop (0 + (0 : Int).toNat)).take (v39.toNat - (0 : Int).toNat))))), (110, (.vec 1 (List.map Z8 v28))), (111, (.vec 1 (List.map Z8 v29))), (2000, (.box [(.int .i64 v30)])), (2001, (.box [(.vs 111)])), (2002, (.box [(.vs 110)])), (2003, (.box [(.vs 108)])), (2004, (.box [(.vs 107)])), (2005, (.box [(.sl 1 (v31.map Zg) false)])), (2006, (.box [(.clo 49 [(.ptr 2000 0), (.ptr 2001 0), (.ptr 2002 0), (.ptr 2003 0), (.ptr 2004 0), (.ptr 2005 0), (.ptr 2006 0), (.ptr 2007 0)])])), (2007, (.box [(.vs 106)]))]⟩) ⟨rfl, rfl, trivial⟩ ⟨rfl, rfl, rfl, rfl, rfl, rfl, rfl, rfl, rfl, rfl, rfl, rfl, rfl, rfl, trivial⟩ (J49 v48 h)
  ·intro N k24 v h IH24 J24
   obtain ⟨v16, v17, v18, v19, v20, v21, v22, v23⟩ := v
   try dsimp only at h IH24 J24 ⊢
   cases k24 with
   | zero => cases h
   | succ k24 =>
    rw [F49_l24] at h
    refine Zf <| Z6 <| Z1 I (st_cmp (k := .i64) (a := v16) (b := ((a2.getD a0.toNat []).length : Int)) (c := (decide (v16 < ((a2.getD a0.toNat []).length : Int)))) I I I I) I <| Zb <| Ze <| Zf ?_
    have hif := of_if h
    refine Zv I (fun hc => ?_) (fun hc => ?_)
    ·have h := hif.1 hc
     refine Zy <| Ze <| Zf <| AWp.block <| Zf <| Z6 ?_
     have ⟨hg62, h⟩ := Zi h
     refine Z1 I (st_index (k := .i64) (l := (a2.getD a0.toNat [])) (enc := Z8) (z := 0) (n := v16) (cs := [(.int .i64 ((a2.getD a0.toNat []).getD v16.toNat 0))]) (full := false) I s29 I I hg62 I) I <| Z1 I (st_loadI (cs := [(.int .i64 ((a2.getD a0.toNat []).getD v16.toNat 0))]) (v := (.int .i64 ((a2.getD a0.toNat []).getD v16.toNat 0))) I o3 I I) I <| Z1 I (Zh (v := (.int .i64 ((a2.getD a0.toNat []).getD v16.toNat 0))) I I) I <| Zb <| Ze <| Zf <| Z6 <| Z1 I (Zu (cs := [(.vs 111)]) (v := (.vs 111)) I o29 I I I) I ?_
     refine Z1 I (Z9 (v := (.int .i64 ((a2.getD a0.toNat []).getD v16.toNat 0))) I I) I ?_
     have ⟨hg63, h⟩ := Zi h
     refine Z1 I (st_indexV (k := .i64) (v := (.vs 111)) (n := 111) (off := 0) (len := v21.length) (es := (List.map Z8 v21)) (j := ((a2.getD a0.toNat []).getD v16.toNat 0)) (m := ((a2.getD a0.toNat []).getD v16.toNat 0).toNat) I s29 I I (vecR_map _ _ _) I hg63 (Nat.zero_add _)) I ?_
     have ⟨hg64, h⟩ := Zi h
     refine Z1 I (st_loadV (l := v21) (enc := Z8) (z := 0) (v := (.int .i64 (v21.getD ((a2.getD a0.toNat []).getD v16.toNat 0).toNat 0))) I o3 I I hg64 I) I <| Z1 I (st_cmp (k := .i64) (a := (v21.getD ((a2.getD a0.toNat []).getD v16.toNat 0).toNat 0)) (b := 0) (c := ((v21.getD ((a2.getD a0.toNat []).getD v16.toNat 0).toNat 0) == 0)) I I I I) I <| Zb <| Ze ?_
     refine AWp.join (V := (List (List Int)) × (List Bool) × (List Int) × (List Int) × (List Int) × Int × (List (List Int))) (lp := fun v => F49_j72 K (F49_l24 K a2 a0 (F49 K) (F49_c32 K a0) k24) v16 v.1 v.2.1 v.2.2.1 v.2.2.2.1 v.2.2.2.2.1 v.2.2.2.2.2.1 v.2.2.2.2.2.2 = some r) (sh := fun v => ⟨[(0, (.int .i64 a0)), (2, (.ptr 2001 0)), (3, (.ptr 2002 0)), (4, (.ptr 2003 0)), (5, (.ptr 2004 0)), (7, (.ptr 2006 0)), (8, (.ptr 2007 0)), (36, (.sl 1 ((a2.getD a0.toNat []).map Z8) false)), (37, (.int .i64 ((a2.getD a0.toNat []).length : Int))), (38, (.int .i64 v16))], [(106, (.vec 1 (List.map Zg v.1))), (107, (.vec 1 (List.map Zo v.2.1))), (108, (.vec 1 (List.map Z8 v.2.2.1))), (110, (.vec 1 (List.map Z8 v.2.2.2.1))), (111, (.vec 1 (List.map Z8 v.2.2.2.2.1))), (2000, (.box [(.int .i64 v.2.2.2.2.2.1)])), (2001, (.box [(.vs 111)])), (2002, (.box [(.vs 110)])), (2003, (.box [(.vs 108)])), (2004, (.box [(.vs 107)])), (2005, (.box [(.sl 1 (v.2.2.2.2.2.2.map Zg) false)])), (2006, (.box [(.clo 49 [(.ptr 2000 0), (.ptr 2001 0), (.ptr 2002 0), (.ptr 2003 0), (.ptr 2004 0), (.ptr 2005 0), (.ptr 2006 0), (.ptr 2007 0)])])), (2007, (.box [(.vs 106)]))]⟩) ?_ ?_
     ·intro v h
      obtain ⟨v65, v66, v67, v68, v69, v70, v71⟩ := v
      try dsimp only at h ⊢
      unfold F49_j72 at h
      refine At.end <| Ze <| Z6 <| Z1 I (st_arith (k := .i64) (a := v16) (b := 1) (c := (IntKind.i64.wrap (v16 + 1))) I I I I) I <| Z1 I (Z9 (v := (.int .i64 (IntKind.i64.wrap (v16 + 1)))) I I) I <| Zb ?_
      exact Zl (st' := ⟨[(0, (.int .i64 a0)), (2, (.ptr 2001 0)), (3, (.ptr 2002 0)), (4, (.ptr 2003 0)), (5, (.ptr 2004 0)), (7, (.ptr 2006 0)), (8, (.ptr 2007 0)), (36, (.sl 1 ((a2.getD a0.toNat []).map Z8) false)), (37, (.int .i64 ((a2.getD a0.toNat []).length : Int))), (38, (.int .i64 (IntKind.i64.wrap (v16 + 1))))], [(106, (.vec 1 (List.map Zg v65))), (107, (.vec 1 (List.map Zo v66))), (108, (.vec 1 (List.map Z8 v67))), (110, (.vec 1 (List.map Z8 v68))), (111, (.vec 1 (List.map Z8 v69))), (2000, (.box [(.int .i64 v70)])), (2001, (.box [(.vs 111)])), (2002, (.box [(.vs 110)])), (2003, (.box [(.vs 108)])), (2004, (.box [(.vs 107)])), (2005, (.box [(.sl 1 (v71.map Zg) false)])), (2006, (.box [(.clo 49 [(.ptr 2000 0), (.ptr 2001 0), (.ptr 2002 0), (.ptr 2003 0), (.ptr 2004 0), (.ptr 2005 0), (.ptr 2006 0), (.ptr 2007 0)])])), (2007, (.box [(.vs 106)]))]⟩) ⟨rfl, rfl, rfl, rfl, rfl, rfl, rfl, rfl, rfl, rfl, trivial⟩ ⟨rfl, rfl, rfl, rfl, rfl, rfl, rfl, rfl, rfl, rfl, rfl, rfl, rfl, trivial⟩ (IH24 _ ((IntKind.i64.wrap (v16 + 1)), v65, v66, v67, v68, v69, v70, v71) (Nat.lt_succ_self _) h)
     ·intro J72
      have hif := of_if h
      refine Zv I (fun hc => ?_) (fun hc => ?_)
      ·have h := hif.1 hc
       refine Zf <| Z6 <| Z1 I (Zu (cs := [(.clo 49 [(.ptr 2000 0), (.ptr 2001 0), (.ptr 2002 0), (.ptr 2003 0), (.ptr 2004 0), (.ptr 2005 0), (.ptr 2006 0), (.ptr 2007 0)])]) (v := (.clo 49 [(.ptr 2000 0), (.ptr 2001 0), (.ptr 2002 0), (.ptr 2003 0), (.ptr 2004 0), (.ptr 2005 0), (.ptr 2006 0), (.ptr 2007 0)])) I o74 I I I) I <| Z1 I (Z9 (v := (.int .i64 ((a2.getD a0.toNat []).getD v16.toNat 0))) I I) I ?_
       have ⟨v74, hv74, h⟩ := of_bind h
       refine Z1 I (st_call (d := some 49) (c := ⟨[(.int .i64 ((a2.getD a0.toNat []).getD v16.toNat 0))] ++ [(.ptr 2000 0), (.ptr 2001 0), (.ptr 2002 0), (.ptr 2003 0), (.ptr 2004 0), (.ptr 2005 0), (.ptr 2006 0), (.ptr 2007 0)], [(2000, (.box [(.int .i64 v22)])), (2001, (.box [(.vs 111)])), (2002, (.box [(.vs 110)])), (2003, (.box [(.vs 108)])), (2004, (.box [(.vs 107)])), (2005, (.box [(.sl 1 (v23.map Zg) false)])), (2006, (.box [(.clo 49 [(.ptr 2000 0), (.ptr 2001 0), (.ptr 2002 0), (.ptr 2003 0), (.ptr 2004 0), (.ptr 2005 0), (.ptr 2006 0), (.ptr 2007 0)])])), (2007, (.box [(.vs 106)])), (111, (.vec 1 (List.map Z8 v21))), (110, (.vec 1 (List.map Z8 v20))), (108, (.vec 1 (List.map Z8 v19))), (107, (.vec 1 (List.map Zo v18))), (106, (.vec 1 (List.map Zg v17)))], (.tup []), [(2000, (.box [(.int .i64 v74.1)])), (2001, (.box [(.vs 111)])), (2002, (.box [(.vs 110)])), (2003, (.box [(.vs 108)])), (2004, (.box [(.vs 107)])), (2005, (.box [(.sl 1 (v74.2.1.map Zg) false)])), (2006, (.box [(.clo 49 [(.ptr 2000 0), (.ptr 2001 0), (.ptr 2002 0), (.ptr 2003 0), (.ptr 2004 0), (.ptr 2005 0), (.ptr 2006 0), (.ptr 2007 0)])])), (2007, (.box [(.vs 106)])), (111, (.vec 1 (List.map Z8 v74.2.2.1))), (110, (.vec 1 (List.map Z8 v74.2.2.2.1))), (108, (.vec 1 (List.map Z8 v74.2.2.2.2.1))), (107, (.vec 1 (List.map Zo v74.2.2.2.2.2.1))), (106, (.vec 1 (List.map Zg v74.2.2.2.2.2.2)))], [111, 110, 108, 107, 106]⟩) (ar := [(.int .i64 ((a2.getD a0.toNat []).getD v16.toNat 0))]) (caps := [(.ptr 2000 0), (.ptr 2001 0), (.ptr 2002 0), (.ptr 2003 0), (.ptr 2004 0), (.ptr 2005 0), (.ptr 2006 0), (.ptr 2007 0)]) (news := []) (forg := [111, 110, 108, 107, 106]) Try.call49 (IH ((a2.getD a0.toNat []).getD v16.toNat 0) v22 v23 v21 v20 v19 v18 v17 v74 hv74) I I ⟨rfl, trivial⟩ I ⟨rfl, rfl, rfl, rfl, rfl, rfl, rfl, rfl, rfl, rfl, rfl, rfl, rfl, trivial⟩ I) I <| Zb <| Ze <| AWp.regionD mixed <| Zd 0 I (st_loadPC (cs := [(.vs 110)]) (v := (.vs 110)) I o29 I I I) <| Zd 1 I (Z9 (v := (.int .i64 a0)) I I) <| Zd 2 I (st_loadPC (cs := [(.vs 110)]) (v := (.vs 110)) I o29 I I I) <| Zd 3 I (Z9 (v := (.int .i64 a0)) I I) ?_
       have ⟨hg75, h⟩ := Zi h
       refine Zd 4 I (st_indexV (k := .i64) (v := (.vs 110)) (n := 110) (off := 0) (len := v74.2.2.2.1.length) (es := (List.map Z8 v74.2.2.2.1)) (j := a0) (m := a0.toNat) I s29 I I (vecR_map _ _ _) I hg75 (Nat.zero_add _)) ?_
       have ⟨hg76, h⟩ := Zi h
       refine Zd 5 I (st_loadV (l := v74.2.2.2.1) (enc := Z8) (z := 0) (v := (.int .i64 (v74.2.2.2.1.getD a0.toNat 0))) I o3 I I hg76 I) <| Zd 6 I (st_loadPC (cs := [(.vs 110)]) (v := (.vs 110)) I o29 I I I) <| Zd 7 I (Z9 (v := (.int .i64 ((a2.getD a0.toNat []).getD v16.toNat 0))) I I) ?_
       have ⟨hg77, h⟩ := Zi h
       refine Zd 8 I (st_indexV (k := .i64) (v := (.vs 110)) (n := 110) (off := 0) (len := v74.2.2.2.1.length) (es := (List.map Z8 v74.2.2.2.1)) (j := ((a2.getD a0.toNat []).getD v16.toNat 0)) (m := ((a2.getD a0.toNat []).getD v16.toNat 0).toNat) I s29 I I (vecR_map _ _ _) I hg77 (Nat.zero_add _)) ?_
       have ⟨hg78, h⟩ := Zi h
       refine Zd 9 I (st_loadV (l := v74.2.2.2.1) (enc := Z8) (z := 0) (v := (.int .i64 (v74.2.2.2.1.getD ((a2.getD a0.toNat []).getD v16.toNat 0).toNat 0))) I o3 I I hg78 I) <| Zd 10 I (st_min (k := .i64) (a := (v74.2.2.2.1.getD a0.toNat 0)) (b := (v74.2.2.2.1.getD ((a2.getD a0.toNat []).getD v16.toNat 0).toNat 0)) I I I) ?_
       have ⟨hg79, h⟩ := Zi h
       refine Zd 11 I (st_indexV (k := .i64) (v := (.vs 110)) (n := 110) (off := 0) (len := v74.2.2.2.1.length) (es := (List.map Z8 v74.2.2.2.1)) (j := a0) (m := a0.toNat) I s29 I I (vecR_map _ _ _) I hg79 (Nat.zero_add _)) ?_
       have ⟨hg80, h⟩ := Zi h
       refine Zd 12 I (st_storeV (l := v74.2.2.2.1) (enc := Z8) (z := 0) (a := (if (v74.2.2.2.1.getD ((a2.getD a0.toNat []).getD v16.toNat 0).toNat 0) < (v74.2.2.2.1.getD a0.toNat 0) then (v74.2.2.2.1.getD ((a2.getD a0.toNat []).getD v16.toNat 0).toNat 0) else (v74.2.2.2.1.getD a0.toNat 0))) (v := (.int .i64 (if (v74.2.2.2.1.getD ((a2.getD a0.toNat []).getD v16.toNat 0).toNat 0) < (v74.2.2.2.1.getD a0.toNat 0) then (v74.2.2.2.1.getD ((a2.getD a0.toNat []).getD v16.toNat 0).toNat 0) else (v74.2.2.2.1.getD a0.toNat 0)))) sz3 I I hg80 I els_i64 I I I I) <| AOpsD.nil (by kernel_rfl) I ?_
       exact Zl (st' := ⟨[(0, (.int .i64 a0)), (2, (.ptr 2001 0)), (3, (.ptr 2002 0)), (4, (.ptr 2003 0)), (5, (.ptr 2004 0)), (7, (.ptr 2006 0)), (8, (.ptr 2007 0)), (36, (.sl 1 ((a2.getD a0.toNat []).map Z8) false)), (37, (.int .i64 ((a2.getD a0.toNat []).length : Int))), (38, (.int .i64 v16))], [(106, (.vec 1 (List.map Zg v74.2.2.2.2.2.2))), (107, (.vec 1 (List.map Zo v74.2.2.2.2.2.1))), (108, (.vec 1 (List.map Z8 v74.2.2.2.2.1))), (110, (.vec 1 (List.map Z8 (v74.2.2.2.1.set a0.toNat (if (v74.2.2.2.1.getD ((a2.getD a0.toNat []).getD v16.toNat 0).toNat 0) < (v74.2.2.2.1.getD a0.toNat 0) then (v74.2.2.2.1.getD ((a2.getD a0.toNat []).getD v16.toNat 0).toNat 0) else (v74.2.2.2.1.getD a0.toNat 0)))))), (111, (.vec 1 (List.map Z8 v74.2.2.1))), (2000, (.box [(.int .i64 v74.1)])), (2001, (.box [(.vs 111)])), (2002, (.box [(.vs 110)])), (2003, (.box [(.vs 108)])), (2004, (.box [(.vs 107)])), (2005, (.box [(.sl 1 (v74.2.1.map Zg) false)])), (2006, (.box [(.clo 49 [(.ptr 2000 0), (.ptr 2001 0), (.ptr 2002 0), (.ptr 2003 0), (.ptr 2004 0), (.ptr 2005 0), (.ptr 2006 0), (.ptr 2007 0)])])), (2007, (.box [(.vs 106)]))]⟩) ⟨rfl, rfl, rfl, rfl, rfl, rfl, rfl, rfl, rfl, rfl, trivial⟩ ⟨rfl, rfl, rfl, rfl, rfl, rfl, rfl, rfl, rfl, rfl, rfl, rfl, rfl, trivial⟩ (J72 (v74.2.2.2.2.2.2, v74.2.2.2.2.2.1, v74.2.2.2.2.1, (v74.2.2.2.1.set a0.toNat (if (v74.2.2.2.1.getD ((a2.getD a0.toNat []).getD v16.toNat 0).toNat 0) < (v74.2.2.2.1.getD a0.toNat 0) then (v74.2.2.2.1.getD ((a2.getD a0.toNat []).getD v16.toNat 0).toNat 0) else (v74.2.2.2.1.getD a0.toNat 0))), v74.2.2.1, v74.1, v74.2.1) h)
      ·have h := hif.2 hc
       refine Zf <| Z6 <| Z1 I (Zu (cs := [(.vs 107)]) (v := (.vs 107)) I o49 I I I) I <| Z1 I (Z9 (v := (.int .i64 ((a2.getD a0.toNat []).getD v16.toNat 0))) I I) I ?_
       have ⟨hg81, h⟩ := Zi h
       refine Z1 I (st_indexV (k := .i64) (v := (.vs 107)) (n := 107) (off := 0) (len := v18.length) (es := (List.map Zo v18)) (j := ((a2.getD a0.toNat []).getD v16.toNat 0)) (m := ((a2.getD a0.toNat []).getD v16.toNat 0).toNat) I s49 I I (vecR_map _ _ _) I hg81 (Nat.zero_add _)) I ?_
       have ⟨hg82, h⟩ := Zi h
       refine Z1 I (st_loadV (l := v18) (enc := Zo) (z := false) (v := (.bool (v18.getD ((a2.getD a0.toNat []).getD v16.toNat 0).toNat false))) I o4 I I hg82 I) I <| Zb <| Ze ?_
       have hif := of_if h
       refine Zv I (fun hc => ?_) (fun hc => ?_)
       ·have h := hif.1 hc
        refine AWp.regionD mixed <| Zd 0 I (st_loadPC (cs := [(.vs 110)]) (v := (.vs 110)) I o29 I I I) <| Zd 1 I (Z9 (v := (.int .i64 a0)) I I) <| Zd 2 I (st_loadPC (cs := [(.vs 110)]) (v := (.vs 110)) I o29 I I I) <| Zd 3 I (Z9 (v := (.int .i64 a0)) I I) ?_
        have ⟨hg83, h⟩ := Zi h
        refine Zd 4 I (st_indexV (k := .i64) (v := (.vs 110)) (n := 110) (off := 0) (len := v20.length) (es := (List.map Z8 v20)) (j := a0) (m := a0.toNat) I s29 I I (vecR_map _ _ _) I hg83 (Nat.zero_add _)) ?_
        have ⟨hg84, h⟩ := Zi h
        refine Zd 5 I (st_loadV (l := v20) (enc := Z8) (z := 0) (v := (.int .i64 (v20.getD a0.toNat 0))) I o3 I I hg84 I) <| Zd 6 I (st_loadPC (cs := [(.vs 111)]) (v := (.vs 111)) I o29 I I I) <| Zd 7 I (Z9 (v := (.int .i64 ((a2.getD a0.toNat []).getD v16.toNat 0))) I I) ?_
        have ⟨hg85, h⟩ := Zi h
        refine Zd 8 I (st_indexV (k := .i64) (v := (.vs 111)) (n := 111) (off := 0) (len := v21.length) (es := (List.map Z8 v21)) (j := ((a2.getD a0.toNat []).getD v16.toNat 0)) (m := ((a2.getD a0.toNat []).getD v16.toNat 0).toNat) I s29 I I (vecR_map _ _ _) I hg85 (Nat.zero_add _)) ?_
        have ⟨hg86, h⟩ := Zi h
        refine Zd 9 I (st_loadV (l := v21) (enc := Z8) (z := 0) (v := (.int .i64 (v21.getD ((a2.getD a0.toNat []).getD v16.toNat 0).toNat 0))) I o3 I I hg86 I) <| Zd 10 I (st_min (k := .i64) (a := (v20.getD a0.toNat 0)) (b := (v21.getD ((a2.getD a0.toNat []).getD v16.toNat 0).toNat 0)) I I I) ?_
        have ⟨hg87, h⟩ := Zi h
        refine Zd 11 I (st_indexV (k := .i64) (v := (.vs 110)) (n := 110) (off := 0) (len := v20.length) (es := (List.map Z8 v20)) (j := a0) (m := a0.toNat) I s29 I I (vecR_map _ _ _) I hg87 (Nat.zero_add _)) ?_
        have ⟨hg88, h⟩ := Zi h
        refine Zd 12 I (st_storeV (l := v20) (enc := Z8) (z := 0) (a := (if (v21.getD ((a2.getD a0.toNat []).getD v16.toNat 0).toNat 0) < (v20.getD a0.toNat 0) then (v21.getD ((a2.getD a0.toNat []).getD v16.toNat 0).toNat 0) else (v20.getD a0.toNat 0))) (v := (.int .i64 (if (v21.getD ((a2.getD a0.toNat []).getD v16.toNat 0).toNat 0) < (v20.getD a0.toNat 0) then (v21.getD ((a2.getD a0.toNat []).getD v16.toNat 0).toNat 0) else (v20.getD a0.toNat 0)))) sz3 I I hg88 I els_i64 I I I I) <| AOpsD.nil (by kernel_rfl) I ?_
        exact Zl (st' := ⟨[(0, (.int .i64 a0)), (2, (.ptr 2001 0)), (3, (.ptr 2002 0)), (4, (.ptr 2003 0)), (5, (.ptr 2004 0)), (7, (.ptr 2006 0)), (8, (.ptr 2007 0)), (36, (.sl 1 ((a2.getD a0.toNat []).map Z8) false)), (37, (.int .i64 ((a2.getD a0.toNat []).length : Int))), (38, (.int .i64 v16))], [(106, (.vec 1 (List.map Zg v17))), (107, (.vec 1 (List.map Zo v18))), (108, (.vec 1 (List.map Z8 v19))), (110, (.vec 1 (List.map Z8 (v20.set a0.toNat (if (v21.getD ((a2.getD a0.toNat []).getD v16.toNat 0).toNat 0) < (v20.getD a0.toNat 0) then (v21.getD ((a2.getD a0.toNat []).getD v16.toNat 0).toNat 0) else (v20.getD a0.toNat 0)))))), (111, (.vec 1 (List.map Z8 v21))), (2000, (.box [(.int .i64 v22)])), (2001, (.box [(.vs 111)])), (2002, (.box [(.vs 110)])), (2003, (.box [(.vs 108)])), (2004, (.box [(.vs 107)])), (2005, (.box [(.sl 1 (v23.map Zg) false)])), (2006, (.box [(.clo 49 [(.ptr 2000 0), (.ptr 2001 0), (.ptr 2002 0), (.ptr 2003 0), (.ptr 2004 0), (.ptr 2005 0), (.ptr 2006 0), (.ptr 2007 0)])])), (2007, (.box [(.vs 106)]))]⟩) ⟨rfl, rfl, rfl, rfl, rfl, rfl, rfl, rfl, rfl, rfl, trivial⟩ ⟨rfl, rfl, rfl, rfl, rfl, rfl, rfl, rfl, rfl, rfl, rfl, rfl, rfl, trivial⟩ (J72 (v17, v18, v19, (v20.set a0.toNat (if (v21.getD ((a2.getD a0.toNat []).getD v16.toNat 0).toNat 0) < (v20.getD a0.toNat 0) then (v21.getD ((a2.getD a0.toNat []).getD v16.toNat 0).toNat 0) else (v20.getD a0.toNat 0))), v21, v22, v23) h)
       ·have h := hif.2 hc
        refine Zy ?_
        exact Zl (st' := ⟨[(0, (.int .i64 a0)), (2, (.ptr 2001 0)), (3, (.ptr 2002 0)), (4, (.ptr 2003 0)), (5, (.ptr 2004 0)), (7, (.ptr 2006 0)), (8, (.ptr 2007 0)), (36, (.sl 1 ((a2.getD a0.toNat []).map Z8) false)), (37, (.int .i64 ((a2.getD a0.toNat []).length : Int))), (38, (.int .i64 v16))], [(106, (.vec 1 (List.map Zg v17))), (107, (.vec 1 (List.map Zo v18))), (108, (.vec 1 (List.map Z8 v19))), (110, (.vec 1 (List.map Z8 v20))), (111, (.vec 1 (List.map Z8 v21))), (2000, (.box [(.int .i64 v22)])), (2001, (.box [(.vs 111)])), (2002, (.box [(.vs 110)])), (2003, (.box [(.vs 108)])), (2004, (.box [(.vs 107)])), (2005, (.box [(.sl 1 (v23.map Zg) false)])), (2006, (.box [(.clo 49 [(.ptr 2000 0), (.ptr 2001 0), (.ptr 2002 0), (.ptr 2003 0), (.ptr 2004 0), (.ptr 2005 0), (.ptr 2006 0), (.ptr 2007 0)])])), (2007, (.box [(.vs 106)]))]⟩) ⟨rfl, rfl, rfl, rfl, rfl, rfl, rfl, rfl, rfl, rfl, trivial⟩ ⟨rfl, rfl, rfl, rfl, rfl, rfl, rfl, rfl, rfl, rfl, rfl, rfl, rfl, trivial⟩ (J72 (v17, v18, v19, v20, v21, v22, v23) h)
    ·have h := hif.2 hc
     refine AWp.exit <| At.thru ?_
     exact Zl (st' := ⟨[(0, (.int .i64 a0)), (2, (.ptr 2001 0)), (3, (.ptr 2002 0)), (4, (.ptr 2003 0)), (5, (.ptr 2004 0)), (8, (.ptr 2007 0))], [(106, (.vec 1 (List.map Zg v17))), (107, (.vec 1 (List.map Zo v18))), (108, (.vec 1 (List.map Z8 v19))), (110, (.vec 1 (List.map Z8 v20))), (111, (.vec 1 (List.map Z8 v21))), (2000, (.box [(.int .i64 v22)])), (2001, (.box [(.vs 111)])), (2002, (.box [(.vs 110)])), (2003, (.box [(.vs 108)])), (2004, (.box [(.vs 107)])), (2005, (.box [(.sl 1 (v23.map Zg) false)])), (2006, (.box [(.clo 49 [(.ptr 2000 0), (.ptr 2001 0), (.ptr 2002 0), (.ptr 2003 0), (.ptr 2004 0), (.ptr 2005 0), (.ptr 2006 0), (.ptr 2007 0)])])), (2007, (.box [(.vs 106)]))]⟩) ⟨rfl, rfl, rfl, rfl, rfl, rfl, trivial⟩ ⟨rfl, rfl, rfl, rfl, rfl, rfl, rfl, rfl, rfl, rfl, rfl, rfl, rfl, trivial⟩ (J24 (v17, v18, v19, v20, v21, v22, v23) h)
def F54 (K : Nat) (a0 : (List Int)) (a1 : (List Int)) : Option (Int) :=
 if (0 : Int) ≤ 0 ∧ (0 : Int) < a0.length then
  if (0 : Int) ≤ 0 ∧ (0 : Int) < a1.length then
   some (IntKind.i64.wrap ((a0.getD (0 : Int).toNat 0) - (a1.getD (0 : Int).toNat 0)))
  else none
 else none
theorem F54_ok (K : Nat) (a0 : (List Int)) (a1 : (List Int)) (r : Int) (h : F54 K a0 a1 = some r) : ACall P 54 ⟨[(.sl 1 (a0.map Z8) false), (.sl 1 (a1.map Z8) false)], [], (.int .i64 r), [], []⟩ := by
 refine acall_of Try.func54 Try.results54 rfl Try.ntmps54 rfl rfl rfl ?_
 intro E Q hP hN hro hret
 obtain ⟨P', nt', w0, F0, p0, S0, β0, ro0⟩ := E
 simp only at hP hN
 subst hP hN
 dsimp only [argT]
 unfold F54 at h
 refine Zf <| Z6 <| Z1 I (Zh (v := (.int .i64 0)) I I) I <| Zb <| Ze <| Zf <| AWp.regionD mixed <| Zd 0 I (Z9 (v := (.sl 1 (a0.map Z8) false)) I I) ?_
 have ⟨hg1, h⟩ := Zi h
 refine Zd 1 I (st_index (k := .i64) (l := a0) (enc := Z8) (z := 0) (n := 0) (cs := [(.int .i64 (a0.getD (0 : Int).toNat 0))]) (full := false) I s29 I I hg1 I) <| Zd 2 I (st_loadI (cs := [(.int .i64 (a0.getD (0 : Int).toNat 0))]) (v := (.int .i64 (a0.getD (0 : Int).toNat 0))) I o3 I I) <| Zd 3 I (Z9 (v := (.sl 1 (a1.map Z8) false)) I I) ?_
 have ⟨hg2, h⟩ := Zi h
 refine Zd 4 I (st_index (k := .i64) (l := a1) (enc := Z8) (z := 0) (n := 0) (cs := [(.int .i64 (a1.getD (0 : Int).toNat 0))]) (full := false) I s29 I I hg2 I) <| Zd 5 I (st_loadI (cs := [(.int .i64 (a1.getD (0 : Int).toNat 0))]) (v := (.int .i64 (a1.getD (0 : Int).toNat 0))) I o3 I I) <| Zd 6 I (st_arith (k := .i64) (a := (a0.getD (0 : Int).toNat 0)) (b := (a1.getD (0 : Int).toNat 0)) (c := (IntKind.i64.wrap ((a0.getD (0 : Int).toNat 0) - (a1.getD (0 : Int).toNat 0)))) I I I I) <| Zd 7 I (Zh (v := (.int .i64 (IntKind.i64.wrap ((a0.getD (0 : Int).toNat 0) - (a1.getD (0 : Int).toNat 0))))) I I) <| AOpsD.nil (by kernel_rfl) I <| Ze <| AWp.ret ?_
 have h := Option.some.inj h
 subst h
 refine (hret _ ?_).1
 exact ⟨[(.int .i64 (IntKind.i64.wrap ((a0.getD (0 : Int).toNat 0) - (a1.getD (0 : Int).toNat 0))))], ⟨rfl, trivial⟩, rfl, trivial⟩
def F24_c16 (K : Nat) (v15 : (List (List Int))) : Option ((List (List Int))) :=
 (sortF (fun a b => F54 K a b) v15).bind fun v19 =>
  some v19
def F24_j30 (K : Nat) (b20 : Int → (List Int) → (List (List Int)) → (List (List Int)) → Int → (List Int) → (List Bool) → (List Int) → Option ((List (List Int)))) (v6 : Int) (v23 : (List Int)) (v24 : (List (List Int))) (v25 : (List (List Int))) (v26 : Int) (v27 : (List Int)) (v28 : (List Bool)) (v29 : (List Int)) : Option ((List (List Int))) :=
 b20 (IntKind.i64.wrap (v6 + 1)) v23 v24 v25 v26 v27 v28 v29
def F24_l14 (K : Nat) (a0 : Za) (c17 : (List (List Int)) → Option ((List (List Int)))) : Nat → Int → (List Int) → (List (List Int)) → (List (List Int)) → Int → (List Int) → (List Bool) → (List Int) → Option ((List (List Int)))
 | 0, _, _, _, _, _, _, _, _ => none
 | k14 + 1, v6, v7, v8, v9, v10, v11, v12, v13 =>
  if (decide (v6 < a0.Count)) = true then
   if (0 : Int) ≤ v6 ∧ v6 < (v7.length : Nat) then
    if v6.toNat < v7.length then
     if ((v7.getD v6.toNat 0) == 0) = true then
      (F49 K v6 v10 v9 v7 v11 v13 v12 v8).bind fun v32 =>
       F24_j30 K (F24_l14 K a0 c17 k14) v6 v32.2.2.1 v32.2.2.2.2.2.2 v32.2.1 v32.1 v32.2.2.2.1 v32.2.2.2.2.2.1 v32.2.2.2.2.1
     else
      F24_j30 K (F24_l14 K a0 c17 k14) v6 v7 v8 v9 v10 v11 v12 v13
    else none
   else none
  else
   c17 v8
def F24 (K : Nat) (a0 : Za) : Option ((List (List Int))) :=
 (F47 K a0).bind fun v2 =>
  if (0 : Int) ≤ a0.Count ∧ a0.Count ≤ a0.Count ∧ a0.Count ≤ 1073741824 then
   if (0 : Int) ≤ a0.Count ∧ a0.Count ≤ a0.Count ∧ a0.Count ≤ 1073741824 then
    if (0 : Int) ≤ a0.Count ∧ a0.Count ≤ a0.Count ∧ a0.Count ≤ 1073741824 then
     F24_l14 K a0 (F24_c16 K) K 0 (List.replicate a0.Count.toNat (0 : Int)) [] v2 0 (List.replicate a0.Count.toNat (0 : Int)) (List.replicate a0.Count.toNat (false : Bool)) []
    else none
   else none
  else none
theorem F24_ok (K : Nat) (a0 : Za) (r : (List (List Int))) (h : F24 K a0 = some r) : ACall P 24 ⟨[(Z4 a0)], [], (.sl 1 (r.map Zg) false), [], []⟩ := by
 refine acall_of Try.func24 Try.results24 rfl Try.ntmps24 rfl rfl rfl ?_
 intro E Q hP hN hro hret
 obtain ⟨P', nt', w0, F0, p0, S0, β0, ro0⟩ := E
 simp only at hP hN
 subst hP hN
 dsimp only [argT]
 unfold F24 at h
 refine Zf <| Z6 <| Z1 I (st_box (v := (Z4 a0)) (cs := (Z4 a0).cells) I I I I I) I <| Z1 I (Zh (v := (.sl 1 [] false)) I I) I <| Zb <| Ze <| Zf <| Z6 ?_
 refine Z1 I (st_loadPA (cs := (Z4 a0).cells) (vs := (Z4 a0).cells) I a35 I I I I) I ?_
 have ⟨v2, hv2, h⟩ := of_bind h
 refine Z1 I (st_call0 (ar := [(Z4 a0)]) (caps := []) Try.call47 (F47_ok K a0 v2 hv2) I I ⟨rfl, trivial⟩ I) I <| Z1 I (st_alloc (cs := [(.sl 1 [] true)]) I z46f I I I) I <| Z1 I (st_storeP (cs := [(.sl 1 [] true)]) (vs := [(.sl 1 (v2.map Zg) false)]) (ds := [(.sl 1 (v2.map Zg) false)]) (v := (.sl 1 (v2.map Zg) false)) sz46 I I I I I I I I) I <| Zb <| Ze <| Zf <| AWp.regionD mixed <| Zd 0 I (Z10 (m := 1) (o := 0) I f35_0 I I) ?_
 refine Zd 1 I (Zu (cs := (Z4 a0).cells) (v := (.int .i64 a0.Count)) I o3 I I I) ?_
 have ⟨hg3, h⟩ := Zi h
 refine Zd 2 I (st_makeSlice (kx := .i64) (ky := .i64) (a := a0.Count) (c := a0.Count) (n := a0.Count.toNat) I el29 I ze3 els_i64 I I I hg3 I) <| Zd 3 I (Z10 (m := 1) (o := 0) I f35_0 I I) <| Zd 4 I (Zu (cs := (Z4 a0).cells) (v := (.int .i64 a0.Count)) I o3 I I I) ?_
 have ⟨hg4, h⟩ := Zi h
 refine Zd 5 I (st_makeSlice (kx := .i64) (ky := .i64) (a := a0.Count) (c := a0.Count) (n := a0.Count.toNat) I el29 I ze3 els_i64 I I I hg4 I) <| Zd 6 I (st_alloc (cs := [(.sl 1 [] true)]) I z29f I I I) <| Zd 7 I (st_alloc (cs := [(.sl 1 [] true)]) I z29f I I I) <| Zd 8 I (st_storeP (cs := [(.sl 1 [] true)]) (vs := [(.vs 16)]) (ds := [(.vs 16)]) (v := (.vs 16)) sz29 I I I I I I I I) <| Zd 9 I (st_storeP (cs := [(.sl 1 [] true)]) (vs := [(.vs 19)]) (ds := [(.vs 19)]) (v := (.vs 19)) sz29 I I I I I I I I) <| AOpsD.nil (by kernel_rfl) I <| Ze <| Zf ?_
 refine Z6 <| Z1 I (Z10 (m := 1) (o := 0) I f35_0 I I) I <| Z1 I (Zu (cs := (Z4 a0).cells) (v := (.int .i64 a0.Count)) I o3 I I I) I ?_
 have ⟨hg5, h⟩ := Zi h
 refine Z1 I (st_makeSlice (kx := .i64) (ky := .i64) (a := a0.Count) (c := a0.Count) (n := a0.Count.toNat) I el49 I ze4 els_bool I I I hg5 I) I <| Z1 I (st_alloc (cs := [(.sl 1 [] true)]) I z49f I I I) I <| Z1 I (st_storeP (cs := [(.sl 1 [] true)]) (vs := [(.vs 22)]) (ds := [(.vs 22)]) (v := (.vs 22)) sz49 I I I I I I I I) I <| Zb <| Ze <| Zf <| Z6 <| Z1 I (st_alloc (cs := [(.sl 1 [] true)]) I z29f I I I) I ?_
 refine Zb <| Ze <| Zf <| Z6 <| Z1 I (st_alloc (cs := [(.sl 1 [] true)]) I z46f I I I) I <| Zb <| Ze <| Zf ?_
 refine Z6 <| Z1 I (st_alloc (cs := [(.int .i64 0)]) I z3 I I I) I <| Z1 I (st_storeP (cs := [(.int .i64 0)]) (vs := [(.int .i64 0)]) (ds := [(.int .i64 0)]) (v := (.int .i64 0)) sz3 I I I I I I I I) I <| Zb <| Ze <| Zf <| Z6 <| Z1 I (st_alloc (cs := [.nilf]) I z74 I I I) I ?_
 refine Zb <| Ze <| Zf <| Z6 <| Z1 I (stx_makeFunc (vs := [(.ptr 9 0), (.ptr 4 0), (.ptr 5 0), (.ptr 7 0), (.ptr 6 0), (.ptr 3 0), (.ptr 10 0), (.ptr 8 0)]) I ⟨rfl, rfl, rfl, rfl, rfl, rfl, rfl, rfl, trivial⟩) I <| Z1 I (st_storeP (cs := [.nilf]) (vs := [(.clo 49 [(.ptr 9 0), (.ptr 4 0), (.ptr 5 0), (.ptr 7 0), (.ptr 6 0), (.ptr 3 0), (.ptr 10 0), (.ptr 8 0)])]) (ds := [(.clo 49 [(.ptr 9 0), (.ptr 4 0), (.ptr 5 0), (.ptr 7 0), (.ptr 6 0), (.ptr 3 0), (.ptr 10 0), (.ptr 8 0)])]) (v := (.clo 49 [(.ptr 9 0), (.ptr 4 0), (.ptr 5 0), (.ptr 7 0), (.ptr 6 0), (.ptr 3 0), (.ptr 10 0), (.ptr 8 0)])) sz74 I I I I I I I I) I <| Zb <| Ze ?_
 refine Zf <| Zf <| Z6 <| Z1 I (Z10 (m := 1) (o := 0) I f35_0 I I) I <| Z1 I (Zu (cs := (Z4 a0).cells) (v := (.int .i64 a0.Count)) I o3 I I I) I <| Z1 I (Z9 (v := (.int .i64 0)) I I) I <| Zb <| Ze ?_
 refine AWp.ghost (st' := ⟨[(4, (.ptr 4 0)), (8, (.ptr 8 0)), (10, (.ptr 10 0)), (25, (.int .i64 a0.Count)), (26, (.int .i64 0))], [(3, (.box [(.sl 1 (v2.map Zg) false)])), (4, (.box [(.vs 40)])), (5, (.box [(.vs 38)])), (6, (.box [(.vs 37)])), (7, (.box [(.vs 35)])), (8, (.box [(.vs 34)])), (9, (.box [(.int .i64 0)])), (10, (.box [(.clo 49 [(.ptr 9 0), (.ptr 4 0), (.ptr 5 0), (.ptr 7 0), (.ptr 6 0), (.ptr 3 0), (.ptr 10 0), (.ptr 8 0)])])), (34, (.vec 1 (List.map Zg ([] : List (List Int))))), (35, (.vec 1 (List.map Z8 ([] : List Int)))), (37, (.vec 1 (List.map Zo (List.replicate a0.Count.toNat (false : Bool))))), (38, (.vec 1 (List.map Z8 (List.replicate a0.Count.toNat (0 : Int))))), (40, (.vec 1 (List.map Z8 (List.replicate a0.Count.toNat (0 : Int)))))]⟩) (fun a w h => (Zp ⟨[(4, (.ptr 4 0)), (8, (.ptr 8 0)), (10, (.ptr 10 0)), (25, (.int .i64 a0.Count)), (26, (.int .i64 0))], [(3, (.box [(.sl 1 (v2.map Zg) false)])), (4, (.box [(.vs 40)])), (5, (.box [(.vs 38)])), (6, (.box [(.vs 37)])), (7, (.box [(.vs 35)])), (8, (.box [(.vs 34)])), (9, (.box [(.int .i64 0)])), (10, (.box [(.clo 49 [(.ptr 9 0), (.ptr 4 0), (.ptr 5 0), (.ptr 7 0), (.ptr 6 0), (.ptr 3 0), (.ptr 10 0), (.ptr 8 0)])])), (34, (.vec 1 (List.map Zg ([] : List (List Int))))), (35, (.vec 1 (List.map Z8 ([] : List Int)))), (37, (.vec 1 (List.map Zo (List.replicate a0.Count.toNat (false : Bool))))), (38, (.vec 1 (List.map Z8 (List.replicate a0.Count.toNat (0 : Int))))), (40, (.vec 1 (List.map Z8 (List.replicate a0.Count.toNat (0 : Int)))))]⟩ (ghost_sw (a := 22) (b := 37) I I a w (Zp ⟨[(4, (.ptr 4 0)), (8, (.ptr 8 0)), (10, (.ptr 10 0)), (25, (.int .i64 a0.Count)), (26, (.int .i64 0))], [(3, (.box [(.sl 1 (v2.map Zg) false)])), (4, (.box [(.vs 40)])), (5, (.box [(.vs 38)])), (6, (.box [(.vs 22)])), (7, (.box [(.vs 35)])), (8, (.box [(.vs 34)])), (9, (.box [(.int .i64 0)])), (10, (.box [(.clo 49 [(.ptr 9 0), (.ptr 4 0), (.ptr 5 0), (.ptr 7 0), (.ptr 6 0), (.ptr 3 0), (.ptr 10 0), (.ptr 8 0)])])), (22, (.vec 1 (List.map Zo (List.replicate a0.Count.toNat (false : Bool))))), (34, (.vec 1 (List.map Zg ([] : List (List Int))))), (35, (.vec 1 (List.map Z8 ([] : List Int)))), (38, (.vec 1 (List.map Z8 (List.replicate a0.Count.toNat (0 : Int))))), (40, (.vec 1 (List.map Z8 (List.replicate a0.Count.toNat (0 : Int)))))]⟩ (Zp ⟨[(4, (.ptr 4 0)), (8, (.ptr 8 0)), (10, (.ptr 10 0)), (25, (.int .i64 a0.Count)), (26, (.int .i64 0))], [(3, (.box [(.sl 1 (v2.map Zg) false)])), (4, (.box [(.vs 40)])), (5, (.box [(.vs 38)])), (6, (.box [(.vs 22)])), (7, (.box [(.vs 35)])), (8, (.box [(.vs 34)])), (9, (.box [(.int .i64 0)])), (10, (.box [(.clo 49 [(.ptr 9 0), (.ptr 4 0), (.ptr 5 0), (.ptr 7 0), (.ptr 6 0), (.ptr 3 0), (.ptr 10 0), (.ptr 8 0)])])), (22, (.vec 1 (List.map Zo (List.replicate a0.Count.toNat (false : Bool))))), (34, (.vec 1 (List.map Zg ([] : List (List Int))))), (35, (.vec 1 (List.map Z8 ([] : List Int)))), (38, (.vec 1 (List.map Z8 (List.replicate a0.Count.toNat (0 : Int))))), (40, (.vec 1 (List.map Z8 (List.replicate a0.Count.toNat (0 : Int)))))]⟩ (ghost_sw (a := 19) (b := 38) I I a w (Zp ⟨[(4, (.ptr 4 0)), (8, (.ptr 8 0)), (10, (.ptr 10 0)), (25, (.int .i64 a0.Count)), (26, (.int .i64 0))], [(3, (.box [(.sl 1 (v2.map Zg) false)])), (4, (.box [(.vs 40)])), (5, (.box [(.vs 19)])), (6, (.box [(.vs 22)])), (7, (.box [(.vs 35)])), (8, (.box [(.vs 34)])), (9, (.box [(.int .i64 0)])), (10, (.box [(.clo 49 [(.ptr 9 0), (.ptr 4 0), (.ptr 5 0), (.ptr 7 0), (.ptr 6 0), (.ptr 3 0), (.ptr 10 0), (.ptr 8 0)])])), (19, (.vec 1 (List.map Z8 (List.replicate a0.Count.toNat (0 : Int))))), (22, (.vec 1 (List.map Zo (List.replicate a0.Count.toNat (false : Bool))))), (34, (.vec 1 (List.map Zg ([] : List (List Int))))), (35, (.vec 1 (List.map Z8 ([] : List Int)))), (40, (.vec 1 (List.map Z8 (List.replicate a0.Count.toNat (0 : Int)))))]⟩ (Zp ⟨[(4, (.ptr 4 0)), (8, (.ptr 8 0)), (10, (.ptr 10 0)), (25, (.int .i64 a0.Count)), (26, (.int .i64 0))], [(3, (.box [(.sl 1 (v2.map Zg) false)])), (4, (.box [(.vs 40)])), (5, (.box [(.vs 19)])), (6, (.box [(.vs 22)])), (7, (.box [(.vs 35)])), (8, (.box [(.vs 34)])), (9, (.box [(.int .i64 0)])), (10, (.box [(.clo 49 [(.ptr 9 0), (.ptr 4 0), (.ptr 5 0), (.ptr 7 0), (.ptr 6 0), (.ptr 3 0), (.ptr 10 0), (.ptr 8 0)])])), (19, (.vec 1 (List.map Z8 (List.replicate a0.Count.toNat (0 : Int))))), (22, (.vec 1 (List.map Zo (List.replicate a0.Count.toNat (false : Bool))))), (34, (.vec 1 (List.map Zg ([] : List (List Int))))), (35, (.vec 1 (List.map Z8 ([] : List Int)))), (40, (.vec 1 (List.map Z8 (List.replicate a0.Count.toNat (0 : Int)))))]⟩ (ghost_sw (a := 16) (b := 40) I I a w (Zp ⟨[(4, (.ptr 4 0)), (8, (.ptr 8 0)), (10, (.ptr 10 0)), (25, (.int .i64 a0.Count)), (26, (.int .i64 0))], [(3, (.box [(.sl 1 (v2.map Zg) false)])), (4, (.box [(.vs 16)])), (5, (.box [(.vs 19)])), (6, (.box [(.vs 22)])), (7, (.box [(.vs 35)])), (8, (.box [(.vs 34)])), (9, (.box [(.int .i64 0)])), (10, (.box [(.clo 49 [(.ptr 9 0), (.ptr 4 0), (.ptr 5 0), (.ptr 7 0), (.ptr 6 0), (.ptr 3 0), (.ptr 10 0), (.ptr 8 0)])])), (16, (.vec 1 (List.map Z8 (List.replicate a0.Count.toNat (0 : Int))))), (19, (.vec 1 (List.map Z8 (List.replicate a0.Count.toNat (0 : Int))))), (22, (.vec 1 (List.map Zo (List.replicate a0.Count.toNat (false : Bool))))), (34, (.vec 1 (List.map Zg ([] : List (List Int))))), (35, (.vec 1 (List.map Z8 ([] : List Int))))]⟩ (Zp ⟨[(4, (.ptr 4 0)), (8, (.ptr 8 0)), (10, (.ptr 10 0)), (25, (.int .i64 a0.Count)), (26, (.int .i64 0))], [(3, (.box [(.sl 1 (v2.map Zg) false)])), (4, (.box [(.vs 16)])), (5, (.box [(.vs 19)])), (6, (.box [(.vs 22)])), (7, (.box [(.vs 35)])), (8, (.box [(.vs 34)])), (9, (.box [(.int .i64 0)])), (10, (.box [(.clo 49 [(.ptr 9 0), (.ptr 4 0), (.ptr 5 0), (.ptr 7 0), (.ptr 6 0), (.ptr 3 0), (.ptr 10 0), (.ptr 8 0)])])), (16, (.vec 1 (List.map Z8 (List.replicate a0.Count.toNat (0 : Int))))), (19, (.vec 1 (List.map Z8 (List.replicate a0.Count.toNat (0 : Int))))), (22, (.vec 1 (List.map Zo (List.replicate a0.Count.toNat (false : Bool))))), (34, (.vec 1 (List.map Zg ([] : List (List Int))))), (35, (.vec 1 (List.map Z8 ([] : List Int))))]⟩ (ghost_ownB (n := 8) (m := 34) (sz := 1) (j := 0) I I I a w (Zp ⟨[(4, (.ptr 4 0)), (8, (.ptr 8 0)), (10, (.ptr 10 0)), (25, (.int .i64 a0.Count)), (26, (.int .i64 0))], [(8, (.box [(.sl 1 [] true)])), (3, (.box [(.sl 1 (v2.map Zg) false)])), (4, (.box [(.vs 16)])), (5, (.box [(.vs 19)])), (6, (.box [(.vs 22)])), (7, (.box [(.vs 35)])), (9, (.box [(.int .i64 0)])), (10, (.box [(.clo 49 [(.ptr 9 0), (.ptr 4 0), (.ptr 5 0), (.ptr 7 0), (.ptr 6 0), (.ptr 3 0), (.ptr 10 0), (.ptr 8 0)])])), (16, (.vec 1 (List.map Z8 (List.replicate a0.Count.toNat (0 : Int))))), (19, (.vec 1 (List.map Z8 (List.replicate a0.Count.toNat (0 : Int))))), (22, (.vec 1 (List.map Zo (List.replicate a0.Count.toNat (false : Bool))))), (35, (.vec 1 (List.map Z8 ([] : List Int))))]⟩ (Zp ⟨[(4, (.ptr 4 0)), (8, (.ptr 8 0)), (10, (.ptr 10 0)), (25, (.int .i64 a0.Count)), (26, (.int .i64 0))], [(3, (.box [(.sl 1 (v2.map Zg) false)])), (4, (.box [(.vs 16)])), (5, (.box [(.vs 19)])), (6, (.box [(.vs 22)])), (7, (.box [(.vs 35)])), (8, (.box [(.sl 1 [] true)])), (9, (.box [(.int .i64 0)])), (10, (.box [(.clo 49 [(.ptr 9 0), (.ptr 4 0), (.ptr 5 0), (.ptr 7 0), (.ptr 6 0), (.ptr 3 0), (.ptr 10 0), (.ptr 8 0)])])), (16, (.vec 1 (List.map Z8 (List.replicate a0.Count.toNat (0 : Int))))), (19, (.vec 1 (List.map Z8 (List.replicate a0.Count.toNat (0 : Int))))), (22, (.vec 1 (List.map Zo (List.replicate a0.Count.toNat (false : Bool))))), (35, (.vec 1 (List.map Z8 ([] : List Int))))]⟩ (ghost_ownB (n := 7) (m := 35) (sz := 1) (j := 0) I I I a w (Zp ⟨[(4, (.ptr 4 0)), (8, (.ptr 8 0)), (10, (.ptr 10 0)), (25, (.int .i64 a0.Count)), (26, (.int .i64 0))], [(7, (.box [(.sl 1 [] true)])), (3, (.box [(.sl 1 (v2.map Zg) false)])), (4, (.box [(.vs 16)])), (5, (.box [(.vs 19)])), (6, (.box [(.vs 22)])), (8, (.box [(.sl 1 [] true)])), (9, (.box [(.int .i64 0)])), (10, (.box [(.clo 49 [(.ptr 9 0), (.ptr 4 0), (.ptr 5 0), (.ptr 7 0), (.ptr 6 0), (.ptr 3 0), (.ptr 10 0), (.ptr 8 0)])])), (16, (.vec 1 (List.map Z8 (List.replicate a0.Count.toNat (0 : Int))))), (19, (.vec 1 (List.map Z8 (List.replicate a0.Count.toNat (0 : Int))))), (22, (.vec 1 (List.map Zo (List.replicate a0.Count.toNat (false : Bool)))))]⟩ h ⟨rfl, rfl, rfl, rfl, rfl, trivial⟩ ⟨rfl, rfl, rfl, rfl, rfl, rfl, rfl, rfl, rfl, rfl, rfl, trivial⟩)) ⟨rfl, rfl, rfl, rfl, rfl, trivial⟩ ⟨rfl, rfl, rfl, rfl, rfl, rfl, rfl, rfl, rfl, rfl, rfl, rfl, trivial⟩) ⟨rfl, rfl, rfl, rfl, rfl, trivial⟩ ⟨rfl, rfl, rfl, rfl, rfl, rfl, rfl, rfl, rfl, rfl, rfl, rfl, trivial⟩)) ⟨rfl, rfl, rfl, rfl, rfl, trivial⟩ ⟨rfl, rfl, rfl, rfl, rfl, rfl, rfl, rfl, rfl, rfl, rfl, rfl, rfl, trivial⟩) ⟨rfl, rfl, rfl, rfl, rfl, trivial⟩ ⟨rfl, rfl, rfl, rfl, rfl, rfl, rfl, rfl, rfl, rfl, rfl, rfl, rfl, trivial⟩)) ⟨rfl, rfl, rfl, rfl, rfl, trivial⟩ ⟨rfl, rfl, rfl, rfl, rfl, rfl, rfl, rfl, rfl, rfl, rfl, rfl, rfl, trivial⟩) ⟨rfl, rfl, rfl, rfl, rfl, trivial⟩ ⟨rfl, rfl, rfl, rfl, rfl, rfl, rfl, rfl, rfl, rfl, rfl, rfl, rfl, trivial⟩)) ⟨rfl, rfl, rfl, rfl, rfl, trivial⟩ ⟨rfl, rfl, rfl, rfl, rfl, rfl, rfl, rfl, rfl, rfl, rfl, rfl, rfl, trivial⟩) ⟨rfl, rfl, rfl, rfl, rfl, trivial⟩ ⟨rfl, rfl, rfl, rfl, rfl, rfl, rfl, rfl, rfl, rfl, rfl, rfl, rfl, trivial⟩)) ⟨rfl, rfl, rfl, rfl, rfl, trivial⟩ ⟨rfl, rfl, rfl, rfl, rfl, rfl, rfl, rfl, rfl, rfl, rfl, rfl, rfl, trivial⟩)) <| AWp.weaken (st' := ⟨[(4, (.ptr 4 0)), (8, (.ptr 8 0)), (10, (.ptr 10 0)), (25, (.int .i64 a0.Count)), (26, (.int .i64 0))], [(3, (.box [(.sl 1 (v2.map Zg) false)])), (4, (.box [(.vs 40)])), (5, (.box [(.vs 38)])), (6, (.box [(.vs 37)])), (7, (.box [(.vs 35)])), (8, (.box [(.vs 34)])), (9, (.box [(.int .i64 0)])), (10, (.box [(.clo 49 [(.ptr 9 0), (.ptr 4 0), (.ptr 5 0), (.ptr 7 0), (.ptr 6 0), (.ptr 3 0), (.ptr 10 0), (.ptr 8 0)])])), (34, (.vec 1 (List.map Zg []))), (35, (.vec 1 (List.map Z8 []))), (37, (.vec 1 (List.map Zo (List.replicate a0.Count.toNat (false : Bool))))), (38, (.vec 1 (List.map Z8 (List.replicate a0.Count.toNat (0 : Int))))), (40, (.vec 1 (List.map Z8 (List.replicate a0.Count.toNat (0 : Int)))))]⟩) ⟨rfl, rfl, rfl, rfl, rfl, trivial⟩ ⟨rfl, rfl, rfl, rfl, rfl, rfl, rfl, rfl, rfl, rfl, rfl, rfl, rfl, trivial⟩ ?_
 refine Zw (V := Int × (List Int) × (List (List Int)) × (List (List Int)) × Int × (List Int) × (List Bool) × (List Int)) (X := (List (List Int))) (lp := fun k v => F24_l14 K a0 (F24_c16 K) k v.1 v.2.1 v.2.2.1 v.2.2.2.1 v.2.2.2.2.1 v.2.2.2.2.2.1 v.2.2.2.2.2.2.1 v.2.2.2.2.2.2.2 = some r) (sh := fun v => ⟨[(4, (.ptr 4 0)), (8, (.ptr 8 0)), (10, (.ptr 10 0)), (25, (.int .i64 a0.Count)), (26, (.int .i64 v.1))], [(3, (.box [(.sl 1 (v.2.2.2.1.map Zg) false)])), (4, (.box [(.vs 40)])), (5, (.box [(.vs 38)])), (6, (.box [(.vs 37)])), (7, (.box [(.vs 35)])), (8, (.box [(.vs 34)])), (9, (.box [(.int .i64 v.2.2.2.2.1)])), (10, (.box [(.clo 49 [(.ptr 9 0), (.ptr 4 0), (.ptr 5 0), (.ptr 7 0), (.ptr 6 0), (.ptr 3 0), (.ptr 10 0), (.ptr 8 0)])])), (34, (.vec 1 (List.map Zg v.2.2.1))), (35, (.vec 1 (List.map Z8 v.2.2.2.2.2.2.2))), (37, (.vec 1 (List.map Zo v.2.2.2.2.2.2.1))), (38, (.vec 1 (List.map Z8 v.2.2.2.2.2.1))), (40, (.vec 1 (List.map Z8 v.2.1)))]⟩) (x := fun v => F24_c16 K v = some r) (shx := fun v => ⟨[(8, (.ptr 8 0))], [(8, (.box [(.vs 34)])), (34, (.vec 1 (List.map Zg v)))]⟩) (k := K) (v := (0, (List.replicate a0.Count.toNat (0 : Int)), [], v2, 0, (List.replicate a0.Count.toNat (0 : Int)), (List.replicate a0.Count.toNat (false : Bool)), [])) h ?_ ?_
 ·intro v h
  revert h
  revert v
  intro v15 h
  try dsimp only at h ⊢
  unfold F24_c16 at h
  refine Ze <| Zf <| Z6 <| Z1 I (Zu (cs := [(.vs 34)]) (v := (.vs 34)) I o46 I I I) I ?_
  have ⟨v19, hv19, h⟩ := of_bind h
  refine Z1 I (st_call (d := some 39) (c := ⟨[(.vs 34), (.clo 54 [])], [(34, (.vec 1 (List.map Zg v15)))], .tup [], [(34, .vec 1 (List.map Zg v19))], []⟩) (ar := [(.vs 34), (.clo 54 [])]) (caps := []) (news := []) (forg := []) Try.call53 (sort_ok1 (n := 34) (enc := Zg) (l := v15) (caps := []) (c := (fun a b => F54 K a b)) sortC53 Try.call54 els_l_i64 (fun _ => I) (fun a b m hm => F54_ok K a b m hm) hv19) I I ⟨rfl, rfl, trivial⟩ I ⟨rfl, trivial⟩ I) I <| Zb <| Ze <| Zf <| Z6 <| Z1 I (Zu (cs := [(.vs 34)]) (v := (.vs 34)) I o46 I I I) I <| Z1 I (Zh (v := (.vs 34)) I I) I <| Zb ?_
  refine Ze <| AWp.ret <| At.ghost (st' := ⟨[(2, (.sl 1 (v19.map Zg) false))], []⟩) (fun a w h => (Zp ⟨[(2, (.sl 1 (v19.map Zg) false))], []⟩ (ghost_freeze (m := 34) (sz := 1) (es := (List.map Zg v19)) a w (Zp ⟨[(2, (.vs 34))], [(34, (.vec 1 (List.map Zg v19)))]⟩ h ⟨rfl, trivial⟩ ⟨rfl, trivial⟩)) ⟨rfl, trivial⟩ trivial)) ?_
  have h := Option.some.inj h
  subst h
  refine (hret _ ?_).1
  exact ⟨[(.sl 1 (v19.map Zg) false)], ⟨rfl, trivial⟩, rfl, trivial⟩
 ·intro N k14 v h IH14 J14
  obtain ⟨v6, v7, v8, v9, v10, v11, v12, v13⟩ := v
  try dsimp only at h IH14 J14 ⊢
  cases k14 with
  | zero => cases h
  | succ k14 =>
   rw [F24_l14] at h
   refine Zf <| Z6 <| Z1 I (st_cmp (k := .i64) (a := v6) (b := a0.Count) (c := (decide (v6 < a0.Count))) I I I I) I <| Zb <| Ze <| Zf ?_
   have hif := of_if h
   refine Zv I (fun hc => ?_) (fun hc => ?_)
   ·have h := hif.1 hc
    refine Zy <| Ze <| Zf <| AWp.block <| Zf <| Z6 <| Z1 I (Z9 (v := (.int .i64 v6)) I I) I <| Z1 I (Zh (v := (.int .i64 v6)) I I) I ?_
    refine Zb <| Ze <| Zf <| Z6 <| Z1 I (Zu (cs := [(.vs 40)]) (v := (.vs 40)) I o29 I I I) I <| Z1 I (Z9 (v := (.int .i64 v6)) I I) I ?_
    have ⟨hg21, h⟩ := Zi h
    refine Z1 I (st_indexV (k := .i64) (v := (.vs 40)) (n := 40) (off := 0) (len := v7.length) (es := (List.map Z8 v7)) (j := v6) (m := v6.toNat) I s29 I I (vecR_map _ _ _) I hg21 (Nat.zero_add _)) I ?_
    have ⟨hg22, h⟩ := Zi h
    refine Z1 I (st_loadV (l := v7) (enc := Z8) (z := 0) (v := (.int .i64 (v7.getD v6.toNat 0))) I o3 I I hg22 I) I <| Z1 I (st_cmp (k := .i64) (a := (v7.getD v6.toNat 0)) (b := 0) (c := ((v7.getD v6.toNat 0) == 0)) I I I I) I <| Zb <| Ze ?_
    refine AWp.join (V := (List Int) × (List (List Int)) × (List (List Int)) × Int × (List Int) × (List Bool) × (List Int)) (lp := fun v => F24_j30 K (F24_l14 K a0 (F24_c16 K) k14) v6 v.1 v.2.1 v.2.2.1 v.2.2.2.1 v.2.2.2.2.1 v.2.2.2.2.2.1 v.2.2.2.2.2.2 = some r) (sh := fun v => ⟨[(4, (.ptr 4 0)), (8, (.ptr 8 0)), (10, (.ptr 10 0)), (25, (.int .i64 a0.Count)), (26, (.int .i64 v6))], [(3, (.box [(.sl 1 (v.2.2.1.map Zg) false)])), (4, (.box [(.vs 40)])), (5, (.box [(.vs 38)])), (6, (.box [(.vs 37)])), (7, (.box [(.vs 35)])), (8, (.box [(.vs 34)])), (9, (.box [(.int .i64 v.2.2.2.1)])), (10, (.box [(.clo 49 [(.ptr 9 0), (.ptr 4 0), (.ptr 5 0), (.ptr 7 0), (.ptr 6 0), (.ptr 3 0), (.ptr 10 0), (.ptr 8 0)])])), (34, (.vec 1 (List.map Zg v.2.1))), (35, (.vec 1 (List.map Z8 v.2.2.2.2.2.2))), (37, (.vec 1 (List.map Zo v.2.2.2.2.2.1))), (38, (.vec 1 (List.map Z8 v.2.2.2.2.1))), (40, (.vec 1 (List.map Z8 v.1)))]⟩) ?_ ?_
    ·intro v h
     obtain ⟨v23, v24, v25, v26, v27, v28, v29⟩ := v
     try dsimp only at h ⊢
     unfold F24_j30 at h
     refine At.end <| Ze <| Z6 <| Z1 I (st_arith (k := .i64) (a := v6) (b := 1) (c := (IntKind.i64.wrap (v6 + 1))) I I I I) I <| Z1 I (Z9 (v := (.int .i64 (IntKind.i64.wrap (v6 + 1)))) I I) I <| Zb ?_
     exact Zl (st' := ⟨[(4, (.ptr 4 0)), (8, (.ptr 8 0)), (10, (.ptr 10 0)), (25, (.int .i64 a0.Count)), (26, (.int .i64 (IntKind.i64.wrap (v6 + 1))))], [(3, (.box [(.sl 1 (v25.map Zg) false)])), (4, (.box [(.vs 40)])), (5, (.box [(.vs 38)])), (6, (.box [(.vs 37)])), (7, (.box [(.vs 35)])), (8, (.box [(.vs 34)])), (9, (.box [(.int .i64 v26)])), (10, (.box [(.clo 49 [(.ptr 9 0), (.ptr 4 0), (.ptr 5 0), (.ptr 7 0), (.ptr 6 0), (.ptr 3 0), (.ptr 10 0), (.ptr 8 0)])])), (34, (.vec 1 (List.map Zg v24))), (35, (.vec 1 (List.map Z8 v29))), (37, (.vec 1 (List.map Zo v28))), (38, (.vec 1 (List.map Z8 v27))), (40, (.vec 1 (List.map Z8 v23)))]⟩) ⟨rfl, rfl, rfl, rfl, rfl, trivial⟩ ⟨rfl, rfl, rfl, rfl, rfl, rfl, rfl, rfl, rfl, rfl, rfl, rfl, rfl, trivial⟩ (IH14 _ ((IntKind.i64.wrap (v6 + 1)), v23, v24, v25, v26, v27, v28, v29) (Nat.lt_succ_self _) h)
    ·intro J30
     have hif := of_if h
     refine Zv I (fun hc => ?_) (fun hc => ?_)
     ·have h := hif.1 hc
      refine Z6 <| Z1 I (Zu (cs := [(.clo 49 [(.ptr 9 0), (.ptr 4 0), (.ptr 5 0), (.ptr 7 0), (.ptr 6 0), (.ptr 3 0), (.ptr 10 0), (.ptr 8 0)])]) (v := (.clo 49 [(.ptr 9 0), (.ptr 4 0), (.ptr 5 0), (.ptr 7 0), (.ptr 6 0), (.ptr 3 0), (.ptr 10 0), (.ptr 8 0)])) I o74 I I I) I <| Z1 I (Z9 (v := (.int .i64 v6)) I I) I ?_
      have ⟨v32, hv32, h⟩ := of_bind h
      refine Z1 I (st_call (d := some 36) (c := ⟨[(.int .i64 v6)] ++ [(.ptr 9 0), (.ptr 4 0), (.ptr 5 0), (.ptr 7 0), (.ptr 6 0), (.ptr 3 0), (.ptr 10 0), (.ptr 8 0)], [(9, (.box [(.int .i64 v10)])), (4, (.box [(.vs 40)])), (5, (.box [(.vs 38)])), (7, (.box [(.vs 35)])), (6, (.box [(.vs 37)])), (3, (.box [(.sl 1 (v9.map Zg) false)])), (10, (.box [(.clo 49 [(.ptr 9 0), (.ptr 4 0), (.ptr 5 0), (.ptr 7 0), (.ptr 6 0), (.ptr 3 0), (.ptr 10 0), (.ptr 8 0)])])), (8, (.box [(.vs 34)])), (40, (.vec 1 (List.map Z8 v7))), (38, (.vec 1 (List.map Z8 v11))), (35, (.vec 1 (List.map Z8 v13))), (37, (.vec 1 (List.map Zo v12))), (34, (.vec 1 (List.map Zg v8)))], (.tup []), [(9, (.box [(.int .i64 v32.1)])), (4, (.box [(.vs 40)])), (5, (.box [(.vs 38)])), (7, (.box [(.vs 35)])), (6, (.box [(.vs 37)])), (3, (.box [(.sl 1 (v32.2.1.map Zg) false)])), (10, (.box [(.clo 49 [(.ptr 9 0), (.ptr 4 0), (.ptr 5 0), (.ptr 7 0), (.ptr 6 0), (.ptr 3 0), (.ptr 10 0), (.ptr 8 0)])])), (8, (.box [(.vs 34)])), (40, (.vec 1 (List.map Z8 v32.2.2.1))), (38, (.vec 1 (List.map Z8 v32.2.2.2.1))), (35, (.vec 1 (List.map Z8 v32.2.2.2.2.1))), (37, (.vec 1 (List.map Zo v32.2.2.2.2.2.1))), (34, (.vec 1 (List.map Zg v32.2.2.2.2.2.2)))], [40, 38, 35, 37, 34]⟩) (ar := [(.int .i64 v6)]) (caps := [(.ptr 9 0), (.ptr 4 0), (.ptr 5 0), (.ptr 7 0), (.ptr 6 0), (.ptr 3 0), (.ptr 10 0), (.ptr 8 0)]) (news := []) (forg := [40, 38, 35, 37, 34]) Try.call49 ((((((((((((((F49_ok K v6 v10 v9 v7 v11 v13 v12 v8 v32 hv32).sw 2000 9).sw 2001 4).sw 2002 5).sw 2003 7).sw 2004 6).sw 2005 3).sw 2006 10).sw 2007 8).sw 111 40).sw 110 38).sw 108 35).sw 107 37).sw 106 34) I I ⟨rfl, trivial⟩ I ⟨rfl, rfl, rfl, rfl, rfl, rfl, rfl, rfl, rfl, rfl, rfl, rfl, rfl, trivial⟩ I) I <| Zb ?_
      exact Zl (st' := ⟨[(4, (.ptr 4 0)), (8, (.ptr 8 0)), (10, (.ptr 10 0)), (25, (.int .i64 a0.Count)), (26, (.int .i64 v6))], [(3, (.box [(.sl 1 (v32.2.1.map Zg) false)])), (4, (.box [(.vs 40)])), (5, (.box [(.vs 38)])), (6, (.box [(.vs 37)])), (7, (.box [(.vs 35)])), (8, (.box [(.vs 34)])), (9, (.box [(.int .i64 v32.1)])), (10, (.box [(.clo 49 [(.ptr 9 0), (.ptr 4 0), (.ptr 5 0), (.ptr 7 0), (.ptr 6 0), (.ptr 3 0), (.ptr 10 0), (.ptr 8 0)])])), (34, (.vec 1 (List.map Zg v32.2.2.2.2.2.2))), (35, (.vec 1 (List.map Z8 v32.2.2.2.2.1))), (37, (.vec 1 (List.map Zo v32.2.2.2.2.2.1))), (38, (.vec 1 (List.map Z8 v32.2.2.2.1))), (40, (.vec 1 (List.map Z8 v32.2.2.1)))]⟩) ⟨rfl, rfl, rfl, rfl, rfl, trivial⟩ ⟨rfl, rfl, rfl, rfl, rfl, rfl, rfl, rfl, rfl, rfl, rfl, rfl, rfl, trivial⟩ (J30 (v32.2.2.1, v32.2.2.2.2.2.2, v32.2.1, v32.1, v32.2.2.2.1, v32.2.2.2.2.2.1, v32.2.2.2.2.1) h)
     ·have h := hif.2 hc
      refine Zy ?_
      exact Zl (st' := ⟨[(4, (.ptr 4 0)), (8, (.ptr 8 0)), (10, (.ptr 10 0)), (25, (.int .i64 a0.Count)), (26, (.int .i64 v6))], [(3, (.box [(.sl 1 (v9.map Zg) false)])), (4, (.box [(.vs 40)])), (5, (.box [(.vs 38)])), (6, (.box [(.vs 37)])), (7, (.box [(.vs 35)])), (8, (.box [(.vs 34)])), (9, (.box [(.int .i64 v10)])), (10, (.box [(.clo 49 [(.ptr 9 0), (.ptr 4 0), (.ptr 5 0), (.ptr 7 0), (.ptr 6 0), (.ptr 3 0), (.ptr 10 0), (.ptr 8 0)])])), (34, (.vec 1 (List.map Zg v8))), (35, (.vec 1 (List.map Z8 v13))), (37, (.vec 1 (List.map Zo v12))), (38, (.vec 1 (List.map Z8 v11))), (40, (.vec 1 (List.map Z8 v7)))]⟩) ⟨rfl, rfl, rfl, rfl, rfl, trivial⟩ ⟨rfl, rfl, rfl, rfl, rfl, rfl, rfl, rfl, rfl, rfl, rfl, rfl, rfl, trivial⟩ (J30 (v7, v8, v9, v10, v11, v12, v13) h)
   ·have h := hif.2 hc
    refine AWp.exit <| At.thru ?_
    exact Zl (st' := ⟨[(8, (.ptr 8 0))], [(8, (.box [(.vs 34)])), (34, (.vec 1 (List.map Zg v8)))]⟩) ⟨rfl, trivial⟩ ⟨rfl, rfl, trivial⟩ (J14 v8 h)
def F30_c6 (K : Nat) (a0 : Za) (v5 : (List Z7)) : Option (Za) :=
 (F35 K a0.Count v5).bind fun v9 =>
  some v9.1
def F30_l4 (K : Nat) (a0 : Za) (c7 : (List Z7) → Option (Za)) : Nat → Int → (List Z7) → Option (Za)
 | 0, _, _ => none
 | k4 + 1, v2, v3 =>
  if (decide (v2 < (a0.Edges.length : Int))) = true then
   if (0 : Int) ≤ v2 ∧ v2 < a0.Edges.length then
    if v3.length + [(⟨(a0.Edges.getD v2.toNat Z2).To, (a0.Edges.getD v2.toNat Z2).From⟩ : Z7)].length ≤ 1073741824 then
     (F30_l4 K a0 c7 k4) (IntKind.i64.wrap (v2 + 1)) (v3 ++ [(⟨(a0.Edges.getD v2.toNat Z2).To, (a0.Edges.getD v2.toNat Z2).From⟩ : Z7)])
    else none
   else none
  else
   c7 v3
def F30 (K : Nat) (a0 : Za) : Option (Za) :=
 if (0 : Int) ≤ 0 ∧ 0 ≤ (a0.Edges.length : Int) ∧ (a0.Edges.length : Int) ≤ 1073741824 then
  F30_l4 K a0 (F30_c6 K a0) K 0 (List.replicate (0 : Int).toNat (Z2 : Z7))
 else none
theorem F30_ok (K : Nat) (a0 : Za) (r : Za) (h : F30 K a0 = some r) : ACall P 30 ⟨[(Z4 a0)], [], (Z4 r), [], []⟩ := by
 refine acall_of Try.func30 Try.results30 rfl Try.ntmps30 rfl rfl rfl ?_
 intro E Q hP hN hro hret
 obtain ⟨P', nt', w0, F0, p0, S0, β0, ro0⟩ := E
 simp only at hP hN
 subst hP hN
 dsimp only [argT]
 unfold F30 at h
 refine Zf <| Z6 <| Z1 I (st_box (v := (Z4 a0)) (cs := (Z4 a0).cells) I I I I I) I <| Z1 I (st_alloc (cs := [(.int .i64 0), (.sl 2 [] false)]) I z35 I I I) I <| Zb <| Ze <| Zf <| Z6 ?_
 refine Z1 I (Z10 (m := 1) (o := 0) I f35_1 I I) I <| Z1 I (Zu (cs := (Z4 a0).cells) (v := (.sl 2 (a0.Edges.map Z3) false)) I o33 I I I) I <| Z1 I (stx_len (l := a0.Edges) (enc := Z3) I s33 I) I ?_
 have ⟨hg1, h⟩ := Zi h
 refine Z1 I (st_makeSlice (kx := .i64) (ky := .i64) (a := (0 : Int)) (c := (a0.Edges.length : Int)) (n := (0 : Int).toNat) I el33 I ze64 els_Tgraph_Edge I I I hg1 I) I <| Z1 I (Zh (v := (.vs 11)) I I) I <| Zb <| Ze <| Zf <| Zf <| Z6 <| Z1 I (Z10 (m := 1) (o := 0) I f35_1 I I) I ?_
 refine Z1 I (Zu (cs := (Z4 a0).cells) (v := (.sl 2 (a0.Edges.map Z3) false)) I o33 I I I) I <| Z1 I (stx_len (l := a0.Edges) (enc := Z3) I s33 I) I <| Z1 I (Z9 (v := (.int .i64 0)) I I) I <| Zb <| Ze <| AWp.ghost (st' := ⟨[(1, (.ptr 1 0)), (2, (.ptr 2 0)), (3, (.vs 3)), (13, (.sl 2 (a0.Edges.map Z3) false)), (14, (.int .i64 (a0.Edges.length : Int))), (15, (.int .i64 0))], [(1, (.box (Z4 a0).cells)), (2, (.box [(.int .i64 0), (.sl 2 [] false)])), (3, (.vec 2 (List.map Z3 (List.replicate (0 : Int).toNat (Z2 : Z7)))))]⟩) (fun a w h => (Zp ⟨[(1, (.ptr 1 0)), (2, (.ptr 2 0)), (3, (.vs 3)), (13, (.sl 2 (a0.Edges.map Z3) false)), (14, (.int .i64 (a0.Edges.length : Int))), (15, (.int .i64 0))], [(1, (.box (Z4 a0).cells)), (2, (.box [(.int .i64 0), (.sl 2 [] false)])), (3, (.vec 2 (List.map Z3 (List.replicate (0 : Int).toNat (Z2 : Z7)))))]⟩ (ghost_sw (a := 11) (b := 3) I I a w (Zp ⟨[(1, (.ptr 1 0)), (2, (.ptr 2 0)), (3, (.vs 11)), (13, (.sl 2 (a0.Edges.map Z3) false)), (14, (.int .i64 (a0.Edges.length : Int))), (15, (.int .i64 0))], [(1, (.box (Z4 a0).cells)), (2, (.box [(.int .i64 0), (.sl 2 [] false)])), (11, (.vec 2 (List.map Z3 (List.replicate (0 : Int).toNat (Z2 : Z7)))))]⟩ h ⟨rfl, rfl, rfl, rfl, rfl, rfl, trivial⟩ ⟨rfl, rfl, rfl, trivial⟩)) ⟨rfl, rfl, rfl, rfl, rfl, rfl, trivial⟩ ⟨rfl, rfl, rfl, trivial⟩)) <| AWp.weaken (st' := ⟨[(1, (.ptr 1 0)), (2, (.ptr 2 0)), (3, (.vs 3)), (13, (.sl 2 (a0.Edges.map Z3) false)), (14, (.int .i64 (a0.Edges.length : Int))), (15, (.int .i64 0))], [(1, (.box (Z4 a0).cells)), (2, (.box [(.int .i64 0), (.sl 2 [] false)])), (3, (.vec 2 (List.map Z3 (List.replicate (0 : Int).toNat (Z2 : Z7)))))]⟩) ⟨rfl, rfl, rfl, rfl, rfl, rfl, trivial⟩ ⟨rfl, rfl, rfl, trivial⟩ ?_
 refine Zw (V := Int × (List Z7)) (X := (List Z7)) (lp := fun k v => F30_l4 K a0 (F30_c6 K a0) k v.1 v.2 = some r) (sh := fun v => ⟨[(1, (.ptr 1 0)), (2, (.ptr 2 0)), (3, (.vs 3)), (13, (.sl 2 (a0.Edges.map Z3) false)), (14, (.int .i64 (a0.Edges.length : Int))), (15, (.int .i64 v.1))], [(1, (.box (Z4 a0).cells)), (2, (.box [(.int .i64 0), (.sl 2 [] false)])), (3, (.vec 2 (List.map Z3 v.2)))]⟩) (x := fun v => F30_c6 K a0 v = some r) (shx := fun v => ⟨[(1, (.ptr 1 0)), (2, (.ptr 2 0)), (3, (.vs 3))], [(1, (.box (Z4 a0).cells)), (2, (.box [(.int .i64 0), (.sl 2 [] false)])), (3, (.vec 2 (List.map Z3 v)))]⟩) (k := K) (v := (0, (List.replicate (0 : Int).toNat (Z2 : Z7)))) h ?_ ?_
 ·intro v h
  revert h
  revert v
  intro v5 h
  try dsimp only at h ⊢
  unfold F30_c6 at h
  refine Ze <| Zf <| Z6 <| Z1 I (Z10 (m := 1) (o := 0) I f35_0 I I) I <| Z1 I (Zu (cs := (Z4 a0).cells) (v := (.int .i64 a0.Count)) I o3 I I I) I <| Z1 I (Z9 (v := (.vs 3)) I I) I <| AOps.ghost (st' := ⟨[(2, (.ptr 2 0)), (30, (.int .i64 a0.Count)), (31, (.sl 2 (v5.map Z3) false))], [(2, (.box [(.int .i64 0), (.sl 2 [] false)]))]⟩) (fun a w h => (Zp ⟨[(2, (.ptr 2 0)), (30, (.int .i64 a0.Count)), (31, (.sl 2 (v5.map Z3) false))], [(2, (.box [(.int .i64 0), (.sl 2 [] false)]))]⟩ (ghost_freeze (m := 3) (sz := 2) (es := (List.map Z3 v5)) a w (Zp ⟨[(2, (.ptr 2 0)), (30, (.int .i64 a0.Count)), (31, (.vs 3))], [(3, (.vec 2 (List.map Z3 v5))), (2, (.box [(.int .i64 0), (.sl 2 [] false)]))]⟩ h ⟨rfl, rfl, rfl, trivial⟩ ⟨rfl, rfl, trivial⟩)) ⟨rfl, rfl, rfl, trivial⟩ ⟨rfl, trivial⟩)) ?_
  have ⟨v9, hv9, h⟩ := of_bind h
  refine Z1 I (st_call0 (ar := [(.int .i64 a0.Count), (.sl 2 (v5.map Z3) false)]) (caps := []) Try.call35 (F35_ok K a0.Count v5 v9 hv9) I I ⟨rfl, rfl, trivial⟩ I) I <| Z1 I (Z9 (v := (.tup [(Z4 v9.1), (.int .i64 v9.2)])) I I) I <| Z1 I (st_extract (vs := [(Z4 v9.1), (.int .i64 v9.2)]) (v := (Z4 v9.1)) I I I) I <| Z1 I (st_extract (vs := [(Z4 v9.1), (.int .i64 v9.2)]) (v := (.int .i64 v9.2)) I I I) I <| Z1 I (st_alloc (cs := [(.int .i64 0), (.sl 2 [] false)]) I z35 I I I) I <| Z1 I (st_storeP (cs := [(.int .i64 0), (.sl 2 [] false)]) (vs := (Z4 v9.1).cells) (ds := (Z4 v9.1).cells) (v := (Z4 v9.1)) sz35 I I I I I I I I) I <| Z1 I (Zh (v := (.int .i64 v9.2)) I I) I <| Zb ?_
  refine Ze <| Zf <| Z6 <| Z1 I (st_loadPA (cs := (Z4 v9.1).cells) (vs := (Z4 v9.1).cells) I a35 I I I I) I <| Z1 I (st_storeP (cs := [(.int .i64 0), (.sl 2 [] false)]) (vs := (Z4 v9.1).cells) (ds := (Z4 v9.1).cells) (v := (Z4 v9.1)) sz35 I I I I I I I I) I <| Zb <| Ze <| AWp.ret ?_
  have h := Option.some.inj h
  subst h
  refine (hret _ ?_).1
  exact ⟨[(Z4 v9.1)], ⟨⟨2, _, rfl, rfl, .inr ⟨_, a35, rfl, rfl⟩⟩, trivial⟩, rfl, trivial⟩
 ·intro N k4 v h IH4 J4
  obtain ⟨v2, v3⟩ := v
  try dsimp only at h IH4 J4 ⊢
  cases k4 with
  | zero => cases h
  | succ k4 =>
   rw [F30_l4] at h
   refine Zf <| Z6 <| Z1 I (st_cmp (k := .i64) (a := v2) (b := (a0.Edges.length : Int)) (c := (decide (v2 < (a0.Edges.length : Int)))) I I I I) I <| Zb <| Ze <| Zf ?_
   have hif := of_if h
   refine Zv I (fun hc => ?_) (fun hc => ?_)
   ·have h := hif.1 hc
    refine Zy <| Ze <| Zf <| AWp.block <| Zf <| Z6 ?_
    have ⟨hg11, h⟩ := Zi h
    refine Z1 I (st_index (k := .i64) (l := a0.Edges) (enc := Z3) (z := Z2) (n := v2) (cs := (Z3 (a0.Edges.getD v2.toNat Z2)).cells) (full := false) I s33 I I hg11 I) I <| Z1 I (st_loadIA (cs := (Z3 (a0.Edges.getD v2.toNat Z2)).cells) (vs := (Z3 (a0.Edges.getD v2.toNat Z2)).cells) I a64 I I I) I <| Z1 I (st_alloc (cs := [(.int .i64 0), (.int .i64 0)]) I z64 I I I) I <| Z1 I (st_storeP (cs := [(.int .i64 0), (.int .i64 0)]) (vs := (Z3 (a0.Edges.getD v2.toNat Z2)).cells) (ds := (Z3 (a0.Edges.getD v2.toNat Z2)).cells) (v := (Z3 (a0.Edges.getD v2.toNat Z2))) sz64 I I I I I I I I) I <| Zb <| Ze <| Z6 <| Z1 I (Z9 (v := (.vs 3)) I I) I ?_
    refine Z1 I (Z10 (m := 5) (o := 0) I f64_1 I I) I <| Z1 I (Zu (cs := (Z3 (a0.Edges.getD v2.toNat Z2)).cells) (v := (.int .i64 (a0.Edges.getD v2.toNat Z2).To)) I o3 I I I) I <| Z1 I (Z10 (m := 5) (o := 0) I f64_0 I I) I <| Z1 I (Zu (cs := (Z3 (a0.Edges.getD v2.toNat Z2)).cells) (v := (.int .i64 (a0.Edges.getD v2.toNat Z2).From)) I o3 I I I) I <| Z1 I (stx_build (vs := [(0, (.int .i64 (a0.Edges.getD v2.toNat Z2).To)), (1, (.int .i64 (a0.Edges.getD v2.toNat Z2).From))]) (cs := [(.int .i64 (a0.Edges.getD v2.toNat Z2).To), (.int .i64 (a0.Edges.getD v2.toNat Z2).From)]) I st64 ⟨rfl, rfl, rfl, rfl, trivial⟩ I) I <| Z1 I (stx_buildSlice (vs := [(.ag [(.int .i64 (a0.Edges.getD v2.toNat Z2).To), (.int .i64 (a0.Edges.getD v2.toNat Z2).From)])]) (enc := Z3) (l := [(⟨(a0.Edges.getD v2.toNat Z2).To, (a0.Edges.getD v2.toNat Z2).From⟩ : Z7)]) I el33 I I ⟨rfl, trivial⟩ I els_Tgraph_Edge I I I I) I ?_
    have ⟨hg12, h⟩ := Zi h
    refine Z1 I (st_append (m := 3) (enc := Z3) (l := v3) (l' := [(⟨(a0.Edges.getD v2.toNat Z2).To, (a0.Edges.getD v2.toNat Z2).From⟩ : Z7)]) (src := (.vs 25)) (rd := [(25, (.vec 2 (List.map Z3 [(⟨(a0.Edges.getD v2.toNat Z2).To, (a0.Edges.getD v2.toNat Z2).From⟩ : Z7)])))]) I I el33 I u33 I I I I (oneRead I) els_Tgraph_Edge hg12) I <| Z1 I (Zh (v := (.vs 3)) I I) I <| Zb <| At.end <| Ze <| Z6 <| Z1 I (st_arith (k := .i64) (a := v2) (b := 1) (c := (IntKind.i64.wrap (v2 + 1))) I I I I) I <| Z1 I (Z9 (v := (.int .i64 (IntKind.i64.wrap (v2 + 1)))) I I) I ?_
    refine Zb ?_
    exact Zl (st' := ⟨[(1, (.ptr 1 0)), (2, (.ptr 2 0)), (3, (.vs 3)), (13, (.sl 2 (a0.Edges.map Z3) false)), (14, (.int .i64 (a0.Edges.length : Int))), (15, (.int .i64 (IntKind.i64.wrap (v2 + 1))))], [(1, (.box (Z4 a0).cells)), (2, (.box [(.int .i64 0), (.sl 2 [] false)])), (3, (.vec 2 (List.map Z3 (v3 ++ [(⟨(a0.Edges.getD v2.toNat Z2).To, (a0.Edges.getD v2.toNat Z2).From⟩ : Z7)]))))]⟩) ⟨rfl, rfl, rfl, rfl, rfl, rfl, trivial⟩ ⟨rfl, rfl, rfl, trivial⟩ (IH4 _ ((IntKind.i64.wrap (v2 + 1)), (v3 ++ [(⟨(a0.Edges.getD v2.toNat Z2).To, (a0.Edges.getD v2.toNat Z2).From⟩ : Z7)])) (Nat.lt_succ_self _) h)
   ·have h := hif.2 hc
    refine AWp.exit <| At.thru ?_
    exact Zl (st' := ⟨[(1, (.ptr 1 0)), (2, (.ptr 2 0)), (3, (.vs 3))], [(1, (.box (Z4 a0).cells)), (2, (.box [(.int .i64 0), (.sl 2 [] false)])), (3, (.vec 2 (List.map Z3 v3)))]⟩) ⟨rfl, rfl, rfl, trivial⟩ ⟨rfl, rfl, rfl, trivial⟩ (J4 v3 h)
def F46_c20 (K : Nat) (v19 : (List Int)) : Option ((List Int)) :=
 some v19
def F46_c34 (K : Nat) (b22 : (List Int) → (List Int) → Option ((List Int))) (v32 : (List Int)) (v33 : (List Int)) : Option ((List Int)) :=
 b22 v32 v33
def F46_j39 (K : Nat) (b36 : Int → (List Int) → (List Int) → Option ((List Int))) (v28 : Int) (v37 : (List Int)) (v38 : (List Int)) : Option ((List Int)) :=
 b36 (IntKind.i64.wrap (v28 + 1)) v37 v38
def F46_j45 (K : Nat) (b36 : Int → (List Int) → (List Int) → Option ((List Int))) (v28 : Int) (v43 : (List Int)) (v44 : (List Int)) : Option ((List Int)) :=
 F46_j39 K b36 v28 v43 v44
def F46_l31 (K : Nat) (a0 : (List (List Int))) (v17 : (List Int)) (a2 : Int) (c35 : (List Int) → (List Int) → Option ((List Int))) : Nat → Int → (List Int) → (List Int) → Option ((List Int))
 | 0, _, _, _ => none
 | k31 + 1, v28, v29, v30 =>
  if (decide (v28 < ((a0.getD (v17.getD (0 : Int).toNat 0).toNat []).length : Int))) = true then
   if (0 : Int) ≤ v28 ∧ v28 < (a0.getD (v17.getD (0 : Int).toNat 0).toNat []).length then
    if (((a0.getD (v17.getD (0 : Int).toNat 0).toNat []).getD v28.toNat 0) != a2) = true then
     if (0 : Int) ≤ ((a0.getD (v17.getD (0 : Int).toNat 0).toNat []).getD v28.toNat 0) ∧ ((a0.getD (v17.getD (0 : Int).toNat 0).toNat []).getD v28.toNat 0) < (v29.length : Nat) then
      if ((a0.getD (v17.getD (0 : Int).toNat 0).toNat []).getD v28.toNat 0).toNat < v29.length then
       if (decide ((v29.getD ((a0.getD (v17.getD (0 : Int).toNat 0).toNat []).getD v28.toNat 0).toNat 0) < 0)) = true then
        if (0 : Int) ≤ (v17.getD (0 : Int).toNat 0) ∧ (v17.getD (0 : Int).toNat 0) < (v29.length : Nat) then
         if (v17.getD (0 : Int).toNat 0).toNat < v29.length then
          if (0 : Int) ≤ ((a0.getD (v17.getD (0 : Int).toNat 0).toNat []).getD v28.toNat 0) ∧ ((a0.getD (v17.getD (0 : Int).toNat 0).toNat []).getD v28.toNat 0) < (v29.length : Nat) then
           if ((a0.getD (v17.getD (0 : Int).toNat 0).toNat []).getD v28.toNat 0).toNat < v29.length then
            if v30.length + ([((a0.getD (v17.getD (0 : Int).toNat 0).toNat []).getD v28.toNat 0)]).length ≤ 1073741824 then
             F46_j45 K (F46_l31 K a0 v17 a2 c35 k31) v28 (v29.set ((a0.getD (v17.getD (0 : Int).toNat 0).toNat []).getD v28.toNat 0).toNat (IntKind.i64.wrap ((v29.getD (v17.getD (0 : Int).toNat 0).toNat 0) + 1))) (v30 ++ ([((a0.getD (v17.getD (0 : Int).toNat 0).toNat []).getD v28.toNat 0)]))
            else none
           else none
          else none
         else none
        else none
       else
        F46_j45 K (F46_l31 K a0 v17 a2 c35 k31) v28 v29 v30
      else none
     else none
    else
     F46_j39 K (F46_l31 K a0 v17 a2 c35 k31) v28 v29 v30
   else none
  else
   c35 v29 v30
def F46_l18 (K : Nat) (a0 : (List (List Int))) (a2 : Int) (c21 : (List Int) → Option ((List Int))) : Nat → (List Int) → (List Int) → Option ((List Int))
 | 0, _, _ => none
 | k18 + 1, v16, v17 =>
  if (decide ((v17.length : Int) > 0)) = true then
   if (0 : Int) ≤ 0 ∧ (0 : Int) < (v17.length : Nat) then
    if (0 : Int).toNat < v17.length then
     if (0 : Int) ≤ 1 ∧ 1 ≤ (v17.length : Int) ∧ (v17.length : Int) ≤ (v17.length : Nat) then
      if (0 + (1 : Int).toNat) + ((v17.length : Int).toNat - (1 : Int).toNat) ≤ v17.length then
       if (0 : Int) ≤ (v17.getD (0 : Int).toNat 0) ∧ (v17.getD (0 : Int).toNat 0) < a0.length then
        if (0 + (1 : Int).toNat) + ((v17.length : Int).toNat - (1 : Int).toNat) ≤ v17.length then
         F46_l31 K a0 v17 a2 (F46_c34 K (F46_l18 K a0 a2 c21 k18)) K 0 v16 ((v17.drop (0 + (1 : Int).toNat)).take ((v17.length : Int).toNat - (1 : Int).toNat))
        else none
       else none
      else none
     else none
    else none
   else none
  else
   c21 v16
def F46_c14 (K : Nat) (a0 : (List (List Int))) (a2 : Int) (v12 : (List Int)) (v13 : (List Int)) : Option ((List Int)) :=
 F46_l18 K a0 a2 (F46_c20 K) K v12 v13
def F46_j55 (K : Nat) (b52 : Int → (List Int) → (List Int) → Option ((List Int))) (v8 : Int) (v53 : (List Int)) (v54 : (List Int)) : Option ((List Int)) :=
 b52 (IntKind.i64.wrap (v8 + 1)) v53 v54
def F46_j61 (K : Nat) (b52 : Int → (List Int) → (List Int) → Option ((List Int))) (v8 : Int) (v59 : (List Int)) (v60 : (List Int)) : Option ((List Int)) :=
 F46_j55 K b52 v8 v59 v60
def F46_l11 (K : Nat) (a1 : (List Int)) (a2 : Int) (c15 : (List Int) → (List Int) → Option ((List Int))) : Nat → Int → (List Int) → (List Int) → Option ((List Int))
 | 0, _, _, _ => none
 | k11 + 1, v8, v9, v10 =>
  if (decide (v8 < (a1.length : Int))) = true then
   if (0 : Int) ≤ v8 ∧ v8 < a1.length then
    if ((a1.getD v8.toNat 0) != a2) = true then
     if (0 : Int) ≤ (a1.getD v8.toNat 0) ∧ (a1.getD v8.toNat 0) < (v9.length : Nat) then
      if (a1.getD v8.toNat 0).toNat < v9.length then
       if (decide ((v9.getD (a1.getD v8.toNat 0).toNat 0) < 0)) = true then
        if (0 : Int) ≤ (a1.getD v8.toNat 0) ∧ (a1.getD v8.toNat 0) < (v9.length : Nat) then
         if (a1.getD v8.toNat 0).toNat < v9.length then
          if v10.length + [(a1.getD v8.toNat 0)].length ≤ 1073741824 then
           F46_j61 K (F46_l11 K a1 a2 c15 k11) v8 (v9.set (a1.getD v8.toNat 0).toNat 0) (v10 ++ [(a1.getD v8.toNat 0)])
          else none
         else none
        else none
       else
        F46_j61 K (F46_l11 K a1 a2 c15 k11) v8 v9 v10
      else none
     else none
    else
     F46_j55 K (F46_l11 K a1 a2 c15 k11) v8 v9 v10
   else none
  else
   c15 v9 v10
def F46_c6 (K : Nat) (a1 : (List Int)) (a2 : Int) (a0 : (List (List Int))) (v5 : (List Int)) : Option ((List Int)) :=
 F46_l11 K a1 a2 (F46_c14 K a0 a2) K 0 v5 []
def F46_l4 (K : Nat) (a0 : (List (List Int))) (c7 : (List Int) → Option ((List Int))) : Nat → Int → (List Int) → Option ((List Int))
 | 0, _, _ => none
 | k4 + 1, v2, v3 =>
  if (decide (v2 < ((List.replicate (a0.length : Int).toNat (0 : Int)).length : Int))) = true then
   if (0 : Int) ≤ v2 ∧ v2 < (v3.length : Nat) then
    if v2.toNat < v3.length then
     (F46_l4 K a0 c7 k4) (IntKind.i64.wrap (v2 + 1)) (v3.set v2.toNat (Int.negSucc 0))
    else none
   else none
  else
   c7 v3
def F46 (K : Nat) (a0 : (List (List Int))) (a1 : (List Int)) (a2 : Int) : Option ((List Int)) :=
 if (0 : Int) ≤ (a0.length : Int) ∧ (a0.length : Int) ≤ (a0.length : Int) ∧ (a0.length : Int) ≤ 1073741824 then
  F46_l4 K a0 (F46_c6 K a1 a2 a0) K 0 (List.replicate (a0.length : Int).toNat (0 : Int))
 else none
theorem F46_ok (K : Nat) (a0 : (List (List Int))) (a1 : (List Int)) (a2 : Int) (r : (List Int)) (h : F46 K a0 a1 a2 = some r) : ACall P 46 ⟨[(.sl 1 (a0.map Zg) false), (.sl 1 (a1.map Z8) false), (.int .i64 a2)], [], (.sl 1 (r.map Z8) false), [], []⟩ := by
 refine acall_of Try.func46 Try.results46 rfl Try.ntmps46 rfl rfl rfl ?_
 intro E Q hP hN hro hret
 obtain ⟨P', nt', w0, F0, p0, S0, β0, ro0⟩ := E
 simp only at hP hN
 subst hP hN
 dsimp only [argT]
 unfold F46 at h
 refine Zf <| Z6 <| Z1 I (Zh (v := (.sl 1 [] false)) I I) I <| Zb <| Ze <| Zf <| Z6 <| Z1 I (Z9 (v := (.sl 1 (a0.map Zg) false)) I I) I ?_
 refine Z1 I (stx_len (l := a0) (enc := Zg) I s46 I) I ?_
 have ⟨hg1, h⟩ := Zi h
 refine Z1 I (st_makeSlice (kx := .i64) (ky := .i64) (a := (a0.length : Int)) (c := (a0.length : Int)) (n := (a0.length : Int).toNat) I el29 I ze3 els_i64 I I I hg1 I) I <| Z1 I (Zh (v := (.vs 17)) I I) I <| Zb <| Ze <| Zf <| Zf <| Z6 <| Z1 I (Z9 (v := (.vs 17)) I I) I ?_
 refine Z1 I (stx_lenV (l := (List.replicate (a0.length : Int).toNat (0 : Int))) (enc := Z8) I u29 I I) I <| Z1 I (Z9 (v := (.int .i64 0)) I I) I <| Zb <| Ze <| AWp.ghost (st' := ⟨[(0, (.sl 1 (a0.map Zg) false)), (1, (.sl 1 (a1.map Z8) false)), (2, (.int .i64 a2)), (7, (.vs 7)), (19, (.int .i64 ((List.replicate (a0.length : Int).toNat (0 : Int)).length : Int))), (20, (.int .i64 0))], [(7, (.vec 1 (List.map Z8 (List.replicate (a0.length : Int).toNat (0 : Int)))))]⟩) (fun a w h => (Zp ⟨[(0, (.sl 1 (a0.map Zg) false)), (1, (.sl 1 (a1.map Z8) false)), (2, (.int .i64 a2)), (7, (.vs 7)), (19, (.int .i64 ((List.replicate (a0.length : Int).toNat (0 : Int)).length : Int))), (20, (.int .i64 0))], [(7, (.vec 1 (List.map Z8 (List.replicate (a0.length : Int).toNat (0 : Int)))))]⟩ (ghost_sw (a := 17) (b := 7) I I a w (Zp ⟨[(0, (.sl 1 (a0.map Zg) false)), (1, (.sl 1 (a1.map Z8) false)), (2, (.int .i64 a2)), (7, (.vs 17)), (19, (.int .i64 ((List.replicate (a0.length : Int).toNat (0 : Int)).length : Int))), (20, (.int .i64 0))], [(17, (.vec 1 (List.map Z8 (List.replicate (a0.length : Int).toNat (0 : Int)))))]⟩ h ⟨rfl, rfl, rfl, rfl, rfl, rfl, trivial⟩ ⟨rfl, trivial⟩)) ⟨rfl, rfl, rfl, rfl, rfl, rfl, trivial⟩ ⟨rfl, trivial⟩)) <| AWp.weaken (st' := ⟨[(0, (.sl 1 (a0.map Zg) false)), (1, (.sl 1 (a1.map Z8) false)), (2, (.int .i64 a2)), (7, (.vs 7)), (19, (.int .i64 ((List.replicate (a0.length : Int).toNat (0 : Int)).length : Int))), (20, (.int .i64 0))], [(7, (.vec 1 (List.map Z8 (List.replicate (a0.length : Int).toNat (0 : Int)))))]⟩) ⟨rfl, rfl, rfl, rfl, rfl, rfl, trivial⟩ ⟨rfl, trivial⟩ ?_
 refine Zw (V := Int × (List Int)) (X := (List Int)) (lp := fun k v => F46_l4 K a0 (F46_c6 K a1 a2 a0) k v.1 v.2 = some r) (sh := fun v => ⟨[(0, (.sl 1 (a0.map Zg) false)), (1, (.sl 1 (a1.map Z8) false)), (2, (.int .i64 a2)), (7, (.vs 7)), (19, (.int .i64 ((List.replicate (a0.length : Int).toNat (0 : Int)).length : Int))), (20, (.int .i64 v.1))], [(7, (.vec 1 (List.map Z8 v.2)))]⟩) (x := fun v => F46_c6 K a1 a2 a0 v = some r) (shx := fun v => ⟨[(0, (.sl 1 (a0.map Zg) false)), (1, (.sl 1 (a1.map Z8) false)), (2, (.int .i64 a2)), (7, (.vs 7))], [(7, (.vec 1 (List.map Z8 v)))]⟩) (k := K) (v := (0, (List.replicate (a0.length : Int).toNat (0 : Int)))) h ?_ ?_
 ·intro v h
  revert h
  revert v
  intro v5 h
  try dsimp only at h ⊢
  unfold F46_c6 at h
  refine Ze <| Zf <| Z6 <| Z1 I (Zh (v := (.sl 1 [] true)) I I) I <| Zb <| Ze <| Zf <| Zf ?_
  refine Z6 <| Z1 I (Z9 (v := (.sl 1 (a1.map Z8) false)) I I) I <| Z1 I (stx_len (l := a1) (enc := Z8) I s29 I) I <| Z1 I (Z9 (v := (.int .i64 0)) I I) I <| Zb <| Ze <| AWp.ghost (st' := ⟨[(0, (.sl 1 (a0.map Zg) false)), (2, (.int .i64 a2)), (7, (.vs 7)), (9, (.vs 9)), (27, (.sl 1 (a1.map Z8) false)), (28, (.int .i64 (a1.length : Int))), (29, (.int .i64 0))], [(7, (.vec 1 (List.map Z8 v5))), (9, (.vec 1 (List.map Z8 ([] : List Int))))]⟩) (fun a w h => (Zp ⟨[(0, (.sl 1 (a0.map Zg) false)), (2, (.int .i64 a2)), (7, (.vs 7)), (9, (.vs 9)), (27, (.sl 1 (a1.map Z8) false)), (28, (.int .i64 (a1.length : Int))), (29, (.int .i64 0))], [(7, (.vec 1 (List.map Z8 v5))), (9, (.vec 1 (List.map Z8 ([] : List Int))))]⟩ (ghost_own (k := 9) (m := 9) (sz := 1) I I a w (Zp ⟨[(9, (.sl 1 [] true)), (0, (.sl 1 (a0.map Zg) false)), (2, (.int .i64 a2)), (7, (.vs 7)), (27, (.sl 1 (a1.map Z8) false)), (28, (.int .i64 (a1.length : Int))), (29, (.int .i64 0))], [(7, (.vec 1 (List.map Z8 v5)))]⟩ h ⟨rfl, rfl, rfl, rfl, rfl, rfl, rfl, trivial⟩ ⟨rfl, trivial⟩)) ⟨rfl, rfl, rfl, rfl, rfl, rfl, rfl, trivial⟩ ⟨rfl, rfl, trivial⟩)) <| AWp.weaken (st' := ⟨[(0, (.sl 1 (a0.map Zg) false)), (2, (.int .i64 a2)), (7, (.vs 7)), (9, (.vs 9)), (27, (.sl 1 (a1.map Z8) false)), (28, (.int .i64 (a1.length : Int))), (29, (.int .i64 0))], [(7, (.vec 1 (List.map Z8 v5))), (9, (.vec 1 (List.map Z8 [])))]⟩) ⟨rfl, rfl, rfl, rfl, rfl, rfl, rfl, trivial⟩ ⟨rfl, rfl, trivial⟩ ?_
  refine Zw (V := Int × (List Int) × (List Int)) (X := (List Int) × (List Int)) (lp := fun k v => F46_l11 K a1 a2 (F46_c14 K a0 a2) k v.1 v.2.1 v.2.2 = some r) (sh := fun v => ⟨[(0, (.sl 1 (a0.map Zg) false)), (2, (.int .i64 a2)), (7, (.vs 7)), (9, (.vs 9)), (27, (.sl 1 (a1.map Z8) false)), (28, (.int .i64 (a1.length : Int))), (29, (.int .i64 v.1))], [(7, (.vec 1 (List.map Z8 v.2.1))), (9, (.vec 1 (List.map Z8 v.2.2)))]⟩) (x := fun v => F46_c14 K a0 a2 v.1 v.2 = some r) (shx := fun v => ⟨[(0, (.sl 1 (a0.map Zg) false)), (2, (.int .i64 a2)), (7, (.vs 7)), (9, (.vs 9))], [(7, (.vec 1 (List.map Z8 v.1))), (9, (.vec 1 (List.map Z8 v.2)))]⟩) (k := K) (v := (0, v5, [])) h ?_ ?_
  ·intro v h
   obtain ⟨v12, v13⟩ := v
   try dsimp only at h ⊢
   unfold F46_c14 at h
   refine Ze <| Zf <| AWp.weaken (st' := ⟨[(0, (.sl 1 (a0.map Zg) false)), (2, (.int .i64 a2)), (7, (.vs 7)), (9, (.vs 9))], [(7, (.vec 1 (List.map Z8 v12))), (9, (.vec 1 (List.map Z8 v13)))]⟩) ⟨rfl, rfl, rfl, rfl, trivial⟩ ⟨rfl, rfl, trivial⟩ ?_
   refine Zw (V := (List Int) × (List Int)) (X := (List Int)) (lp := fun k v => F46_l18 K a0 a2 (F46_c20 K) k v.1 v.2 = some r) (sh := fun v => ⟨[(0, (.sl 1 (a0.map Zg) false)), (2, (.int .i64 a2)), (7, (.vs 7)), (9, (.vs 9))], [(7, (.vec 1 (List.map Z8 v.1))), (9, (.vec 1 (List.map Z8 v.2)))]⟩) (x := fun v => F46_c20 K v = some r) (shx := fun v => ⟨[(7, (.vs 7))], [(7, (.vec 1 (List.map Z8 v)))]⟩) (k := K) (v := (v12, v13)) h ?_ ?_
   ·intro v h
    revert h
    revert v
    intro v19 h
    try dsimp only at h ⊢
    unfold F46_c20 at h
    refine Ze <| Zf <| Z6 <| Z1 I (Z9 (v := (.vs 7)) I I) I <| Z1 I (Zh (v := (.vs 7)) I I) I <| Zb <| Ze <| AWp.ret ?_
    refine At.ghost (st' := ⟨[(6, (.sl 1 (v19.map Z8) false))], []⟩) (fun a w h => (Zp ⟨[(6, (.sl 1 (v19.map Z8) false))], []⟩ (ghost_freeze (m := 7) (sz := 1) (es := (List.map Z8 v19)) a w (Zp ⟨[(6, (.vs 7))], [(7, (.vec 1 (List.map Z8 v19)))]⟩ h ⟨rfl, trivial⟩ ⟨rfl, trivial⟩)) ⟨rfl, trivial⟩ trivial)) ?_
    have h := Option.some.inj h
    subst h
    refine (hret _ ?_).1
    exact ⟨[(.sl 1 (v19.map Z8) false)], ⟨rfl, trivial⟩, rfl, trivial⟩
   ·intro N k18 v h IH18 J18
    obtain ⟨v16, v17⟩ := v
    try dsimp only at h IH18 J18 ⊢
    cases k18 with
    | zero => cases h
    | succ k18 =>
     rw [F46_l18] at h
     refine Zf <| Zf <| Z6 <| Z1 I (Z9 (v := (.vs 9)) I I) I <| Z1 I (stx_lenV (l := v17) (enc := Z8) I u29 I I) I <| Z1 I (st_cmp (k := .i64) (a := (v17.length : Int)) (b := 0) (c := (decide ((v17.length : Int) > 0))) I I I I) I <| Zb <| Ze ?_
     have hif := of_if h
     refine Zv I (fun hc => ?_) (fun hc => ?_)
     ·have h := hif.1 hc
      refine Zy <| Ze <| AWp.block <| Zf <| Z6 <| Z1 I (Z9 (v := (.vs 9)) I I) I ?_
      have ⟨hg23, h⟩ := Zi h
      refine Z1 I (st_indexV (k := .i64) (v := (.vs 9)) (n := 9) (off := 0) (len := v17.length) (es := (List.map Z8 v17)) (j := 0) (m := (0 : Int).toNat) I s29 I I (vecR_map _ _ _) I hg23 (Nat.zero_add _)) I ?_
      have ⟨hg24, h⟩ := Zi h
      refine Z1 I (st_loadV (l := v17) (enc := Z8) (z := 0) (v := (.int .i64 (v17.getD (0 : Int).toNat 0))) I o3 I I hg24 I) I <| Z1 I (Zh (v := (.int .i64 (v17.getD (0 : Int).toNat 0))) I I) I <| Zb <| Ze <| Zf <| Z6 <| Z1 I (Z9 (v := (.vs 9)) I I) I ?_
      have ⟨hg25, h⟩ := Zi h
      have ⟨hg26, h⟩ := Zi h
      refine Z1 I (stx_sliceVL (v := (.vs 9)) (n := 9) (off := 0) (len := v17.length) (l := v17) (enc := Z8) (kl := .i64) (lo := 1) I s29 I I (vecR_map _ _ _) I hg25 I) I <| Z1 I (Zh (v := (.vsub 9 (0 + (1 : Int).toNat) ((v17.length : Int).toNat - (1 : Int).toNat) false)) I I) I <| Zb <| Ze <| Zf <| Z6 <| Z1 I (Z9 (v := (.sl 1 (a0.map Zg) false)) I I) I <| Z1 I (Z9 (v := (.int .i64 (v17.getD (0 : Int).toNat 0))) I I) I ?_
      have ⟨hg27, h⟩ := Zi h
      refine Z1 I (st_index (k := .i64) (l := a0) (enc := Zg) (z := []) (n := (v17.getD (0 : Int).toNat 0)) (cs := [(.sl 1 ((a0.getD (v17.getD (0 : Int).toNat 0).toNat []).map Z8) false)]) (full := false) I s46 I I hg27 I) I <| Z1 I (st_loadI (cs := [(.sl 1 ((a0.getD (v17.getD (0 : Int).toNat 0).toNat []).map Z8) false)]) (v := (.sl 1 ((a0.getD (v17.getD (0 : Int).toNat 0).toNat []).map Z8) false)) I o29 I I) I <| Z1 I (stx_len (l := (a0.getD (v17.getD (0 : Int).toNat 0).toNat [])) (enc := Z8) I s29 I) I <| Z1 I (Z9 (v := (.int .i64 0)) I I) I <| Zb <| Ze ?_
      have ⟨hg51, h⟩ := Zi h
      refine AWp.ghost (st' := ⟨[(0, (.sl 1 (a0.map Zg) false)), (2, (.int .i64 a2)), (7, (.vs 7)), (9, (.vs 9)), (12, (.int .i64 (v17.getD (0 : Int).toNat 0))), (62, (.sl 1 ((a0.getD (v17.getD (0 : Int).toNat 0).toNat []).map Z8) false)), (63, (.int .i64 ((a0.getD (v17.getD (0 : Int).toNat 0).toNat []).length : Int))), (64, (.int .i64 0))], [(7, (.vec 1 (List.map Z8 v16))), (9, (.vec 1 (List.map Z8 ((v17.drop (0 + (1 : Int).toNat)).take ((v17.length : Int).toNat - (1 : Int).toNat)))))]⟩) (fun a w h => (Zp ⟨[(0, (.sl 1 (a0.map Zg) false)), (2, (.int .i64 a2)), (7, (.vs 7)), (9, (.vs 9)), (12, (.int .i64 (v17.getD (0 : Int).toNat 0))), (62, (.sl 1 ((a0.getD (v17.getD (0 : Int).toNat 0).toNat []).map Z8) false)), (63, (.int .i64 ((a0.getD (v17.getD (0 : Int).toNat 0).toNat []).length : Int))), (64, (.int .i64 0))], [(7, (.vec 1 (List.map Z8 v16))), (9, (.vec 1 (List.map Z8 ((v17.drop (0 + (1 : Int).toNat)).take ((v17.length : Int).toNat - (1 : Int).toNat)))))]⟩ (ghost_trunc (k := 9) (m := 9) (sz := 1) (off := (0 + (1 : Int).toNat)) (len := ((v17.length : Int).toNat - (1 : Int).toNat)) (enc := Z8) (l := v17) I hg51 a w (Zp ⟨[(9, (.vsub 9 (0 + (1 : Int).toNat) ((v17.length : Int).toNat - (1 : Int).toNat) false)), (0, (.sl 1 (a0.map Zg) false)), (2, (.int .i64 a2)), (7, (.vs 7)), (12, (.int .i64 (v17.getD (0 : Int).toNat 0))), (62, (.sl 1 ((a0.getD (v17.getD (0 : Int).toNat 0).toNat []).map Z8) false)), (63, (.int .i64 ((a0.getD (v17.getD (0 : Int).toNat 0).toNat []).length : Int))), (64, (.int .i64 0))], [(9, (.vec 1 (List.map Z8 v17))), (7, (.vec 1 (List.map Z8 v16)))]⟩ h ⟨rfl, rfl, rfl, rfl, rfl, rfl, rfl, rfl, trivial⟩ ⟨rfl, rfl, trivial⟩)) ⟨rfl, rfl, rfl, rfl, rfl, rfl, rfl, rfl, trivial⟩ ⟨rfl, rfl, trivial⟩)) <| AWp.weaken (st' := ⟨[(0, (.sl 1 (a0.map Zg) false)), (2, (.int .i64 a2)), (7, (.vs 7)), (9, (.vs 9)), (12, (.int .i64 (v17.getD (0 : Int).toNat 0))), (62, (.sl 1 ((a0.getD (v17.getD (0 : Int).toNat 0).toNat []).map Z8) false)), (63, (.int .i64 ((a0.getD (v17.getD (0 : Int).toNat 0).toNat []).length : Int))), (64, (.int .i64 0))], [(7, (.vec 1 (List.map Z8 v16))), (9, (.vec 1 (List.map Z8 ((v17.drop (0 + (1 : Int).toNat)).take ((v17.length : Int).toNat - (1 : Int).toNat)))))]⟩) ⟨rfl, rfl, rfl, rfl, rfl, rfl, rfl, rfl, trivial⟩ ⟨rfl, rfl, trivial⟩ ?_
      refine Zw (V := Int × (List Int) × (List Int)) (X := (List Int) × (List Int)) (lp := fun k v => F46_l31 K a0 v17 a2 (F46_c34 K (F46_l18 K a0 a2 (F46_c20 K) k18)) k v.1 v.2.1 v.2.2 = some r) (sh := fun v => ⟨[(0, (.sl 1 (a0.map Zg) false)), (2, (.int .i64 a2)), (7, (.vs 7)), (9, (.vs 9)), (12, (.int .i64 (v17.getD (0 : Int).toNat 0))), (62, (.sl 1 ((a0.getD (v17.getD (0 : Int).toNat 0).toNat []).map Z8) false)), (63, (.int .i64 ((a0.getD (v17.getD (0 : Int).toNat 0).toNat []).length : Int))), (64, (.int .i64 v.1))], [(7, (.vec 1 (List.map Z8 v.2.1))), (9, (.vec 1 (List.map Z8 v.2.2)))]⟩) (x := fun v => F46_c34 K (F46_l18 K a0 a2 (F46_c20 K) k18) v.1 v.2 = some r) (shx := fun v => ⟨[(0, (.sl 1 (a0.map Zg) false)), (2, (.int .i64 a2)), (7, (.vs 7)), (9, (.vs 9))], [(7, (.vec 1 (List.map Z8 v.1))), (9, (.vec 1 (List.map Z8 v.2)))]⟩) (k := K) (v := (0, v16, ((v17.drop (0 + (1 : Int).toNat)).take ((v17.length : Int).toNat - (1 : Int).toNat)))) h ?_ ?_
      ·intro v h
       obtain ⟨v32, v33⟩ := v
       try dsimp only at h ⊢
       unfold F46_c34 at h
       refine At.end ?_
       exact Zl (st' := ⟨[(0, (.sl 1 (a0.map Zg) false)), (2, (.int .i64 a2)), (7, (.vs 7)), (9, (.vs 9))], [(7, (.vec 1 (List.map Z8 v32))), (9, (.vec 1 (List.map Z8 v33)))]⟩) ⟨rfl, rfl, rfl, rfl, trivial⟩ ⟨rfl, rfl, trivial⟩ (IH18 _ (v32, v33) (Nat.lt_succ_self _) h)
      ·intro N k31 v h IH31 J31
       obtain ⟨v28, v29, v30⟩ := v
       try dsimp only at h IH31 J31 ⊢
       cases k31 with
       | zero => cases h
       | succ k31 =>
        rw [F46_l31] at h
        refine Zf <| Z6 <| Z1 I (st_cmp (k := .i64) (a := v28) (b := ((a0.getD (v17.getD (0 : Int).toNat 0).toNat []).length : Int)) (c := (decide (v28 < ((a0.getD (v17.getD (0 : Int).toNat 0).toNat []).length : Int)))) I I I I) I <| Zb <| Ze <| Zf ?_
        have hif := of_if h
        refine Zv I (fun hc => ?_) (fun hc => ?_)
        ·have h := hif.1 hc
         refine Zy <| Ze <| Zf ?_
         refine AWp.blockJoin (V := (List Int) × (List Int)) (lp := fun v => F46_j39 K (F46_l31 K a0 v17 a2 (F46_c34 K (F46_l18 K a0 a2 (F46_c20 K) k18)) k31) v28 v.1 v.2 = some r) (sh := fun v => ⟨[(0, (.sl 1 (a0.map Zg) false)), (2, (.int .i64 a2)), (7, (.vs 7)), (9, (.vs 9)), (12, (.int .i64 (v17.getD (0 : Int).toNat 0))), (62, (.sl 1 ((a0.getD (v17.getD (0 : Int).toNat 0).toNat []).map Z8) false)), (63, (.int .i64 ((a0.getD (v17.getD (0 : Int).toNat 0).toNat []).length : Int))), (64, (.int .i64 v28))], [(7, (.vec 1 (List.map Z8 v.1))), (9, (.vec 1 (List.map Z8 v.2)))]⟩) ?_ ?_
         ·intro v h
          obtain ⟨v37, v38⟩ := v
          try dsimp only at h ⊢
          unfold F46_j39 at h
          refine Ze <| Z6 <| Z1 I (st_arith (k := .i64) (a := v28) (b := 1) (c := (IntKind.i64.wrap (v28 + 1))) I I I I) I <| Z1 I (Z9 (v := (.int .i64 (IntKind.i64.wrap (v28 + 1)))) I I) I <| Zb ?_
          exact Zl (st' := ⟨[(0, (.sl 1 (a0.map Zg) false)), (2, (.int .i64 a2)), (7, (.vs 7)), (9, (.vs 9)), (12, (.int .i64 (v17.getD (0 : Int).toNat 0))), (62, (.sl 1 ((a0.getD (v17.getD (0 : Int).toNat 0).toNat []).map Z8) false)), (63, (.int .i64 ((a0.getD (v17.getD (0 : Int).toNat 0).toNat []).length : Int))), (64, (.int .i64 (IntKind.i64.wrap (v28 + 1))))], [(7, (.vec 1 (List.map Z8 v37))), (9, (.vec 1 (List.map Z8 v38)))]⟩) ⟨rfl, rfl, rfl, rfl, rfl, rfl, rfl, rfl, trivial⟩ ⟨rfl, rfl, trivial⟩ (IH31 _ ((IntKind.i64.wrap (v28 + 1)), v37, v38) (Nat.lt_succ_self _) h)
         ·intro J39
          refine Zf <| Z6 ?_
          have ⟨hg40, h⟩ := Zi h
          refine Z1 I (st_index (k := .i64) (l := (a0.getD (v17.getD (0 : Int).toNat 0).toNat [])) (enc := Z8) (z := 0) (n := v28) (cs := [(.int .i64 ((a0.getD (v17.getD (0 : Int).toNat 0).toNat []).getD v28.toNat 0))]) (full := false) I s29 I I hg40 I) I <| Z1 I (st_loadI (cs := [(.int .i64 ((a0.getD (v17.getD (0 : Int).toNat 0).toNat []).getD v28.toNat 0))]) (v := (.int .i64 ((a0.getD (v17.getD (0 : Int).toNat 0).toNat []).getD v28.toNat 0))) I o3 I I) I <| Z1 I (Zh (v := (.int .i64 ((a0.getD (v17.getD (0 : Int).toNat 0).toNat []).getD v28.toNat 0))) I I) I <| Zb <| Ze <| Zf <| Z6 <| Z1 I (Z9 (v := (.int .i64 ((a0.getD (v17.getD (0 : Int).toNat 0).toNat []).getD v28.toNat 0))) I I) I ?_
          refine Z1 I (Z9 (v := (.int .i64 a2)) I I) I <| Z1 I (st_cmp (k := .i64) (a := ((a0.getD (v17.getD (0 : Int).toNat 0).toNat []).getD v28.toNat 0)) (b := a2) (c := (((a0.getD (v17.getD (0 : Int).toNat 0).toNat []).getD v28.toNat 0) != a2)) I I I I) I <| Z1 I (Z9 (v := (.bool (((a0.getD (v17.getD (0 : Int).toNat 0).toNat []).getD v28.toNat 0) != a2))) I I) I ?_
          have hif := of_if h
          refine AOps.split (fun hc => ?_) (fun hc => ?_)
          ·have h := hif.1 hc
           refine Zj I I I I (Z9 (v := (.vs 7)) I I) I <| Zj I I I I (Z9 (v := (.int .i64 ((a0.getD (v17.getD (0 : Int).toNat 0).toNat []).getD v28.toNat 0))) I I) I ?_
           have ⟨hg41, h⟩ := Zi h
           refine Zj I I I I (st_indexV (k := .i64) (v := (.vs 7)) (n := 7) (off := 0) (len := v29.length) (es := (List.map Z8 v29)) (j := ((a0.getD (v17.getD (0 : Int).toNat 0).toNat []).getD v28.toNat 0)) (m := ((a0.getD (v17.getD (0 : Int).toNat 0).toNat []).getD v28.toNat 0).toNat) I s29 I I (vecR_map _ _ _) I hg41 (Nat.zero_add _)) I ?_
           have ⟨hg42, h⟩ := Zi h
           refine Zj I I I I (st_loadV (l := v29) (enc := Z8) (z := 0) (v := (.int .i64 (v29.getD ((a0.getD (v17.getD (0 : Int).toNat 0).toNat []).getD v28.toNat 0).toNat 0))) I o3 I I hg42 I) I <| Zj I I I I (st_cmp (k := .i64) (a := (v29.getD ((a0.getD (v17.getD (0 : Int).toNat 0).toNat []).getD v28.toNat 0).toNat 0)) (b := 0) (c := (decide ((v29.getD ((a0.getD (v17.getD (0 : Int).toNat 0).toNat []).getD v28.toNat 0).toNat 0) < 0))) I I I I) I <| Z1 I (Zz (v := (.bool (decide ((v29.getD ((a0.getD (v17.getD (0 : Int).toNat 0).toNat []).getD v28.toNat 0).toNat 0) < 0)))) I I I) I <| Zb <| Ze ?_
           refine AWp.join (V := (List Int) × (List Int)) (lp := fun v => F46_j45 K (F46_l31 K a0 v17 a2 (F46_c34 K (F46_l18 K a0 a2 (F46_c20 K) k18)) k31) v28 v.1 v.2 = some r) (sh := fun v => ⟨[(0, (.sl 1 (a0.map Zg) false)), (2, (.int .i64 a2)), (7, (.vs 7)), (9, (.vs 9)), (12, (.int .i64 (v17.getD (0 : Int).toNat 0))), (62, (.sl 1 ((a0.getD (v17.getD (0 : Int).toNat 0).toNat []).map Z8) false)), (63, (.int .i64 ((a0.getD (v17.getD (0 : Int).toNat 0).toNat []).length : Int))), (64, (.int .i64 v28))], [(7, (.vec 1 (List.map Z8 v.1))), (9, (.vec 1 (List.map Z8 v.2)))]⟩) ?_ ?_
           ·intro v h
            obtain ⟨v43, v44⟩ := v
            try dsimp only at h ⊢
            unfold F46_j45 at h
            refine At.end ?_
            exact Zl (st' := ⟨[(0, (.sl 1 (a0.map Zg) false)), (2, (.int .i64 a2)), (7, (.vs 7)), (9, (.vs 9)), (12, (.int .i64 (v17.getD (0 : Int).toNat 0))), (62, (.sl 1 ((a0.getD (v17.getD (0 : Int).toNat 0).toNat []).map Z8) false)), (63, (.int .i64 ((a0.getD (v17.getD (0 : Int).toNat 0).toNat []).length : Int))), (64, (.int .i64 v28))], [(7, (.vec 1 (List.map Z8 v43))), (9, (.vec 1 (List.map Z8 v44)))]⟩) ⟨rfl, rfl, rfl, rfl, rfl, rfl, rfl, rfl, trivial⟩ ⟨rfl, rfl, trivial⟩ (J39 (v43, v44) h)
           ·intro J45
            have hif := of_if h
            refine Zv I (fun hc => ?_) (fun hc => ?_)
            ·have h := hif.1 hc
             refine Zf <| Z6 <| Z1 I (Z9 (v := (.vs 7)) I I) I <| Z1 I (Z9 (v := (.int .i64 ((a0.getD (v17.getD (0 : Int).toNat 0).toNat []).getD v28.toNat 0))) I I) I <| Z1 I (Z9 (v := (.vs 7)) I I) I <| Z1 I (Z9 (v := (.int .i64 (v17.getD (0 : Int).toNat 0))) I I) I ?_
             have ⟨hg46, h⟩ := Zi h
             refine Z1 I (st_indexV (k := .i64) (v := (.vs 7)) (n := 7) (off := 0) (len := v29.length) (es := (List.map Z8 v29)) (j := (v17.getD (0 : Int).toNat 0)) (m := (v17.getD (0 : Int).toNat 0).toNat) I s29 I I (vecR_map _ _ _) I hg46 (Nat.zero_add _)) I ?_
             have ⟨hg47, h⟩ := Zi h
             refine Z1 I (st_loadV (l := v29) (enc := Z8) (z := 0) (v := (.int .i64 (v29.getD (v17.getD (0 : Int).toNat 0).toNat 0))) I o3 I I hg47 I) I <| Z1 I (st_arith (k := .i64) (a := (v29.getD (v17.getD (0 : Int).toNat 0).toNat 0)) (b := 1) (c := (IntKind.i64.wrap ((v29.getD (v17.getD (0 : Int).toNat 0).toNat 0) + 1))) I I I I) I ?_
             have ⟨hg48, h⟩ := Zi h
             refine Z1 I (st_indexV (k := .i64) (v := (.vs 7)) (n := 7) (off := 0) (len := v29.length) (es := (List.map Z8 v29)) (j := ((a0.getD (v17.getD (0 : Int).toNat 0).toNat []).getD v28.toNat 0)) (m := ((a0.getD (v17.getD (0 : Int).toNat 0).toNat []).getD v28.toNat 0).toNat) I s29 I I (vecR_map _ _ _) I hg48 (Nat.zero_add _)) I ?_
             have ⟨hg49, h⟩ := Zi h
             refine Z1 I (st_storeV (l := v29) (enc := Z8) (z := 0) (a := (IntKind.i64.wrap ((v29.getD (v17.getD (0 : Int).toNat 0).toNat 0) + 1))) (v := (.int .i64 (IntKind.i64.wrap ((v29.getD (v17.getD (0 : Int).toNat 0).toNat 0) + 1)))) sz3 I I hg49 I els_i64 I I I I) I <| Zb <| Ze <| Z6 <| Z1 I (Z9 (v := (.vs 9)) I I) I <| Z1 I (Z9 (v := (.int .i64 ((a0.getD (v17.getD (0 : Int).toNat 0).toNat []).getD v28.toNat 0))) I I) I <| Z1 I (stx_buildSlice (vs := [(.int .i64 ((a0.getD (v17.getD (0 : Int).toNat 0).toNat []).getD v28.toNat 0))]) (enc := Z8) (l := [((a0.getD (v17.getD (0 : Int).toNat 0).toNat []).getD v28.toNat 0)]) I el29 I I ⟨rfl, trivial⟩ I els_i64 I I I I) I ?_
             have ⟨hg50, h⟩ := Zi h
             refine Z1 I (st_append (m := 9) (enc := Z8) (l := v30) (l' := ([((a0.getD (v17.getD (0 : Int).toNat 0).toNat []).getD v28.toNat 0)])) (src := (.vs 88)) (rd := [(88, (.vec 1 (List.map Z8 ([((a0.getD (v17.getD (0 : Int).toNat 0).toNat []).getD v28.toNat 0)]))))]) I I el29 I u29 I I I I (oneRead I) els_i64 hg50) I <| Z1 I (Zh (v := (.vs 9)) I I) I <| Zb ?_
             exact Zl (st' := ⟨[(0, (.sl 1 (a0.map Zg) false)), (2, (.int .i64 a2)), (7, (.vs 7)), (9, (.vs 9)), (12, (.int .i64 (v17.getD (0 : Int).toNat 0))), (62, (.sl 1 ((a0.getD (v17.getD (0 : Int).toNat 0).toNat []).map Z8) false)), (63, (.int .i64 ((a0.getD (v17.getD (0 : Int).toNat 0).toNat []).length : Int))), (64, (.int .i64 v28))], [(7, (.vec 1 (List.map Z8 (v29.set ((a0.getD (v17.getD (0 : Int).toNat 0).toNat []).getD v28.toNat 0).toNat (IntKind.i64.wrap ((v29.getD (v17.getD (0 : Int).toNat 0).toNat 0) + 1)))))), (9, (.vec 1 (List.map Z8 (v30 ++ ([((a0.getD (v17.getD (0 : Int).toNat 0).toNat []).getD v28.toNat 0)])))))]⟩) ⟨rfl, rfl, rfl, rfl, rfl, rfl, rfl, rfl, trivial⟩ ⟨rfl, rfl, trivial⟩ (J45 ((v29.set ((a0.getD (v17.getD (0 : Int).toNat 0).toNat []).getD v28.toNat 0).toNat (IntKind.i64.wrap ((v29.getD (v17.getD (0 : Int).toNat 0).toNat 0) + 1))), (v30 ++ ([((a0.getD (v17.getD (0 : Int).toNat 0).toNat []).getD v28.toNat 0)]))) h)
            ·have h := hif.2 hc
             refine Zy ?_
             exact Zl (st' := ⟨[(0, (.sl 1 (a0.map Zg) false)), (2, (.int .i64 a2)), (7, (.vs 7)), (9, (.vs 9)), (12, (.int .i64 (v17.getD (0 : Int).toNat 0))), (62, (.sl 1 ((a0.getD (v17.getD (0 : Int).toNat 0).toNat []).map Z8) false)), (63, (.int .i64 ((a0.getD (v17.getD (0 : Int).toNat 0).toNat []).length : Int))), (64, (.int .i64 v28))], [(7, (.vec 1 (List.map Z8 v29))), (9, (.vec 1 (List.map Z8 v30)))]⟩) ⟨rfl, rfl, rfl, rfl, rfl, rfl, rfl, rfl, trivial⟩ ⟨rfl, rfl, trivial⟩ (J45 (v29, v30) h)
          ·have h := hif.2 hc
           refine Z5 I I I I I I I <| Z5 I I I I I I I <| Z5 I I I I I I I <| Z5 I I I I I I I <| Z5 I I I I I I I <| Z1 I (Zx (v := (.bool false)) I I I) I <| Zb <| Ze ?_
           refine Zv (b := false) I (fun hc => ?_) (fun hc => ?_)
           ·cases hc
           refine Zy <| At.end ?_
           exact Zl (st' := ⟨[(0, (.sl 1 (a0.map Zg) false)), (2, (.int .i64 a2)), (7, (.vs 7)), (9, (.vs 9)), (12, (.int .i64 (v17.getD (0 : Int).toNat 0))), (62, (.sl 1 ((a0.getD (v17.getD (0 : Int).toNat 0).toNat []).map Z8) false)), (63, (.int .i64 ((a0.getD (v17.getD (0 : Int).toNat 0).toNat []).length : Int))), (64, (.int .i64 v28))], [(7, (.vec 1 (List.map Z8 v29))), (9, (.vec 1 (List.map Z8 v30)))]⟩) ⟨rfl, rfl, rfl, rfl, rfl, rfl, rfl, rfl, trivial⟩ ⟨rfl, rfl, trivial⟩ (J39 (v29, v30) h)
        ·have h := hif.2 hc
         refine AWp.exit <| At.thru ?_
         exact Zl (st' := ⟨[(0, (.sl 1 (a0.map Zg) false)), (2, (.int .i64 a2)), (7, (.vs 7)), (9, (.vs 9))], [(7, (.vec 1 (List.map Z8 v29))), (9, (.vec 1 (List.map Z8 v30)))]⟩) ⟨rfl, rfl, rfl, rfl, trivial⟩ ⟨rfl, rfl, trivial⟩ (J31 (v29, v30) h)
     ·have h := hif.2 hc
      refine AWp.exit <| At.thru ?_
      exact Zl (st' := ⟨[(7, (.vs 7))], [(7, (.vec 1 (List.map Z8 v16)))]⟩) ⟨rfl, trivial⟩ ⟨rfl, trivial⟩ (J18 v16 h)
  ·intro N k11 v h IH11 J11
   obtain ⟨v8, v9, v10⟩ := v
   try dsimp only at h IH11 J11 ⊢
   cases k11 with
   | zero => cases h
   | succ k11 =>
    rw [F46_l11] at h
    refine Zf <| Z6 <| Z1 I (st_cmp (k := .i64) (a := v8) (b := (a1.length : Int)) (c := (decide (v8 < (a1.length : Int)))) I I I I) I <| Zb <| Ze <| Zf ?_
    have hif := of_if h
    refine Zv I (fun hc => ?_) (fun hc => ?_)
    ·have h := hif.1 hc
     refine Zy <| Ze <| Zf ?_
     refine AWp.blockJoin (V := (List Int) × (List Int)) (lp := fun v => F46_j55 K (F46_l11 K a1 a2 (F46_c14 K a0 a2) k11) v8 v.1 v.2 = some r) (sh := fun v => ⟨[(0, (.sl 1 (a0.map Zg) false)), (2, (.int .i64 a2)), (7, (.vs 7)), (9, (.vs 9)), (27, (.sl 1 (a1.map Z8) false)), (28, (.int .i64 (a1.length : Int))), (29, (.int .i64 v8))], [(7, (.vec 1 (List.map Z8 v.1))), (9, (.vec 1 (List.map Z8 v.2)))]⟩) ?_ ?_
     ·intro v h
      obtain ⟨v53, v54⟩ := v
      try dsimp only at h ⊢
      unfold F46_j55 at h
      refine Ze <| Z6 <| Z1 I (st_arith (k := .i64) (a := v8) (b := 1) (c := (IntKind.i64.wrap (v8 + 1))) I I I I) I <| Z1 I (Z9 (v := (.int .i64 (IntKind.i64.wrap (v8 + 1)))) I I) I <| Zb ?_
      exact Zl (st' := ⟨[(0, (.sl 1 (a0.map Zg) false)), (2, (.int .i64 a2)), (7, (.vs 7)), (9, (.vs 9)), (27, (.sl 1 (a1.map Z8) false)), (28, (.int .i64 (a1.length : Int))), (29, (.int .i64 (IntKind.i64.wrap (v8 + 1))))], [(7, (.vec 1 (List.map Z8 v53))), (9, (.vec 1 (List.map Z8 v54)))]⟩) ⟨rfl, rfl, rfl, rfl, rfl, rfl, rfl, trivial⟩ ⟨rfl, rfl, trivial⟩ (IH11 _ ((IntKind.i64.wrap (v8 + 1)), v53, v54) (Nat.lt_succ_self _) h)
     ·intro J55
      refine Zf <| Z6 ?_
      have ⟨hg56, h⟩ := Zi h
      refine Z1 I (st_index (k := .i64) (l := a1) (enc := Z8) (z := 0) (n := v8) (cs := [(.int .i64 (a1.getD v8.toNat 0))]) (full := false) I s29 I I hg56 I) I <| Z1 I (st_loadI (cs := [(.int .i64 (a1.getD v8.toNat 0))]) (v := (.int .i64 (a1.getD v8.toNat 0))) I o3 I I) I <| Z1 I (Zh (v := (.int .i64 (a1.getD v8.toNat 0))) I I) I <| Zb <| Ze <| Zf <| Z6 <| Z1 I (Z9 (v := (.int .i64 (a1.getD v8.toNat 0))) I I) I ?_
      refine Z1 I (Z9 (v := (.int .i64 a2)) I I) I <| Z1 I (st_cmp (k := .i64) (a := (a1.getD v8.toNat 0)) (b := a2) (c := ((a1.getD v8.toNat 0) != a2)) I I I I) I <| Z1 I (Z9 (v := (.bool ((a1.getD v8.toNat 0) != a2))) I I) I ?_
      have hif := of_if h
      refine AOps.split (fun hc => ?_) (fun hc => ?_)
      ·have h := hif.1 hc
       refine Zj I I I I (Z9 (v := (.vs 7)) I I) I <| Zj I I I I (Z9 (v := (.int .i64 (a1.getD v8.toNat 0))) I I) I ?_
       have ⟨hg57, h⟩ := Zi h
       refine Zj I I I I (st_indexV (k := .i64) (v := (.vs 7)) (n := 7) (off := 0) (len := v9.length) (es := (List.map Z8 v9)) (j := (a1.getD v8.toNat 0)) (m := (a1.getD v8.toNat 0).toNat) I s29 I I (vecR_map _ _ _) I hg57 (Nat.zero_add _)) I ?_
       have ⟨hg58, h⟩ := Zi h
       refine Zj I I I I (st_loadV (l := v9) (enc := Z8) (z := 0) (v := (.int .i64 (v9.getD (a1.getD v8.toNat 0).toNat 0))) I o3 I I hg58 I) I <| Zj I I I I (st_cmp (k := .i64) (a := (v9.getD (a1.getD v8.toNat 0).toNat 0)) (b := 0) (c := (decide ((v9.getD (a1.getD v8.toNat 0).toNat 0) < 0))) I I I I) I <| Z1 I (Zz (v := (.bool (decide ((v9.getD (a1.getD v8.toNat 0).toNat 0) < 0)))) I I I) I <| Zb <| Ze ?_
       refine AWp.join (V := (List Int) × (List Int)) (lp := fun v => F46_j61 K (F46_l11 K a1 a2 (F46_c14 K a0 a2) k11) v8 v.1 v.2 = some r) (sh := fun v => ⟨[(0, (.sl 1 (a0.map Zg) false)), (2, (.int .i64 a2)), (7, (.vs 7)), (9, (.vs 9)), (27, (.sl 1 (a1.map Z8) false)), (28, (.int .i64 (a1.length : Int))), (29, (.int .i64 v8))], [(7, (.vec 1 (List.map Z8 v.1))), (9, (.vec 1 (List.map Z8 v.2)))]⟩) ?_ ?_
       ·intro v h
        obtain ⟨v59, v60⟩ := v
        try dsimp only at h ⊢
        unfold F46_j61 at h
        refine At.end ?_
        exact Zl (st' := ⟨[(0, (.sl 1 (a0.map Zg) false)), (2, (.int .i64 a2)), (7, (.vs 7)), (9, (.vs 9)), (27, (.sl 1 (a1.map Z8) false)), (28, (.int .i64 (a1.length : Int))), (29, (.int .i64 v8))], [(7, (.vec 1 (List.map Z8 v59))), (9, (.vec 1 (List.map Z8 v60)))]⟩) ⟨rfl, rfl, rfl, rfl, rfl, rfl, rfl, trivial⟩ ⟨rfl, rfl, trivial⟩ (J55 (v59, v60) h)
       ·intro J61
        have hif := of_if h
        refine Zv I (fun hc => ?_) (fun hc => ?_)
        ·have h := hif.1 hc
         refine Zf <| Z6 <| Z1 I (Z9 (v := (.vs 7)) I I) I <| Z1 I (Z9 (v := (.int .i64 (a1.getD v8.toNat 0))) I I) I ?_
         have ⟨hg62, h⟩ := Zi h
         refine Z1 I (st_indexV (k := .i64) (v := (.vs 7)) (n := 7) (off := 0) (len := v9.length) (es := (List.map Z8 v9)) (j := (a1.getD v8.toNat 0)) (m := (a1.getD v8.toNat 0).toNat) I s29 I I (vecR_map _ _ _) I hg62 (Nat.zero_add _)) I ?_
         have ⟨hg63, h⟩ := Zi h
         refine Z1 I (st_storeV (l := v9) (enc := Z8) (z := 0) (a := 0) (v := (.int .i64 0)) sz3 I I hg63 I els_i64 I I I I) I <| Zb <| Ze <| Z6 <| Z1 I (Z9 (v := (.vs 9)) I I) I <| Z1 I (Z9 (v := (.int .i64 (a1.getD v8.toNat 0))) I I) I <| Z1 I (stx_buildSlice (vs := [(.int .i64 (a1.getD v8.toNat 0))]) (enc := Z8) (l := [(a1.getD v8.toNat 0)]) I el29 I I ⟨rfl, trivial⟩ I els_i64 I I I I) I ?_
         have ⟨hg64, h⟩ := Zi h
         refine Z1 I (st_append (m := 9) (enc := Z8) (l := v10) (l' := [(a1.getD v8.toNat 0)]) (src := (.vs 48)) (rd := [(48, (.vec 1 (List.map Z8 [(a1.getD v8.toNat 0)])))]) I I el29 I u29 I I I I (oneRead I) els_i64 hg64) I <| Z1 I (Zh (v := (.vs 9)) I I) I <| Zb ?_
         exact Zl (st' := ⟨[(0, (.sl 1 (a0.map Zg) false)), (2, (.int .i64 a2)), (7, (.vs 7)), (9, (.vs 9)), (27, (.sl 1 (a1.map Z8) false)), (28, (.int .i64 (a1.length : Int))), (29, (.int .i64 v8))], [(7, (.vec 1 (List.map Z8 (v9.set (a1.getD v8.toNat 0).toNat 0)))), (9, (.vec 1 (List.map Z8 (v10 ++ [(a1.getD v8.toNat 0)]))))]⟩) ⟨rfl, rfl, rfl, rfl, rfl, rfl, rfl, trivial⟩ ⟨rfl, rfl, trivial⟩ (J61 ((v9.set (a1.getD v8.toNat 0).toNat 0), (v10 ++ [(a1.getD v8.toNat 0)])) h)
        ·have h := hif.2 hc
         refine Zy ?_
         exact Zl (st' := ⟨[(0, (.sl 1 (a0.map Zg) false)), (2, (.int .i64 a2)), (7, (.vs 7)), (9, (.vs 9)), (27, (.sl 1 (a1.map Z8) false)), (28, (.int .i64 (a1.length : Int))), (29, (.int .i64 v8))], [(7, (.vec 1 (List.map Z8 v9))), (9, (.vec 1 (List.map Z8 v10)))]⟩) ⟨rfl, rfl, rfl, rfl, rfl, rfl, rfl, trivial⟩ ⟨rfl, rfl, trivial⟩ (J61 (v9, v10) h)
      ·have h := hif.2 hc
       refine Z5 I I I I I I I <| Z5 I I I I I I I <| Z5 I I I I I I I <| Z5 I I I I I I I <| Z5 I I I I I I I <| Z1 I (Zx (v := (.bool false)) I I I) I <| Zb <| Ze ?_
       refine Zv (b := false) I (fun hc => ?_) (fun hc => ?_)
       ·cases hc
       refine Zy <| At.end ?_
       exact Zl (st' := ⟨[(0, (.sl 1 (a0.map Zg) false)), (2, (.int .i64 a2)), (7, (.vs 7)), (9, (.vs 9)), (27, (.sl 1 (a1.map Z8) false)), (28, (.int .i64 (a1.length : Int))), (29, (.int .i64 v8))], [(7, (.vec 1 (List.map Z8 v9))), (9, (.vec 1 (List.map Z8 v10)))]⟩) ⟨rfl, rfl, rfl, rfl, rfl, rfl, rfl, trivial⟩ ⟨rfl, rfl, trivial⟩ (J55 (v9, v10) h)
    ·have h := hif.2 hc
     refine AWp.exit <| At.thru ?_
     exact Zl (st' := ⟨[(0, (.sl 1 (a0.map Zg) false)), (2, (.int .i64 a2)), (7, (.vs 7)), (9, (.vs 9))], [(7, (.vec 1 (List.map Z8 v9))), (9, (.vec 1 (List.map Z8 v10)))]⟩) ⟨rfl, rfl, rfl, rfl, trivial⟩ ⟨rfl, rfl, trivial⟩ (J11 (v9, v10) h)
 ·intro N k4 v h IH4 J4
  obtain ⟨v2, v3⟩ := v
  try dsimp only at h IH4 J4 ⊢
  cases k4 with
  | zero => cases h
  | succ k4 =>
   rw [F46_l4] at h
   refine Zf <| Z6 <| Z1 I (st_cmp (k := .i64) (a := v2) (b := ((List.replicate (a0.length : Int).toNat (0 : Int)).length : Int)) (c := (decide (v2 < ((List.replicate (a0.length : Int).toNat (0 : Int)).length : Int)))) I I I I) I <| Zb <| Ze <| Zf ?_
   have hif := of_if h
   refine Zv I (fun hc => ?_) (fun hc => ?_)
   ·have h := hif.1 hc
    refine Zy <| Ze <| Zf <| AWp.block <| Zf <| Z6 <| Z1 I (Z9 (v := (.int .i64 v2)) I I) I <| Z1 I (Zh (v := (.int .i64 v2)) I I) I ?_
    refine Zb <| Ze <| Z6 <| Z1 I (Z9 (v := (.vs 7)) I I) I <| Z1 I (Z9 (v := (.int .i64 v2)) I I) I ?_
    have ⟨hg66, h⟩ := Zi h
    refine Z1 I (st_indexV (k := .i64) (v := (.vs 7)) (n := 7) (off := 0) (len := v3.length) (es := (List.map Z8 v3)) (j := v2) (m := v2.toNat) I s29 I I (vecR_map _ _ _) I hg66 (Nat.zero_add _)) I ?_
    have ⟨hg67, h⟩ := Zi h
    refine Z1 I (st_storeV (l := v3) (enc := Z8) (z := 0) (a := (Int.negSucc 0)) (v := (.int .i64 (Int.negSucc 0))) sz3 I I hg67 I els_i64 I I I I) I <| Zb <| At.end <| Ze <| Z6 <| Z1 I (st_arith (k := .i64) (a := v2) (b := 1) (c := (IntKind.i64.wrap (v2 + 1))) I I I I) I <| Z1 I (Z9 (v := (.int .i64 (IntKind.i64.wrap (v2 + 1)))) I I) I <| Zb ?_
    exact Zl (st' := ⟨[(0, (.sl 1 (a0.map Zg) false)), (1, (.sl 1 (a1.map Z8) false)), (2, (.int .i64 a2)), (7, (.vs 7)), (19, (.int .i64 ((List.replicate (a0.length : Int).toNat (0 : Int)).length : Int))), (20, (.int .i64 (IntKind.i64.wrap (v2 + 1))))], [(7, (.vec 1 (List.map Z8 (v3.set v2.toNat (Int.negSucc 0)))))]⟩) ⟨rfl, rfl, rfl, rfl, rfl, rfl, trivial⟩ ⟨rfl, trivial⟩ (IH4 _ ((IntKind.i64.wrap (v2 + 1)), (v3.set v2.toNat (Int.negSucc 0))) (Nat.lt_succ_self _) h)
   ·have h := hif.2 hc
    refine AWp.exit <| At.thru ?_
    exact Zl (st' := ⟨[(0, (.sl 1 (a0.map Zg) false)), (1, (.sl 1 (a1.map Z8) false)), (2, (.int .i64 a2)), (7, (.vs 7))], [(7, (.vec 1 (List.map Z8 v3)))]⟩) ⟨rfl, rfl, rfl, rfl, trivial⟩ ⟨rfl, trivial⟩ (J4 v3 h)
end Go.AM.Gra
