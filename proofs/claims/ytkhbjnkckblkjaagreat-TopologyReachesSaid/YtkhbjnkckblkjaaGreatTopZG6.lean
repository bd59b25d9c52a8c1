/- What these functions compute, each with its walk: F116, F118, F119, F77, F33, F113, F75, F38, F37, F32. -/
import Derived.Test.YtkhbjnkckblkjaaGreatTopZT
import Derived.Test.YtkhbjnkckblkjaaGreatTopZG2
namespace Go.AM.TopZ
open Go Go.AM Go.Proofs
set_option maxRecDepth 100000
set_option maxHeartbeats 2000000
def F116 (K : Nat) (a0 : (List Zv)) : Option ((List Zv)) :=
 if ([] : List Zv).length + a0.length ≤ 1073741824 then
  some a0
 else none
theorem F116_ok (K : Nat) (a0 : (List Zv)) (r : (List Zv)) (h : F116 K a0 = some r) : ACall P 116 ⟨[(.sl 2 (a0.map Zg) false)], [], .vs 2, [(2, .vec 2 (List.map Zg r))], [2]⟩ := by
 refine Z1n Tryz.func116 Tryz.results116 rfl Tryz.ntmps116 rfl rfl rfl ?_
 intro E Q hP hN hro hret
 obtain ⟨P', nt', w0, F0, p0, S0, β0, ro0⟩ := E
 simp only at hP hN
 subst hP hN
 dsimp only [argT]
 unfold F116 at h
 refine Zi <| Za <| Z1 I (Zk (v := (.sl 2 [] true)) I I) I <| Zf <| Zh <| Zi <| Zi <| Za ?_
 refine Z1 I (Zj (v := (.sl 2 (a0.map Zg) false)) I I) I ?_
 refine AOps.consNil (enc := Zg) (es := a0) (full := false) I u81 I (fun x1 hbx1 => ?_)
 refine Zf <| Zh ?_
 refine Z15 I (fun hc => ?_) (fun hc => ?_)
 ·have hz := hbx1 hc
  have h : (some []) = some r := by simp only [hz] at h ⊢; simpa using h
  refine Zi <| Za <| Z1 I (Zk (v := (.sl 2 [] true)) I I) I <| Zf <| Zh <| Z1a <| Z1f <| At.ghost (st' := ⟨[(2, (.vs 2))], [(2, (.vec 2 (List.map Zg ([] : List Zv))))]⟩) (fun a w h => (Z19 ⟨[(2, (.vs 2))], [(2, (.vec 2 (List.map Zg ([] : List Zv))))]⟩ (ghost_own (k := 2) (m := 2) (sz := 2) I I a w (Z19 ⟨[(2, (.sl 2 [] true))], []⟩ h ⟨rfl, trivial⟩ trivial)) ⟨rfl, trivial⟩ ⟨rfl, trivial⟩)) ?_
  have h := Option.some.inj h
  subst h
  refine (hret _ ?_).1
  exact ⟨[(.vs 2)], ⟨rfl, trivial⟩, rfl, ⟨rfl, trivial⟩⟩
 ·refine Z17 <| Zh <| Zi <| Za <| Z1 I (Z1j (vs := []) (enc := Zg) (l := ([] : List Zv)) I el81 I I trivial I els_Tgraph_Edge I I I I) I <| Z1 I (Zj (v := (.sl 2 (a0.map Zg) false)) I I) I ?_
  have ⟨hg2, h⟩ := Zy h
  refine Z1 I (st_append (m := 5) (enc := Zg) (l := ([] : List Zv)) (l' := a0) (src := (.sl 2 (a0.map Zg) false)) (rd := []) I I el81 I u81 I I I ⟨rfl, rfl, rfl⟩ noReads els_Tgraph_Edge hg2) I <| Z1 I (Zk (v := (.vs 5)) I I) I <| Zf <| Zh <| Z1a <| At.ghost (st' := ⟨[(2, (.vs 2))], [(2, (.vec 2 (List.map Zg a0)))]⟩) (fun a w h => (Z19 ⟨[(2, (.vs 2))], [(2, (.vec 2 (List.map Zg a0)))]⟩ (ghost_sw (a := 5) (b := 2) I I a w (Z19 ⟨[(2, (.vs 5))], [(5, (.vec 2 (List.map Zg a0)))]⟩ h ⟨rfl, trivial⟩ ⟨rfl, trivial⟩)) ⟨rfl, trivial⟩ ⟨rfl, trivial⟩)) ?_
  have h := Option.some.inj h
  subst h
  refine (hret _ ?_).1
  exact ⟨[(.vs 2)], ⟨rfl, trivial⟩, rfl, ⟨rfl, trivial⟩⟩
def F118 (K : Nat) (a0 : Zv) (a1 : Zv) : Option (Int) :=
 if (a0.From != a1.From) = true then
  some (IntKind.i64.wrap (a0.From - a1.From))
 else
  some (IntKind.i64.wrap (a0.To - a1.To))
theorem F118_ok (K : Nat) (a0 : Zv) (a1 : Zv) (r : Int) (h : F118 K a0 a1 = some r) : ACall P 118 ⟨[(Zg a0), (Zg a1)], [], (.int .i64 r), [], []⟩ := by
 refine Z1n Tryz.func118 Tryz.results118 rfl Tryz.ntmps118 rfl rfl rfl ?_
 intro E Q hP hN hro hret
 obtain ⟨P', nt', w0, F0, p0, S0, β0, ro0⟩ := E
 simp only at hP hN
 subst hP hN
 dsimp only [argT]
 unfold F118 at h
 refine Zi <| Za <| Z1 I (st_box (v := (Zg a0)) (cs := (Zg a0).cells) I I I I I) I <| Z1 I (st_box (v := (Zg a1)) (cs := (Zg a1).cells) I I I I I) I <| Z1 I (Zk (v := (.int .i64 0)) I I) I <| Zf <| Zh <| Zi ?_
 refine Zi <| Za <| Z1 I (Zq (m := 2) (o := 0) I f86_0 I I) I <| Z1 I (Zt (cs := (Zg a0).cells) (v := (.int .i64 a0.From)) I o3 I I I) I <| Z1 I (Zq (m := 3) (o := 0) I f86_0 I I) I <| Z1 I (Zt (cs := (Zg a1).cells) (v := (.int .i64 a1.From)) I o3 I I I) I <| Z1 I (Z1t (k := .i64) (a := a0.From) (b := a1.From) (c := (a0.From != a1.From)) I I I I) I <| Zf ?_
 refine Zh ?_
 have hif := of_if h
 refine Z15 I (fun hc => ?_) (fun hc => ?_)
 ·have h := hif.1 hc
  refine Zi <| Za <| Z1 I (Zq (m := 2) (o := 0) I f86_0 I I) I <| Z1 I (Zt (cs := (Zg a0).cells) (v := (.int .i64 a0.From)) I o3 I I I) I <| Z1 I (Zq (m := 3) (o := 0) I f86_0 I I) I <| Z1 I (Zt (cs := (Zg a1).cells) (v := (.int .i64 a1.From)) I o3 I I I) I <| Z1 I (Z1o (k := .i64) (a := a0.From) (b := a1.From) (c := (IntKind.i64.wrap (a0.From - a1.From))) I I I I) I <| Z1 I (Zk (v := (.int .i64 (IntKind.i64.wrap (a0.From - a1.From)))) I I) I ?_
  refine Zf <| Zh <| Z1a <| Z1f ?_
  have h := Option.some.inj h
  subst h
  refine (hret _ ?_).1
  exact ⟨[(.int .i64 (IntKind.i64.wrap (a0.From - a1.From)))], ⟨rfl, trivial⟩, rfl, trivial⟩
 ·have h := hif.2 hc
  refine Z17 <| Zh <| Zi <| Za <| Z1 I (Zq (m := 2) (o := 0) I f86_1 I I) I <| Z1 I (Zt (cs := (Zg a0).cells) (v := (.int .i64 a0.To)) I o3 I I I) I <| Z1 I (Zq (m := 3) (o := 0) I f86_1 I I) I <| Z1 I (Zt (cs := (Zg a1).cells) (v := (.int .i64 a1.To)) I o3 I I I) I ?_
  refine Z1 I (Z1o (k := .i64) (a := a0.To) (b := a1.To) (c := (IntKind.i64.wrap (a0.To - a1.To))) I I I I) I <| Z1 I (Zk (v := (.int .i64 (IntKind.i64.wrap (a0.To - a1.To)))) I I) I <| Zf <| Zh <| Z1a ?_
  have h := Option.some.inj h
  subst h
  refine (hret _ ?_).1
  exact ⟨[(.int .i64 (IntKind.i64.wrap (a0.To - a1.To)))], ⟨rfl, trivial⟩, rfl, trivial⟩
def F119_c3 (K : Nat) (a0 : (List Zv)) : Option ((List Zv)) :=
 some a0
def F119_c18 (K : Nat) (v16 : Int) (v17 : (List Zv)) : Option ((List Zv)) :=
 if (0 : Int) ≤ v16 ∧ v16 ≤ (v17.length : Int) ∧ (v17.length : Int) ≤ (v17.length : Nat) then
  if (0 + v16.toNat) + ((v17.length : Int).toNat - v16.toNat) ≤ v17.length then
   if (0 + v16.toNat) + ((v17.length : Int).toNat - v16.toNat) ≤ v17.length then
    if (0 : Int) ≤ 0 ∧ 0 ≤ v16 ∧ v16 ≤ ((v17.take (0 + v16.toNat) ++ List.replicate ((v17.length : Int).toNat - v16.toNat) Zd ++ v17.drop ((0 + v16.toNat) + ((v17.length : Int).toNat - v16.toNat))).length : Nat) then
     if (0 + (0 : Int).toNat) + (v16.toNat - (0 : Int).toNat) ≤ (v17.take (0 + v16.toNat) ++ List.replicate ((v17.length : Int).toNat - v16.toNat) Zd ++ v17.drop ((0 + v16.toNat) + ((v17.length : Int).toNat - v16.toNat))).length then
      some (((v17.take (0 + v16.toNat) ++ List.replicate ((v17.length : Int).toNat - v16.toNat) Zd ++ v17.drop ((0 + v16.toNat) + ((v17.length : Int).toNat - v16.toNat))).drop (0 + (0 : Int).toNat)).take (v16.toNat - (0 : Int).toNat))
     else none
    else none
   else none
  else none
 else none
def F119_j35 (K : Nat) (b25 : Int → Int → (List Zv) → Option ((List Zv))) (v13 : Int) (v33 : Int) (v34 : (List Zv)) : Option ((List Zv)) :=
 b25 v33 (IntKind.i64.wrap (v13 + 1)) v34
def F119_l15 (K : Nat) (v1 : Int) (a0 : (List Zv)) (c19 : Int → (List Zv) → Option ((List Zv))) : Nat → Int → Int → (List Zv) → Option ((List Zv))
 | 0, _, _, _ => none
 | k15 + 1, v12, v13, v14 =>
  if (0 + v1.toNat) + ((a0.length : Int).toNat - v1.toNat) ≤ v14.length then
   if (decide (v13 < ((((a0.length : Int).toNat - v1.toNat) : Nat) : Int))) = true then
    if (0 + v1.toNat) + ((a0.length : Int).toNat - v1.toNat) ≤ v14.length then
     if (0 : Int) ≤ v13 ∧ v13 < (((a0.length : Int).toNat - v1.toNat) : Nat) then
      if ((0 + v1.toNat) + v13.toNat) < v14.length then
       if (0 + v1.toNat) + ((a0.length : Int).toNat - v1.toNat) ≤ v14.length then
        if (0 : Int) ≤ (IntKind.i64.wrap (v13 - 1)) ∧ (IntKind.i64.wrap (v13 - 1)) < (((a0.length : Int).toNat - v1.toNat) : Nat) then
         if ((0 + v1.toNat) + (IntKind.i64.wrap (v13 - 1)).toNat) < v14.length then
          if (!(((v14.getD ((0 + v1.toNat) + v13.toNat) Zd).From == (v14.getD ((0 + v1.toNat) + (IntKind.i64.wrap (v13 - 1)).toNat) Zd).From) && (((v14.getD ((0 + v1.toNat) + v13.toNat) Zd).To == (v14.getD ((0 + v1.toNat) + (IntKind.i64.wrap (v13 - 1)).toNat) Zd).To) && true))) = true then
           if (0 + v1.toNat) + ((a0.length : Int).toNat - v1.toNat) ≤ v14.length then
            if (0 : Int) ≤ v13 ∧ v13 < (((a0.length : Int).toNat - v1.toNat) : Nat) then
             if ((0 + v1.toNat) + v13.toNat) < v14.length then
              if (0 : Int) ≤ v12 ∧ v12 < (v14.length : Nat) then
               if v12.toNat < v14.length then
                F119_j35 K (F119_l15 K v1 a0 c19 k15) v13 (IntKind.i64.wrap (v12 + 1)) (v14.set v12.toNat (v14.getD ((0 + v1.toNat) + v13.toNat) Zd))
               else none
              else none
             else none
            else none
           else none
          else
           F119_j35 K (F119_l15 K v1 a0 c19 k15) v13 v12 v14
         else none
        else none
       else none
      else none
     else none
    else none
   else
    c19 v12 v14
  else none
def F119_l2 (K : Nat) (a0 : (List Zv)) (c4 : Option ((List Zv))) : Nat → Int → Option ((List Zv))
 | 0, _ => none
 | k2 + 1, v1 =>
  if (decide (v1 < (a0.length : Int))) = true then
   if (0 : Int) ≤ v1 ∧ v1 < (a0.length : Nat) then
    if v1.toNat < a0.length then
     if (0 : Int) ≤ (IntKind.i64.wrap (v1 - 1)) ∧ (IntKind.i64.wrap (v1 - 1)) < (a0.length : Nat) then
      if (IntKind.i64.wrap (v1 - 1)).toNat < a0.length then
       if (((a0.getD v1.toNat Zd).From == (a0.getD (IntKind.i64.wrap (v1 - 1)).toNat Zd).From) && (((a0.getD v1.toNat Zd).To == (a0.getD (IntKind.i64.wrap (v1 - 1)).toNat Zd).To) && true)) = true then
        if (0 : Int) ≤ v1 ∧ v1 ≤ (a0.length : Int) ∧ (a0.length : Int) ≤ (a0.length : Nat) then
         if (0 + v1.toNat) + ((a0.length : Int).toNat - v1.toNat) ≤ a0.length then
          F119_l15 K v1 a0 (F119_c18 K) K v1 1 a0
         else none
        else none
       else
        (F119_l2 K a0 c4 k2) (IntKind.i64.wrap (v1 + 1))
      else none
     else none
    else none
   else none
  else
   c4
def F119 (K : Nat) (a0 : (List Zv)) : Option ((List Zv)) :=
 if (decide ((a0.length : Int) < 2)) = true then
  some a0
 else
  F119_l2 K a0 (F119_c3 K a0) K 1
theorem F119_ok (K : Nat) (a0 : (List Zv)) (r : (List Zv)) (h : F119 K a0 = some r) : ACall P 119 ⟨[(.vs 0)], [(0, .vec 2 (List.map Zg a0))], .vs 0, [(0, .vec 2 (List.map Zg r))], [0]⟩ := by
 refine Z1n Tryz.func119 Tryz.results119 rfl Tryz.ntmps119 rfl rfl rfl ?_
 intro E Q hP hN hro hret
 obtain ⟨P', nt', w0, F0, p0, S0, β0, ro0⟩ := E
 simp only at hP hN
 subst hP hN
 dsimp only [argT]
 unfold F119 at h
 refine Zi <| Za <| Z1 I (Zk (v := (.sl 2 [] false)) I I) I <| Zf <| Zh <| Zi <| Zi <| Za ?_
 refine Z1 I (Zj (v := (.vs 0)) I I) I <| Z1 I (stx_lenV (l := a0) (enc := Zg) I u81 I I) I <| Z1 I (Z1t (k := .i64) (a := (a0.length : Int)) (b := 2) (c := (decide ((a0.length : Int) < 2))) I I I I) I <| Zf <| Zh ?_
 have hif := of_if h
 refine Z15 I (fun hc => ?_) (fun hc => ?_)
 ·have h := hif.1 hc
  refine Zi <| Za <| Z1 I (Zj (v := (.vs 0)) I I) I <| Z1 I (Zk (v := (.vs 0)) I I) I <| Zf <| Zh <| Z1a <| Z1f ?_
  have h := Option.some.inj h
  subst h
  refine (hret _ ?_).1
  exact ⟨[(.vs 0)], ⟨rfl, trivial⟩, rfl, ⟨rfl, trivial⟩⟩
 ·have h := hif.2 hc
  refine Z17 <| Zh <| Zi <| Zi <| Za <| Z1 I (Zk (v := (.int .i64 1)) I I) I <| Zf <| Zh ?_
  refine Z1r (st' := ⟨[(0, (.vs 0)), (3, (.int .i64 1))], [(0, (.vec 2 (List.map Zg a0)))]⟩) ⟨rfl, rfl, trivial⟩ ⟨rfl, trivial⟩ ?_
  refine Z1g (V := Int) (X := Unit) (lp := fun k v => F119_l2 K a0 (F119_c3 K a0) k v = some r) (sh := fun v => ⟨[(0, (.vs 0)), (3, (.int .i64 v))], [(0, (.vec 2 (List.map Zg a0)))]⟩) (x := fun v => F119_c3 K a0 = some r) (shx := fun v => ⟨[(0, (.vs 0))], [(0, (.vec 2 (List.map Zg a0)))]⟩) (k := K) (v := 1) h ?_ ?_
  ·intro v h
   try dsimp only at h ⊢
   unfold F119_c3 at h
   refine Zh <| Zi <| Za <| Z1 I (Zj (v := (.vs 0)) I I) I <| Z1 I (Zk (v := (.vs 0)) I I) I <| Zf <| Zh <| Z1a ?_
   have h := Option.some.inj h
   subst h
   refine (hret _ ?_).1
   exact ⟨[(.vs 0)], ⟨rfl, trivial⟩, rfl, ⟨rfl, trivial⟩⟩
  ·intro N k2 v h IH2 J2
   revert h
   revert v
   intro v1 h
   try dsimp only at h IH2 J2 ⊢
   cases k2 with
   | zero => cases h
   | succ k2 =>
    rw [F119_l2] at h
    refine Zi <| Zi <| Za <| Z1 I (Zj (v := (.int .i64 v1)) I I) I <| Z1 I (Zj (v := (.vs 0)) I I) I <| Z1 I (stx_lenV (l := a0) (enc := Zg) I u81 I I) I <| Z1 I (Z1t (k := .i64) (a := v1) (b := (a0.length : Int)) (c := (decide (v1 < (a0.length : Int)))) I I I I) I <| Zf ?_
    refine Zh ?_
    have hif := of_if h
    refine Z15 I (fun hc => ?_) (fun hc => ?_)
    ·have h := hif.1 hc
     refine Z17 <| Zh <| Zi <| AWp.block <| Zi <| Z1w mixed <| Z8 0 I (Zj (v := (.vs 0)) I I) <| Z8 1 I (Zj (v := (.int .i64 v1)) I I) ?_
     have ⟨hg6, h⟩ := Zy h
     refine Z8 2 I (st_indexV (k := .i64) (v := (.vs 0)) (n := 0) (off := 0) (len := a0.length) (es := (List.map Zg a0)) (j := v1) (m := v1.toNat) I s81 I I (vecR_map _ _ _) I hg6 (Nat.zero_add _)) ?_
     have ⟨hg7, h⟩ := Zy h
     refine Z8 3 I (st_loadVA (l := a0) (enc := Zg) (z := Zd) (vs := (Zg (a0.getD v1.toNat Zd)).cells) I a86 I I hg7 I I) <| Z8 4 I (Zj (v := (.vs 0)) I I) <| Z8 5 I (Zj (v := (.int .i64 v1)) I I) <| Z8 6 I (Z1o (k := .i64) (a := v1) (b := 1) (c := (IntKind.i64.wrap (v1 - 1))) I I I I) ?_
     have ⟨hg8, h⟩ := Zy h
     refine Z8 7 I (st_indexV (k := .i64) (v := (.vs 0)) (n := 0) (off := 0) (len := a0.length) (es := (List.map Zg a0)) (j := (IntKind.i64.wrap (v1 - 1))) (m := (IntKind.i64.wrap (v1 - 1)).toNat) I s81 I I (vecR_map _ _ _) I hg8 (Nat.zero_add _)) ?_
     have ⟨hg9, h⟩ := Zy h
     refine Z8 8 I (st_loadVA (l := a0) (enc := Zg) (z := Zd) (vs := (Zg (a0.getD (IntKind.i64.wrap (v1 - 1)).toNat Zd)).cells) I a86 I I hg9 I I) <| Z8 9 I (st_cmpA (xs := (Zg (a0.getD v1.toNat Zd)).cells) (ys := (Zg (a0.getD (IntKind.i64.wrap (v1 - 1)).toNat Zd)).cells) (b := (((a0.getD v1.toNat Zd).From == (a0.getD (IntKind.i64.wrap (v1 - 1)).toNat Zd).From) && (((a0.getD v1.toNat Zd).To == (a0.getD (IntKind.i64.wrap (v1 - 1)).toNat Zd).To) && true))) (c := (((a0.getD v1.toNat Zd).From == (a0.getD (IntKind.i64.wrap (v1 - 1)).toNat Zd).From) && (((a0.getD v1.toNat Zd).To == (a0.getD (IntKind.i64.wrap (v1 - 1)).toNat Zd).To) && true))) I eq86 I I I I) <| AOpsD.nil (by kernel_rfl) I <| Zh ?_
     have hif := of_if h
     refine Z15 I (fun hc => ?_) (fun hc => ?_)
     ·have h := hif.1 hc
      refine Zi <| Za <| Z1 I (Zj (v := (.vs 0)) I I) I <| Z1 I (Zj (v := (.int .i64 v1)) I I) I ?_
      have ⟨hg10, h⟩ := Zy h
      have ⟨hg11, h⟩ := Zy h
      refine Z1 I (stx_sliceVL (v := (.vs 0)) (n := 0) (off := 0) (len := a0.length) (l := a0) (enc := Zg) (kl := .i64) (lo := v1) I s81 I I (vecR_map _ _ _) I hg10 I) I <| Z1 I (Zk (v := (.vsub 0 (0 + v1.toNat) ((a0.length : Int).toNat - v1.toNat) false)) I I) I <| Zf <| Zh <| Zi <| Zi <| Za <| Z1 I (Zk (v := (.int .i64 1)) I I) I ?_
      refine Zf <| Zh <| Z1r (st' := ⟨[(0, (.vs 0)), (3, (.int .i64 v1)), (4, (.vsub 0 (0 + v1.toNat) ((a0.length : Int).toNat - v1.toNat) false)), (5, (.int .i64 1))], [(0, (.vec 2 (List.map Zg a0)))]⟩) ⟨rfl, rfl, rfl, rfl, trivial⟩ ⟨rfl, trivial⟩ ?_
      refine Z1g (V := Int × Int × (List Zv)) (X := Int × (List Zv)) (lp := fun k v => F119_l15 K v1 a0 (F119_c18 K) k v.1 v.2.1 v.2.2 = some r) (sh := fun v => ⟨[(0, (.vs 0)), (3, (.int .i64 v.1)), (4, (.vsub 0 (0 + v1.toNat) ((a0.length : Int).toNat - v1.toNat) false)), (5, (.int .i64 v.2.1))], [(0, (.vec 2 (List.map Zg v.2.2)))]⟩) (x := fun v => F119_c18 K v.1 v.2 = some r) (shx := fun v => ⟨[(0, (.vs 0)), (3, (.int .i64 v.1))], [(0, (.vec 2 (List.map Zg v.2)))]⟩) (k := K) (v := (v1, 1, a0)) h ?_ ?_
      ·intro v h
       obtain ⟨v16, v17⟩ := v
       try dsimp only at h ⊢
       unfold F119_c18 at h
       refine Zh <| Zi <| Za <| Z1 I (Zj (v := (.vs 0)) I I) I <| Z1 I (Zj (v := (.int .i64 v16)) I I) I ?_
       have ⟨hg20, h⟩ := Zy h
       have ⟨hg21, h⟩ := Zy h
       refine Z1 I (stx_sliceVL (v := (.vs 0)) (n := 0) (off := 0) (len := v17.length) (l := v17) (enc := Zg) (kl := .i64) (lo := v16) I s81 I I (vecR_map _ _ _) I hg20 I) I ?_
       have ⟨hg22, h⟩ := Zy h
       refine Z1 I (st_clear (v := (.vsub 0 (0 + v16.toNat) ((v17.length : Int).toNat - v16.toNat) false)) (n := 0) (off := (0 + v16.toNat)) (len := ((v17.length : Int).toNat - v16.toNat)) (l := v17) (enc := Zg) el81 ze86 I I I (vecR_sub hg22) els_Tgraph_Edge) I <| Zf <| Zh <| Zi <| Za <| Z1 I (Zj (v := (.vs 0)) I I) I <| Z1 I (Zj (v := (.int .i64 v16)) I I) I ?_
       have ⟨hg23, h⟩ := Zy h
       have ⟨hg24, h⟩ := Zy h
       refine Z1 I (stx_sliceVH (v := (.vs 0)) (n := 0) (off := 0) (len := (v17.take (0 + v16.toNat) ++ List.replicate ((v17.length : Int).toNat - v16.toNat) Zd ++ v17.drop ((0 + v16.toNat) + ((v17.length : Int).toNat - v16.toNat))).length) (l := (v17.take (0 + v16.toNat) ++ List.replicate ((v17.length : Int).toNat - v16.toNat) Zd ++ v17.drop ((0 + v16.toNat) + ((v17.length : Int).toNat - v16.toNat)))) (enc := Zg) (kh := .i64) (hi := v16) I s81 I I (vecR_map _ _ _) I hg23 I) I <| Z1 I (Zk (v := (.vsub 0 (0 + (0 : Int).toNat) (v16.toNat - (0 : Int).toNat) false)) I I) I <| Zf <| Zh <| Z1a <| At.overR <| Z1f ?_
       refine Z1f (At.overR ?_)
       refine Z1f <| At.ghost (st' := ⟨[(2, (.vs 0))], [(0, (.vec 2 (List.map Zg (((v17.take (0 + v16.toNat) ++ List.replicate ((v17.length : Int).toNat - v16.toNat) Zd ++ v17.drop ((0 + v16.toNat) + ((v17.length : Int).toNat - v16.toNat))).drop (0 + (0 : Int).toNat)).take (v16.toNat - (0 : Int).toNat)))))]⟩) (fun a w h => (Z19 ⟨[(2, (.vs 0))], [(0, (.vec 2 (List.map Zg (((v17.take (0 + v16.toNat) ++ List.replicate ((v17.length : Int).toNat - v16.toNat) Zd ++ v17.drop ((0 + v16.toNat) + ((v17.length : Int).toNat - v16.toNat))).drop (0 + (0 : Int).toNat)).take (v16.toNat - (0 : Int).toNat)))))]⟩ (ghost_trunc (k := 2) (m := 0) (sz := 2) (off := (0 + (0 : Int).toNat)) (len := (v16.toNat - (0 : Int).toNat)) (enc := Zg) (l := (v17.take (0 + v16.toNat) ++ List.replicate ((v17.length : Int).toNat - v16.toNat) Zd ++ v17.drop ((0 + v16.toNat) + ((v17.length : Int).toNat - v16.toNat)))) I hg24 a w (Z19 ⟨[(2, (.vsub 0 (0 + (0 : Int).toNat) (v16.toNat - (0 : Int).toNat) false))], [(0, (.vec 2 (List.map Zg (v17.take (0 + v16.toNat) ++ List.replicate ((v17.length : Int).toNat - v16.toNat) Zd ++ v17.drop ((0 + v16.toNat) + ((v17.length : Int).toNat - v16.toNat))))))]⟩ h ⟨rfl, trivial⟩ ⟨rfl, trivial⟩)) ⟨rfl, trivial⟩ ⟨rfl, trivial⟩)) ?_
       have h := Option.some.inj h
       subst h
       refine (hret _ ?_).1
       exact ⟨[(.vs 0)], ⟨rfl, trivial⟩, rfl, ⟨rfl, trivial⟩⟩
      ·intro N k15 v h IH15 J15
       obtain ⟨v12, v13, v14⟩ := v
       try dsimp only at h IH15 J15 ⊢
       cases k15 with
       | zero => cases h
       | succ k15 =>
        rw [F119_l15] at h
        refine Zi <| Zi <| Za <| Z1 I (Zj (v := (.int .i64 v13)) I I) I <| Z1 I (Zj (v := (.vsub 0 (0 + v1.toNat) ((a0.length : Int).toNat - v1.toNat) false)) I I) I ?_
        have ⟨hg26, h⟩ := Zy h
        refine Z1 I (stx_lenVS (v := (.vsub 0 (0 + v1.toNat) ((a0.length : Int).toNat - v1.toNat) false)) (n := 0) (off := (0 + v1.toNat)) (len := ((a0.length : Int).toNat - v1.toNat)) (l := v14) (enc := Zg) I u81 I I (vecR_sub hg26)) I <| Z1 I (Z1t (k := .i64) (a := v13) (b := ((((a0.length : Int).toNat - v1.toNat) : Nat) : Int)) (c := (decide (v13 < ((((a0.length : Int).toNat - v1.toNat) : Nat) : Int)))) I I I I) I <| Zf <| Zh ?_
        have hif := of_if h
        refine Z15 I (fun hc => ?_) (fun hc => ?_)
        ·have h := hif.1 hc
         refine Z17 <| Zh <| Zi <| AWp.block <| Zi <| Z1w mixed <| Z8 0 I (Zj (v := (.vsub 0 (0 + v1.toNat) ((a0.length : Int).toNat - v1.toNat) false)) I I) <| Z8 1 I (Zj (v := (.int .i64 v13)) I I) ?_
         have ⟨hg27, h⟩ := Zy h
         have ⟨hg28, h⟩ := Zy h
         refine Z8 2 I (st_indexV (k := .i64) (v := (.vsub 0 (0 + v1.toNat) ((a0.length : Int).toNat - v1.toNat) false)) (n := 0) (off := (0 + v1.toNat)) (len := ((a0.length : Int).toNat - v1.toNat)) (es := (List.map Zg v14)) (j := v13) (m := ((0 + v1.toNat) + v13.toNat)) I s81 I I (vecR_sub hg27) I hg28 (I)) ?_
         have ⟨hg29, h⟩ := Zy h
         refine Z8 3 I (st_loadVA (l := v14) (enc := Zg) (z := Zd) (vs := (Zg (v14.getD ((0 + v1.toNat) + v13.toNat) Zd)).cells) I a86 I I hg29 I I) <| Z8 4 I (Zj (v := (.vsub 0 (0 + v1.toNat) ((a0.length : Int).toNat - v1.toNat) false)) I I) <| Z8 5 I (Zj (v := (.int .i64 v13)) I I) <| Z8 6 I (Z1o (k := .i64) (a := v13) (b := 1) (c := (IntKind.i64.wrap (v13 - 1))) I I I I) ?_
         have ⟨hg30, h⟩ := Zy h
         have ⟨hg31, h⟩ := Zy h
         refine Z8 7 I (st_indexV (k := .i64) (v := (.vsub 0 (0 + v1.toNat) ((a0.length : Int).toNat - v1.toNat) false)) (n := 0) (off := (0 + v1.toNat)) (len := ((a0.length : Int).toNat - v1.toNat)) (es := (List.map Zg v14)) (j := (IntKind.i64.wrap (v13 - 1))) (m := ((0 + v1.toNat) + (IntKind.i64.wrap (v13 - 1)).toNat)) I s81 I I (vecR_sub hg30) I hg31 (I)) ?_
         have ⟨hg32, h⟩ := Zy h
         refine Z8 8 I (st_loadVA (l := v14) (enc := Zg) (z := Zd) (vs := (Zg (v14.getD ((0 + v1.toNat) + (IntKind.i64.wrap (v13 - 1)).toNat) Zd)).cells) I a86 I I hg32 I I) <| Z8 9 I (st_cmpA (xs := (Zg (v14.getD ((0 + v1.toNat) + v13.toNat) Zd)).cells) (ys := (Zg (v14.getD ((0 + v1.toNat) + (IntKind.i64.wrap (v13 - 1)).toNat) Zd)).cells) (b := (((v14.getD ((0 + v1.toNat) + v13.toNat) Zd).From == (v14.getD ((0 + v1.toNat) + (IntKind.i64.wrap (v13 - 1)).toNat) Zd).From) && (((v14.getD ((0 + v1.toNat) + v13.toNat) Zd).To == (v14.getD ((0 + v1.toNat) + (IntKind.i64.wrap (v13 - 1)).toNat) Zd).To) && true))) (c := (!(((v14.getD ((0 + v1.toNat) + v13.toNat) Zd).From == (v14.getD ((0 + v1.toNat) + (IntKind.i64.wrap (v13 - 1)).toNat) Zd).From) && (((v14.getD ((0 + v1.toNat) + v13.toNat) Zd).To == (v14.getD ((0 + v1.toNat) + (IntKind.i64.wrap (v13 - 1)).toNat) Zd).To) && true)))) I eq86 I I I I) <| AOpsD.nil (by kernel_rfl) I <| Zh ?_
         refine AWp.join (V := Int × (List Zv)) (lp := fun v => F119_j35 K (F119_l15 K v1 a0 (F119_c18 K) k15) v13 v.1 v.2 = some r) (sh := fun v => ⟨[(0, (.vs 0)), (3, (.int .i64 v.1)), (4, (.vsub 0 (0 + v1.toNat) ((a0.length : Int).toNat - v1.toNat) false)), (5, (.int .i64 v13))], [(0, (.vec 2 (List.map Zg v.2)))]⟩) ?_ ?_
         ·intro v h
          obtain ⟨v33, v34⟩ := v
          try dsimp only at h ⊢
          unfold F119_j35 at h
          refine At.end <| Zh <| Za <| Z1 I (Zj (v := (.int .i64 v13)) I I) I <| Z1 I (Z1o (k := .i64) (a := v13) (b := 1) (c := (IntKind.i64.wrap (v13 + 1))) I I I I) I <| Z1 I (Zk (v := (.int .i64 (IntKind.i64.wrap (v13 + 1)))) I I) I <| Zf ?_
          exact Zw (st' := ⟨[(0, (.vs 0)), (3, (.int .i64 v33)), (4, (.vsub 0 (0 + v1.toNat) ((a0.length : Int).toNat - v1.toNat) false)), (5, (.int .i64 (IntKind.i64.wrap (v13 + 1))))], [(0, (.vec 2 (List.map Zg v34)))]⟩) ⟨rfl, rfl, rfl, rfl, trivial⟩ ⟨rfl, trivial⟩ (IH15 _ (v33, (IntKind.i64.wrap (v13 + 1)), v34) (Nat.lt_succ_self _) h)
         ·intro J35
          have hif := of_if h
          refine Z15 I (fun hc => ?_) (fun hc => ?_)
          ·have h := hif.1 hc
           refine Zi <| Za <| Z1 I (Zj (v := (.vs 0)) I I) I <| Z1 I (Zj (v := (.int .i64 v12)) I I) I <| Z1 I (Zj (v := (.vsub 0 (0 + v1.toNat) ((a0.length : Int).toNat - v1.toNat) false)) I I) I <| Z1 I (Zj (v := (.int .i64 v13)) I I) I ?_
           have ⟨hg36, h⟩ := Zy h
           have ⟨hg37, h⟩ := Zy h
           refine Z1 I (st_indexV (k := .i64) (v := (.vsub 0 (0 + v1.toNat) ((a0.length : Int).toNat - v1.toNat) false)) (n := 0) (off := (0 + v1.toNat)) (len := ((a0.length : Int).toNat - v1.toNat)) (es := (List.map Zg v14)) (j := v13) (m := ((0 + v1.toNat) + v13.toNat)) I s81 I I (vecR_sub hg36) I hg37 (I)) I ?_
           have ⟨hg38, h⟩ := Zy h
           refine Z1 I (st_loadVA (l := v14) (enc := Zg) (z := Zd) (vs := (Zg (v14.getD ((0 + v1.toNat) + v13.toNat) Zd)).cells) I a86 I I hg38 I I) I ?_
           have ⟨hg39, h⟩ := Zy h
           refine Z1 I (st_indexV (k := .i64) (v := (.vs 0)) (n := 0) (off := 0) (len := v14.length) (es := (List.map Zg v14)) (j := v12) (m := v12.toNat) I s81 I I (vecR_map _ _ _) I hg39 (Nat.zero_add _)) I ?_
           have ⟨hg40, h⟩ := Zy h
           refine Z1 I (st_storeV (l := v14) (enc := Zg) (z := Zd) (a := (v14.getD ((0 + v1.toNat) + v13.toNat) Zd)) (v := (Zg (v14.getD ((0 + v1.toNat) + v13.toNat) Zd))) sz86 I I hg40 I els_Tgraph_Edge I I I I) I <| Zf <| Zh <| Za <| Z1 I (Zj (v := (.int .i64 v12)) I I) I <| Z1 I (Z1o (k := .i64) (a := v12) (b := 1) (c := (IntKind.i64.wrap (v12 + 1))) I I I I) I <| Z1 I (Zk (v := (.int .i64 (IntKind.i64.wrap (v12 + 1)))) I I) I <| Zf ?_
           exact Zw (st' := ⟨[(0, (.vs 0)), (3, (.int .i64 (IntKind.i64.wrap (v12 + 1)))), (4, (.vsub 0 (0 + v1.toNat) ((a0.length : Int).toNat - v1.toNat) false)), (5, (.int .i64 v13))], [(0, (.vec 2 (List.map Zg (v14.set v12.toNat (v14.getD ((0 + v1.toNat) + v13.toNat) Zd)))))]⟩) ⟨rfl, rfl, rfl, rfl, trivial⟩ ⟨rfl, trivial⟩ (J35 ((IntKind.i64.wrap (v12 + 1)), (v14.set v12.toNat (v14.getD ((0 + v1.toNat) + v13.toNat) Zd))) h)
          ·have h := hif.2 hc
           refine Z17 ?_
           exact Zw (st' := ⟨[(0, (.vs 0)), (3, (.int .i64 v12)), (4, (.vsub 0 (0 + v1.toNat) ((a0.length : Int).toNat - v1.toNat) false)), (5, (.int .i64 v13))], [(0, (.vec 2 (List.map Zg v14)))]⟩) ⟨rfl, rfl, rfl, rfl, trivial⟩ ⟨rfl, trivial⟩ (J35 (v12, v14) h)
        ·have h := hif.2 hc
         refine AWp.exit <| At.thru ?_
         exact Zw (st' := ⟨[(0, (.vs 0)), (3, (.int .i64 v12))], [(0, (.vec 2 (List.map Zg v14)))]⟩) ⟨rfl, rfl, trivial⟩ ⟨rfl, trivial⟩ (J15 (v12, v14) h)
     ·have h := hif.2 hc
      refine Z17 <| At.end <| Zh <| Za <| Z1 I (Zj (v := (.int .i64 v1)) I I) I <| Z1 I (Z1o (k := .i64) (a := v1) (b := 1) (c := (IntKind.i64.wrap (v1 + 1))) I I I I) I <| Z1 I (Zk (v := (.int .i64 (IntKind.i64.wrap (v1 + 1)))) I I) I <| Zf ?_
      exact Zw (st' := ⟨[(0, (.vs 0)), (3, (.int .i64 (IntKind.i64.wrap (v1 + 1))))], [(0, (.vec 2 (List.map Zg a0)))]⟩) ⟨rfl, rfl, trivial⟩ ⟨rfl, trivial⟩ (IH2 _ (IntKind.i64.wrap (v1 + 1)) (Nat.lt_succ_self _) h)
    ·have h := hif.2 hc
     refine AWp.exit <| At.thru ?_
     exact Zw (st' := ⟨[(0, (.vs 0))], [(0, (.vec 2 (List.map Zg a0)))]⟩) ⟨rfl, trivial⟩ ⟨rfl, trivial⟩ (J2 () h)
def F77_c3 (K : Nat) (a1 : (List Zv)) (a0 : Int) : Option (Z1e × Int) :=
 (F116 K a1).bind fun v6 =>
  (sortF (fun a b => F118 K a b) v6).bind fun v8 =>
   (F119 K v8).bind fun v10 =>
    some ((⟨a0, v10⟩ : Z1e), 0)
def F77_j14 (K : Nat) (b11 : Int → Option (Z1e × Int)) (v1 : Int) (v13 : Bool) : Option (Z1e × Int) :=
 if v13 = true then
  some (z_Tgraph_Graph, 10)
 else
  b11 (IntKind.i64.wrap (v1 + 1))
def F77_l2 (K : Nat) (a1 : (List Zv)) (a0 : Int) (c4 : Option (Z1e × Int)) : Nat → Int → Option (Z1e × Int)
 | 0, _ => none
 | k2 + 1, v1 =>
  if (decide (v1 < (a1.length : Int))) = true then
   if (0 : Int) ≤ v1 ∧ v1 < a1.length then
    if (decide ((a1.getD v1.toNat Zd).From < 0)) = true then
     F77_j14 K (F77_l2 K a1 a0 c4 k2) v1 true
    else
     if (decide ((a1.getD v1.toNat Zd).From ≥ a0)) = true then
      F77_j14 K (F77_l2 K a1 a0 c4 k2) v1 true
     else
      if (decide ((a1.getD v1.toNat Zd).To < 0)) = true then
       F77_j14 K (F77_l2 K a1 a0 c4 k2) v1 true
      else
       F77_j14 K (F77_l2 K a1 a0 c4 k2) v1 (decide ((a1.getD v1.toNat Zd).To ≥ a0))
   else none
  else
   c4
def F77 (K : Nat) (a0 : Int) (a1 : (List Zv)) : Option (Z1e × Int) :=
 if (decide (a0 < 0)) = true then
  some (z_Tgraph_Graph, 2)
 else
  if (decide (a0 > 256)) = true then
   some (z_Tgraph_Graph, 2)
  else
   F77_l2 K a1 a0 (F77_c3 K a1 a0) K 0
theorem F77_ok (K : Nat) (a0 : Int) (a1 : (List Zv)) (r : Z1e × Int) (h : F77 K a0 a1 = some r) : ACall P 77 ⟨[(.int .i64 a0), (.sl 2 (a1.map Zg) false)], [], (.tup [(Zr r.1), (.int .i64 r.2)]), [], []⟩ := by
 refine Z1n Tryz.func77 Tryz.results77 rfl Tryz.ntmps77 rfl rfl rfl ?_
 intro E Q hP hN hro hret
 obtain ⟨P', nt', w0, F0, p0, S0, β0, ro0⟩ := E
 simp only at hP hN
 subst hP hN
 dsimp only [argT]
 unfold F77 at h
 refine Zi <| Za <| Z1 I (st_alloc (cs := [(.int .i64 0), (.sl 2 [] false)]) I z83 I I I) I <| Z1 I (Zk (v := (.int .i64 0)) I I) I <| Zf <| Zh <| Zi <| Zi ?_
 refine Za <| Z1 I (Zj (v := (.int .i64 a0)) I I) I <| Z1 I (Z1t (k := .i64) (a := a0) (b := 0) (c := (decide (a0 < 0))) I I I I) I <| Z1 I (Zj (v := (.bool (decide (a0 < 0)))) I I) I ?_
 have hif := of_if h
 refine AOps.split (fun hc => ?_) (fun hc => ?_)
 ·have h := hif.1 hc
  refine Zu I I I I I I I <| Zu I I I I I I I <| Z1 I (st_pickT (v := (.bool true)) I I I) I <| Zf <| Zh ?_
  refine Z15 (b := true) I (fun hc => ?_) (fun hc => ?_)
  rotate_left
  ·cases hc
  refine Zi <| Za <| Z1 I (stx_build (vs := []) (cs := [(.int .i64 0), (.sl 2 [] false)]) I st83 trivial I) I <| Z1 I (Z1i (cs := [(.int .i64 0), (.sl 2 [] false)]) (vs := [(.int .i64 0), (.sl 2 [] false)]) (ds := [(.int .i64 0), (.sl 2 [] false)]) (v := (.ag [(.int .i64 0), (.sl 2 [] false)])) sz83 I I I I I I I I) I <| Z1 I (Zk (v := (.int .i64 2)) I I) I <| Zf <| Zh <| Z1a ?_
  refine Z1f ?_
  have h := Option.some.inj h
  subst h
  refine (hret _ ?_).1
  exact ⟨[(.ag [(.int .i64 0), (.sl 2 [] false)]), (.int .i64 2)], ⟨⟨4, _, rfl, rfl, .inr ⟨_, a83, rfl, rfl⟩⟩, rfl, trivial⟩, rfl, trivial⟩
 ·have h := hif.2 hc
  refine Zz I I I I (Zj (v := (.int .i64 a0)) I I) I <| Zz I I I I (Z1t (k := .i64) (a := a0) (b := 256) (c := (decide (a0 > 256))) I I I I) I <| Z1 I (st_pickF (v := (.bool (decide (a0 > 256)))) I I I) I <| Zf <| Zh ?_
  have hif := of_if h
  refine Z15 I (fun hc => ?_) (fun hc => ?_)
  ·have h := hif.1 hc
   refine Zi <| Za <| Z1 I (stx_build (vs := []) (cs := [(.int .i64 0), (.sl 2 [] false)]) I st83 trivial I) I <| Z1 I (Z1i (cs := [(.int .i64 0), (.sl 2 [] false)]) (vs := [(.int .i64 0), (.sl 2 [] false)]) (ds := [(.int .i64 0), (.sl 2 [] false)]) (v := (.ag [(.int .i64 0), (.sl 2 [] false)])) sz83 I I I I I I I I) I <| Z1 I (Zk (v := (.int .i64 2)) I I) I <| Zf <| Zh <| Z1a ?_
   refine Z1f ?_
   have h := Option.some.inj h
   subst h
   refine (hret _ ?_).1
   exact ⟨[(.ag [(.int .i64 0), (.sl 2 [] false)]), (.int .i64 2)], ⟨⟨4, _, rfl, rfl, .inr ⟨_, a83, rfl, rfl⟩⟩, rfl, trivial⟩, rfl, trivial⟩
  ·have h := hif.2 hc
   refine Z17 <| Zh <| Zi <| Zi <| Za <| Z1 I (Zj (v := (.sl 2 (a1.map Zg) false)) I I) I <| Z1 I (stx_len (l := a1) (enc := Zg) I s81 I) I <| Z1 I (Zj (v := (.int .i64 0)) I I) I ?_
   refine Zf <| Zh <| Z1r (st' := ⟨[(0, (.int .i64 a0)), (1, (.sl 2 (a1.map Zg) false)), (4, (.ptr 4 0)), (16, (.sl 2 (a1.map Zg) false)), (17, (.int .i64 (a1.length : Int))), (18, (.int .i64 0))], [(4, (.box [(.int .i64 0), (.sl 2 [] false)]))]⟩) ⟨rfl, rfl, rfl, rfl, rfl, rfl, trivial⟩ ⟨rfl, trivial⟩ ?_
   refine Z1g (V := Int) (X := Unit) (lp := fun k v => F77_l2 K a1 a0 (F77_c3 K a1 a0) k v = some r) (sh := fun v => ⟨[(0, (.int .i64 a0)), (1, (.sl 2 (a1.map Zg) false)), (4, (.ptr 4 0)), (16, (.sl 2 (a1.map Zg) false)), (17, (.int .i64 (a1.length : Int))), (18, (.int .i64 v))], [(4, (.box [(.int .i64 0), (.sl 2 [] false)]))]⟩) (x := fun v => F77_c3 K a1 a0 = some r) (shx := fun v => ⟨[(0, (.int .i64 a0)), (1, (.sl 2 (a1.map Zg) false)), (4, (.ptr 4 0))], [(4, (.box [(.int .i64 0), (.sl 2 [] false)]))]⟩) (k := K) (v := 0) h ?_ ?_
   ·intro v h
    try dsimp only at h ⊢
    unfold F77_c3 at h
    refine Zh <| Zi <| Za <| Z1 I (Zj (v := (.sl 2 (a1.map Zg) false)) I I) I ?_
    have ⟨v6, hv6, h⟩ := Z1d h
    refine Z1 I (st_callO (sz := 2) (es := (List.map Zg v6)) (ar := [(.sl 2 (a1.map Zg) false)]) (caps := []) Tryz.call116 ((F116_ok K a1 v6 hv6).sw 2 45) I I ⟨rfl, trivial⟩ I) I <| Z1 I (Zk (v := (.vs 45)) I I) I <| Zf <| Zh <| Zi <| Za <| Z1 I (Zj (v := (.vs 45)) I I) I ?_
    have ⟨v8, hv8, h⟩ := Z1d h
    refine Z1 I (st_call (d := some 47) (c := ⟨[(.vs 45), (.clo 118 [])], [(45, (.vec 2 (List.map Zg v6)))], .tup [], [(45, .vec 2 (List.map Zg v8))], []⟩) (ar := [(.vs 45), (.clo 118 [])]) (caps := []) (news := []) (forg := []) Tryz.call117 (sort_ok (n := 45) (enc := Zg) (l := v6) (caps := []) (c := (fun a b => F118 K a b)) sortC117 Tryz.call118 els_Tgraph_Edge (fun _ => I) (fun a b m hm => F118_ok K a b m hm) hv8) I I ⟨rfl, rfl, trivial⟩ I ⟨rfl, trivial⟩ I) I <| Zf <| Zh <| Zi <| Za <| Z1 I (Zj (v := (.int .i64 a0)) I I) I <| Z1 I (Zj (v := (.vs 45)) I I) I ?_
    have ⟨v10, hv10, h⟩ := Z1d h
    refine Z1 I (st_call (d := some 50) (c := ⟨[(.vs 45)] ++ [], [(45, (.vec 2 (List.map Zg v8)))], .vs 45, [(45, .vec 2 (List.map Zg v10))], [45]⟩) (ar := [(.vs 45)]) (caps := []) (news := []) (forg := [45]) Tryz.call119 ((F119_ok K v8 v10 hv10).sw 0 45) I I ⟨rfl, trivial⟩ I ⟨rfl, trivial⟩ I) I <| Z1 I (stx_build (vs := [(0, (.int .i64 a0)), (1, (.vs 45))]) (cs := [(.int .i64 a0), (.vs 45)]) I st83 ⟨rfl, rfl, rfl, rfl, trivial⟩ I) I <| Z1 I (Z1i (cs := [(.int .i64 0), (.sl 2 [] false)]) (vs := [(.int .i64 a0), (.vs 45)]) (ds := [(.int .i64 a0), (.vs 45)]) (v := (.ag [(.int .i64 a0), (.vs 45)])) sz83 I I I I I I I I) I <| Z1 I (Zk (v := (.int .i64 0)) I I) I <| Zf <| Zh <| Z1a <| At.ghost (st' := ⟨[(4, (.ptr 4 0)), (5, (.int .i64 0))], [(4, (.box [(.int .i64 a0), (.sl 2 (v10.map Zg) false)]))]⟩) (fun a w h => (Z19 ⟨[(4, (.ptr 4 0)), (5, (.int .i64 0))], [(4, (.box [(.int .i64 a0), (.sl 2 (v10.map Zg) false)]))]⟩ (ghost_freeze (m := 45) (sz := 2) (es := (List.map Zg v10)) a w (Z19 ⟨[(4, (.ptr 4 0)), (5, (.int .i64 0))], [(45, (.vec 2 (List.map Zg v10))), (4, (.box [(.int .i64 a0), (.vs 45)]))]⟩ h ⟨rfl, rfl, trivial⟩ ⟨rfl, rfl, trivial⟩)) ⟨rfl, rfl, trivial⟩ ⟨rfl, trivial⟩)) ?_
    have h := Option.some.inj h
    subst h
    refine (hret _ ?_).1
    exact ⟨[(.ag [(.int .i64 a0), (.sl 2 (v10.map Zg) false)]), (.int .i64 0)], ⟨⟨4, _, rfl, rfl, .inr ⟨_, a83, rfl, rfl⟩⟩, rfl, trivial⟩, rfl, trivial⟩
   ·intro N k2 v h IH2 J2
    revert h
    revert v
    intro v1 h
    try dsimp only at h IH2 J2 ⊢
    cases k2 with
    | zero => cases h
    | succ k2 =>
     rw [F77_l2] at h
     refine Zi <| Za <| Z1 I (Z1t (k := .i64) (a := v1) (b := (a1.length : Int)) (c := (decide (v1 < (a1.length : Int)))) I I I I) I <| Zf <| Zh <| Zi ?_
     have hif := of_if h
     refine Z15 I (fun hc => ?_) (fun hc => ?_)
     ·have h := hif.1 hc
      refine Z17 <| Zh <| Zi <| AWp.block <| Zi <| Za ?_
      have ⟨hg12, h⟩ := Zy h
      refine Z1 I (Z1s (k := .i64) (l := a1) (enc := Zg) (z := Zd) (n := v1) (cs := (Zg (a1.getD v1.toNat Zd)).cells) (full := false) I s81 I I hg12 I) I <| Z1 I (st_loadIA (cs := (Zg (a1.getD v1.toNat Zd)).cells) (vs := (Zg (a1.getD v1.toNat Zd)).cells) I a86 I I I) I <| Z1 I (st_alloc (cs := [(.int .i64 0), (.int .i64 0)]) I z86 I I I) I <| Z1 I (Z1i (cs := [(.int .i64 0), (.int .i64 0)]) (vs := (Zg (a1.getD v1.toNat Zd)).cells) (ds := (Zg (a1.getD v1.toNat Zd)).cells) (v := (Zg (a1.getD v1.toNat Zd))) sz86 I I I I I I I I) I <| Zf <| Zh <| Zi ?_
      refine AWp.join (V := Bool) (lp := fun v => F77_j14 K (F77_l2 K a1 a0 (F77_c3 K a1 a0) k2) v1 v = some r) (sh := fun v => ⟨[(0, (.int .i64 a0)), (1, (.sl 2 (a1.map Zg) false)), (4, (.ptr 4 0)), (16, (.sl 2 (a1.map Zg) false)), (17, (.int .i64 (a1.length : Int))), (18, (.int .i64 v1)), (41, (.bool v))], [(4, (.box [(.int .i64 0), (.sl 2 [] false)]))]⟩) ?_ ?_
      ·intro v h
       revert h
       revert v
       intro v13 h
       try dsimp only at h ⊢
       unfold F77_j14 at h
       refine Zh ?_
       have hif := of_if h
       refine Z15 I (fun hc => ?_) (fun hc => ?_)
       ·have h := hif.1 hc
        refine Zi <| Za <| Z1 I (stx_build (vs := []) (cs := [(.int .i64 0), (.sl 2 [] false)]) I st83 trivial I) I <| Z1 I (Z1i (cs := [(.int .i64 0), (.sl 2 [] false)]) (vs := [(.int .i64 0), (.sl 2 [] false)]) (ds := [(.int .i64 0), (.sl 2 [] false)]) (v := (.ag [(.int .i64 0), (.sl 2 [] false)])) sz83 I I I I I I I I) I <| Z1 I (Zk (v := (.int .i64 10)) I I) I <| Zf <| Zh <| Z1a ?_
        refine At.overR <| Z1f ?_
        refine Z1f (At.overR ?_)
        refine Z1f ?_
        have h := Option.some.inj h
        subst h
        refine (hret _ ?_).1
        exact ⟨[(.ag [(.int .i64 0), (.sl 2 [] false)]), (.int .i64 10)], ⟨⟨4, _, rfl, rfl, .inr ⟨_, a83, rfl, rfl⟩⟩, rfl, trivial⟩, rfl, trivial⟩
       ·have h := hif.2 hc
        refine Z17 <| At.end <| Zh <| Za <| Z1 I (Z1o (k := .i64) (a := v1) (b := 1) (c := (IntKind.i64.wrap (v1 + 1))) I I I I) I <| Z1 I (Zj (v := (.int .i64 (IntKind.i64.wrap (v1 + 1)))) I I) I <| Zf ?_
        exact Zw (st' := ⟨[(0, (.int .i64 a0)), (1, (.sl 2 (a1.map Zg) false)), (4, (.ptr 4 0)), (16, (.sl 2 (a1.map Zg) false)), (17, (.int .i64 (a1.length : Int))), (18, (.int .i64 (IntKind.i64.wrap (v1 + 1))))], [(4, (.box [(.int .i64 0), (.sl 2 [] false)]))]⟩) ⟨rfl, rfl, rfl, rfl, rfl, rfl, trivial⟩ ⟨rfl, trivial⟩ (IH2 _ (IntKind.i64.wrap (v1 + 1)) (Nat.lt_succ_self _) h)
      ·intro J14
       refine Za <| Z1 I (Zq (m := 7) (o := 0) I f86_0 I I) I <| Z1 I (Zt (cs := (Zg (a1.getD v1.toNat Zd)).cells) (v := (.int .i64 (a1.getD v1.toNat Zd).From)) I o3 I I I) I <| Z1 I (Z1t (k := .i64) (a := (a1.getD v1.toNat Zd).From) (b := 0) (c := (decide ((a1.getD v1.toNat Zd).From < 0))) I I I I) I <| Z1 I (Zj (v := (.bool (decide ((a1.getD v1.toNat Zd).From < 0)))) I I) I ?_
       have hif := of_if h
       refine AOps.split (fun hc => ?_) (fun hc => ?_)
       ·have h := hif.1 hc
        refine Zu I I I I I I I <| Zu I I I I I I I <| Zu I I I I I I I <| Zu I I I I I I I <| Z1 I (st_pickT (v := (.bool true)) I I I) I <| Z1 I (Zj (v := (.bool true)) I I) I <| Zu I I I I I I I <| Zu I I I I I I I ?_
        refine Zu I I I I I I I <| Z1 I (st_pickT (v := (.bool true)) I I I) I <| Z1 I (Zj (v := (.bool true)) I I) I <| Zu I I I I I I I <| Zu I I I I I I I <| Zu I I I I I I I <| Zu I I I I I I I <| Z1 I (st_pickT (v := (.bool true)) I I I) I ?_
        refine Zf ?_
        exact Zw (st' := ⟨[(0, (.int .i64 a0)), (1, (.sl 2 (a1.map Zg) false)), (4, (.ptr 4 0)), (16, (.sl 2 (a1.map Zg) false)), (17, (.int .i64 (a1.length : Int))), (18, (.int .i64 v1)), (41, (.bool true))], [(4, (.box [(.int .i64 0), (.sl 2 [] false)]))]⟩) ⟨rfl, rfl, rfl, rfl, rfl, rfl, rfl, trivial⟩ ⟨rfl, trivial⟩ (J14 true h)
       ·have h := hif.2 hc
        refine Zz I I I I (Zq (m := 7) (o := 0) I f86_0 I I) I <| Zz I I I I (Zt (cs := (Zg (a1.getD v1.toNat Zd)).cells) (v := (.int .i64 (a1.getD v1.toNat Zd).From)) I o3 I I I) I <| Zz I I I I (Zj (v := (.int .i64 a0)) I I) I <| Zz I I I I (Z1t (k := .i64) (a := (a1.getD v1.toNat Zd).From) (b := a0) (c := (decide ((a1.getD v1.toNat Zd).From ≥ a0))) I I I I) I <| Z1 I (st_pickF (v := (.bool (decide ((a1.getD v1.toNat Zd).From ≥ a0)))) I I I) I <| Z1 I (Zj (v := (.bool (decide ((a1.getD v1.toNat Zd).From ≥ a0)))) I I) I ?_
        have hif := of_if h
        refine AOps.split (fun hc => ?_) (fun hc => ?_)
        ·have h := hif.1 hc
         refine Zu I I I I I I I <| Zu I I I I I I I <| Zu I I I I I I I <| Z1 I (st_pickT (v := (.bool true)) I I I) I <| Z1 I (Zj (v := (.bool true)) I I) I <| Zu I I I I I I I <| Zu I I I I I I I <| Zu I I I I I I I ?_
         refine Zu I I I I I I I <| Z1 I (st_pickT (v := (.bool true)) I I I) I <| Zf ?_
         exact Zw (st' := ⟨[(0, (.int .i64 a0)), (1, (.sl 2 (a1.map Zg) false)), (4, (.ptr 4 0)), (16, (.sl 2 (a1.map Zg) false)), (17, (.int .i64 (a1.length : Int))), (18, (.int .i64 v1)), (41, (.bool true))], [(4, (.box [(.int .i64 0), (.sl 2 [] false)]))]⟩) ⟨rfl, rfl, rfl, rfl, rfl, rfl, rfl, trivial⟩ ⟨rfl, trivial⟩ (J14 true h)
        ·have h := hif.2 hc
         refine Zz I I I I (Zq (m := 7) (o := 0) I f86_1 I I) I <| Zz I I I I (Zt (cs := (Zg (a1.getD v1.toNat Zd)).cells) (v := (.int .i64 (a1.getD v1.toNat Zd).To)) I o3 I I I) I <| Zz I I I I (Z1t (k := .i64) (a := (a1.getD v1.toNat Zd).To) (b := 0) (c := (decide ((a1.getD v1.toNat Zd).To < 0))) I I I I) I <| Z1 I (st_pickF (v := (.bool (decide ((a1.getD v1.toNat Zd).To < 0)))) I I I) I <| Z1 I (Zj (v := (.bool (decide ((a1.getD v1.toNat Zd).To < 0)))) I I) I ?_
         have hif := of_if h
         refine AOps.split (fun hc => ?_) (fun hc => ?_)
         ·have h := hif.1 hc
          refine Zu I I I I I I I <| Zu I I I I I I I <| Zu I I I I I I I <| Zu I I I I I I I <| Z1 I (st_pickT (v := (.bool true)) I I I) I <| Zf ?_
          exact Zw (st' := ⟨[(0, (.int .i64 a0)), (1, (.sl 2 (a1.map Zg) false)), (4, (.ptr 4 0)), (16, (.sl 2 (a1.map Zg) false)), (17, (.int .i64 (a1.length : Int))), (18, (.int .i64 v1)), (41, (.bool true))], [(4, (.box [(.int .i64 0), (.sl 2 [] false)]))]⟩) ⟨rfl, rfl, rfl, rfl, rfl, rfl, rfl, trivial⟩ ⟨rfl, trivial⟩ (J14 true h)
         ·have h := hif.2 hc
          refine Zz I I I I (Zq (m := 7) (o := 0) I f86_1 I I) I <| Zz I I I I (Zt (cs := (Zg (a1.getD v1.toNat Zd)).cells) (v := (.int .i64 (a1.getD v1.toNat Zd).To)) I o3 I I I) I <| Zz I I I I (Zj (v := (.int .i64 a0)) I I) I <| Zz I I I I (Z1t (k := .i64) (a := (a1.getD v1.toNat Zd).To) (b := a0) (c := (decide ((a1.getD v1.toNat Zd).To ≥ a0))) I I I I) I <| Z1 I (st_pickF (v := (.bool (decide ((a1.getD v1.toNat Zd).To ≥ a0)))) I I I) I <| Zf ?_
          exact Zw (st' := ⟨[(0, (.int .i64 a0)), (1, (.sl 2 (a1.map Zg) false)), (4, (.ptr 4 0)), (16, (.sl 2 (a1.map Zg) false)), (17, (.int .i64 (a1.length : Int))), (18, (.int .i64 v1)), (41, (.bool (decide ((a1.getD v1.toNat Zd).To ≥ a0))))], [(4, (.box [(.int .i64 0), (.sl 2 [] false)]))]⟩) ⟨rfl, rfl, rfl, rfl, rfl, rfl, rfl, trivial⟩ ⟨rfl, trivial⟩ (J14 (decide ((a1.getD v1.toNat Zd).To ≥ a0)) h)
     ·have h := hif.2 hc
      refine AWp.exit <| At.thru ?_
      exact Zw (st' := ⟨[(0, (.int .i64 a0)), (1, (.sl 2 (a1.map Zg) false)), (4, (.ptr 4 0))], [(4, (.box [(.int .i64 0), (.sl 2 [] false)]))]⟩) ⟨rfl, rfl, rfl, trivial⟩ ⟨rfl, trivial⟩ (J2 () h)
def F33_c5 (K : Nat) (a0 : Zb) (v4 : (List Zv)) : Option (Z1e) :=
 (F77 K (a0.Services.length : Int) v4).bind fun v8 =>
  some v8.1
def F33_l3 (K : Nat) (a0 : Zb) (c6 : (List Zv) → Option (Z1e)) : Nat → Int → (List Zv) → Option (Z1e)
 | 0, _, _ => none
 | k3 + 1, v1, v2 =>
  if (decide (v1 < (a0.Calls.length : Int))) = true then
   if (0 : Int) ≤ v1 ∧ v1 < a0.Calls.length then
    (F58 K a0 (a0.Calls.getD v1.toNat Z5).Caller).bind fun v12 =>
     (F58 K a0 (a0.Calls.getD v1.toNat Z5).Callee).bind fun v14 =>
      if v2.length + [(⟨v12.1, v14.1⟩ : Zv)].length ≤ 1073741824 then
       (F33_l3 K a0 c6 k3) (IntKind.i64.wrap (v1 + 1)) (v2 ++ [(⟨v12.1, v14.1⟩ : Zv)])
      else none
   else none
  else
   c6 v2
def F33 (K : Nat) (a0 : Zb) : Option (Z1e) :=
 F33_l3 K a0 (F33_c5 K a0) K 0 []
theorem F33_ok (K : Nat) (a0 : Zb) (r : Z1e) (h : F33 K a0 = some r) : ACall P 33 ⟨[(Z4 a0)], [], (Zr r), [], []⟩ := by
 refine Z1n Tryz.func33 Tryz.results33 rfl Tryz.ntmps33 rfl rfl rfl ?_
 intro E Q hP hN hro hret
 obtain ⟨P', nt', w0, F0, p0, S0, β0, ro0⟩ := E
 simp only at hP hN
 subst hP hN
 dsimp only [argT]
 unfold F33 at h
 refine Zi <| Za <| Z1 I (st_box (v := (Z4 a0)) (cs := (Z4 a0).cells) I I I I I) I <| Z1 I (st_alloc (cs := [(.int .i64 0), (.sl 2 [] false)]) I z83 I I I) I <| Zf <| Zh <| Zi <| Za ?_
 refine Z1 I (Zk (v := (.sl 2 [] true)) I I) I <| Zf <| Zh <| Zi <| Zi <| Za <| Z1 I (Zq (m := 1) (o := 0) I f44_1 I I) I <| Z1 I (Zt (cs := (Z4 a0).cells) (v := (.sl 5 (a0.Calls.map Z3) false)) I o42 I I I) I ?_
 refine Z1 I (stx_len (l := a0.Calls) (enc := Z3) I s42 I) I <| Z1 I (Zj (v := (.int .i64 0)) I I) I <| Zf <| Zh <| AWp.ghost (st' := ⟨[(1, (.ptr 1 0)), (2, (.ptr 2 0)), (3, (.vs 3)), (13, (.sl 5 (a0.Calls.map Z3) false)), (14, (.int .i64 (a0.Calls.length : Int))), (15, (.int .i64 0))], [(1, (.box (Z4 a0).cells)), (2, (.box [(.int .i64 0), (.sl 2 [] false)])), (3, (.vec 2 (List.map Zg ([] : List Zv))))]⟩) (fun a w h => (Z19 ⟨[(1, (.ptr 1 0)), (2, (.ptr 2 0)), (3, (.vs 3)), (13, (.sl 5 (a0.Calls.map Z3) false)), (14, (.int .i64 (a0.Calls.length : Int))), (15, (.int .i64 0))], [(1, (.box (Z4 a0).cells)), (2, (.box [(.int .i64 0), (.sl 2 [] false)])), (3, (.vec 2 (List.map Zg ([] : List Zv))))]⟩ (ghost_own (k := 3) (m := 3) (sz := 2) I I a w (Z19 ⟨[(3, (.sl 2 [] true)), (1, (.ptr 1 0)), (2, (.ptr 2 0)), (13, (.sl 5 (a0.Calls.map Z3) false)), (14, (.int .i64 (a0.Calls.length : Int))), (15, (.int .i64 0))], [(1, (.box (Z4 a0).cells)), (2, (.box [(.int .i64 0), (.sl 2 [] false)]))]⟩ h ⟨rfl, rfl, rfl, rfl, rfl, rfl, trivial⟩ ⟨rfl, rfl, trivial⟩)) ⟨rfl, rfl, rfl, rfl, rfl, rfl, trivial⟩ ⟨rfl, rfl, rfl, trivial⟩)) <| Z1r (st' := ⟨[(1, (.ptr 1 0)), (2, (.ptr 2 0)), (3, (.vs 3)), (13, (.sl 5 (a0.Calls.map Z3) false)), (14, (.int .i64 (a0.Calls.length : Int))), (15, (.int .i64 0))], [(1, (.box (Z4 a0).cells)), (2, (.box [(.int .i64 0), (.sl 2 [] false)])), (3, (.vec 2 (List.map Zg [])))]⟩) ⟨rfl, rfl, rfl, rfl, rfl, rfl, trivial⟩ ⟨rfl, rfl, rfl, trivial⟩ ?_
 refine Z1g (V := Int × (List Zv)) (X := (List Zv)) (lp := fun k v => F33_l3 K a0 (F33_c5 K a0) k v.1 v.2 = some r) (sh := fun v => ⟨[(1, (.ptr 1 0)), (2, (.ptr 2 0)), (3, (.vs 3)), (13, (.sl 5 (a0.Calls.map Z3) false)), (14, (.int .i64 (a0.Calls.length : Int))), (15, (.int .i64 v.1))], [(1, (.box (Z4 a0).cells)), (2, (.box [(.int .i64 0), (.sl 2 [] false)])), (3, (.vec 2 (List.map Zg v.2)))]⟩) (x := fun v => F33_c5 K a0 v = some r) (shx := fun v => ⟨[(1, (.ptr 1 0)), (2, (.ptr 2 0)), (3, (.vs 3))], [(1, (.box (Z4 a0).cells)), (2, (.box [(.int .i64 0), (.sl 2 [] false)])), (3, (.vec 2 (List.map Zg v)))]⟩) (k := K) (v := (0, [])) h ?_ ?_
 ·intro v h
  revert h
  revert v
  intro v4 h
  try dsimp only at h ⊢
  unfold F33_c5 at h
  refine Zh <| Zi <| Za <| Z1 I (Zq (m := 1) (o := 0) I f44_0 I I) I <| Z1 I (Zt (cs := (Z4 a0).cells) (v := (.sl 4 (a0.Services.map Z2) false)) I o41 I I I) I <| Z1 I (stx_len (l := a0.Services) (enc := Z2) I s41 I) I <| Z1 I (Zj (v := (.vs 3)) I I) I <| AOps.ghost (st' := ⟨[(2, (.ptr 2 0)), (43, (.int .i64 (a0.Services.length : Int))), (44, (.sl 2 (v4.map Zg) false))], [(2, (.box [(.int .i64 0), (.sl 2 [] false)]))]⟩) (fun a w h => (Z19 ⟨[(2, (.ptr 2 0)), (43, (.int .i64 (a0.Services.length : Int))), (44, (.sl 2 (v4.map Zg) false))], [(2, (.box [(.int .i64 0), (.sl 2 [] false)]))]⟩ (ghost_freeze (m := 3) (sz := 2) (es := (List.map Zg v4)) a w (Z19 ⟨[(2, (.ptr 2 0)), (43, (.int .i64 (a0.Services.length : Int))), (44, (.vs 3))], [(3, (.vec 2 (List.map Zg v4))), (2, (.box [(.int .i64 0), (.sl 2 [] false)]))]⟩ h ⟨rfl, rfl, rfl, trivial⟩ ⟨rfl, rfl, trivial⟩)) ⟨rfl, rfl, rfl, trivial⟩ ⟨rfl, trivial⟩)) ?_
  have ⟨v8, hv8, h⟩ := Z1d h
  refine Z1 I (Z1h (ar := [(.int .i64 (a0.Services.length : Int)), (.sl 2 (v4.map Zg) false)]) (caps := []) Tryz.call77 (F77_ok K (a0.Services.length : Int) v4 v8 hv8) I I ⟨rfl, rfl, trivial⟩ I) I <| Z1 I (Zj (v := (.tup [(Zr v8.1), (.int .i64 v8.2)])) I I) I <| Z1 I (st_extract (vs := [(Zr v8.1), (.int .i64 v8.2)]) (v := (Zr v8.1)) I I I) I <| Z1 I (st_extract (vs := [(Zr v8.1), (.int .i64 v8.2)]) (v := (.int .i64 v8.2)) I I I) I <| Z1 I (st_alloc (cs := [(.int .i64 0), (.sl 2 [] false)]) I z83 I I I) I <| Z1 I (Z1i (cs := [(.int .i64 0), (.sl 2 [] false)]) (vs := (Zr v8.1).cells) (ds := (Zr v8.1).cells) (v := (Zr v8.1)) sz83 I I I I I I I I) I <| Z1 I (Zk (v := (.int .i64 v8.2)) I I) I <| Zf ?_
  refine Zh <| Zi <| Za <| Z1 I (Z1p (cs := (Zr v8.1).cells) (vs := (Zr v8.1).cells) I a83 I I I I) I <| Z1 I (Z1i (cs := [(.int .i64 0), (.sl 2 [] false)]) (vs := (Zr v8.1).cells) (ds := (Zr v8.1).cells) (v := (Zr v8.1)) sz83 I I I I I I I I) I <| Zf <| Zh <| Z1a ?_
  have h := Option.some.inj h
  subst h
  refine (hret _ ?_).1
  exact ⟨[(Zr v8.1)], ⟨⟨2, _, rfl, rfl, .inr ⟨_, a83, rfl, rfl⟩⟩, trivial⟩, rfl, trivial⟩
 ·intro N k3 v h IH3 J3
  obtain ⟨v1, v2⟩ := v
  try dsimp only at h IH3 J3 ⊢
  cases k3 with
  | zero => cases h
  | succ k3 =>
   rw [F33_l3] at h
   refine Zi <| Za <| Z1 I (Z1t (k := .i64) (a := v1) (b := (a0.Calls.length : Int)) (c := (decide (v1 < (a0.Calls.length : Int)))) I I I I) I <| Zf <| Zh <| Zi ?_
   have hif := of_if h
   refine Z15 I (fun hc => ?_) (fun hc => ?_)
   ·have h := hif.1 hc
    refine Z17 <| Zh <| Zi <| AWp.block <| Zi <| Za ?_
    have ⟨hg10, h⟩ := Zy h
    refine Z1 I (Z1s (k := .i64) (l := a0.Calls) (enc := Z3) (z := Z5) (n := v1) (cs := (Z3 (a0.Calls.getD v1.toNat Z5)).cells) (full := false) I s42 I I hg10 I) I <| Z1 I (st_loadIA (cs := (Z3 (a0.Calls.getD v1.toNat Z5)).cells) (vs := (Z3 (a0.Calls.getD v1.toNat Z5)).cells) I a88 I I I) I <| Z1 I (st_alloc (cs := [(.str []), (.str []), (.int .i64 0), (.int .i64 0), (.int .i64 0)]) I z88 I I I) I <| Z1 I (Z1i (cs := [(.str []), (.str []), (.int .i64 0), (.int .i64 0), (.int .i64 0)]) (vs := (Z3 (a0.Calls.getD v1.toNat Z5)).cells) (ds := (Z3 (a0.Calls.getD v1.toNat Z5)).cells) (v := (Z3 (a0.Calls.getD v1.toNat Z5))) sz88 I I I I I I I I) I <| Zf <| Zh <| Zi <| Za ?_
    refine Z1 I (Z1p (cs := (Z4 a0).cells) (vs := (Z4 a0).cells) I a44 I I I I) I <| Z1 I (Zq (m := 5) (o := 0) I f88_0 I I) I <| Z1 I (Zt (cs := (Z3 (a0.Calls.getD v1.toNat Z5)).cells) (v := (.str (a0.Calls.getD v1.toNat Z5).Caller)) I o9 I I I) I ?_
    have ⟨v12, hv12, h⟩ := Z1d h
    refine Z1 I (Z1h (ar := [(Z4 a0), (.str (a0.Calls.getD v1.toNat Z5).Caller)]) (caps := []) Tryz.call58 (F58_ok K a0 (a0.Calls.getD v1.toNat Z5).Caller v12 hv12) I I ⟨rfl, rfl, trivial⟩ I) I <| Z1 I (Zj (v := (.tup [(.int .i64 v12.1), (.bool v12.2)])) I I) I <| Z1 I (st_extract (vs := [(.int .i64 v12.1), (.bool v12.2)]) (v := (.int .i64 v12.1)) I I I) I <| Z1 I (st_extract (vs := [(.int .i64 v12.1), (.bool v12.2)]) (v := (.bool v12.2)) I I I) I <| Z1 I (Zk (v := (.int .i64 v12.1)) I I) I <| Z1 I (Zk (v := (.bool v12.2)) I I) I <| Zf <| Zh ?_
    refine Zi <| Za <| Z1 I (Z1p (cs := (Z4 a0).cells) (vs := (Z4 a0).cells) I a44 I I I I) I <| Z1 I (Zq (m := 5) (o := 0) I f88_1 I I) I <| Z1 I (Zt (cs := (Z3 (a0.Calls.getD v1.toNat Z5)).cells) (v := (.str (a0.Calls.getD v1.toNat Z5).Callee)) I o9 I I I) I ?_
    have ⟨v14, hv14, h⟩ := Z1d h
    refine Z1 I (Z1h (ar := [(Z4 a0), (.str (a0.Calls.getD v1.toNat Z5).Callee)]) (caps := []) Tryz.call58 (F58_ok K a0 (a0.Calls.getD v1.toNat Z5).Callee v14 hv14) I I ⟨rfl, rfl, trivial⟩ I) I <| Z1 I (Zj (v := (.tup [(.int .i64 v14.1), (.bool v14.2)])) I I) I <| Z1 I (st_extract (vs := [(.int .i64 v14.1), (.bool v14.2)]) (v := (.int .i64 v14.1)) I I I) I <| Z1 I (st_extract (vs := [(.int .i64 v14.1), (.bool v14.2)]) (v := (.bool v14.2)) I I I) I <| Z1 I (Zk (v := (.int .i64 v14.1)) I I) I <| Z1 I (Zk (v := (.bool v14.2)) I I) I <| Zf <| Zh ?_
    refine Za <| Z1 I (Zj (v := (.vs 3)) I I) I <| Z1 I (Zj (v := (.int .i64 v12.1)) I I) I <| Z1 I (Zj (v := (.int .i64 v14.1)) I I) I <| Z1 I (stx_build (vs := [(0, (.int .i64 v12.1)), (1, (.int .i64 v14.1))]) (cs := [(.int .i64 v12.1), (.int .i64 v14.1)]) I st86 ⟨rfl, rfl, rfl, rfl, trivial⟩ I) I <| Z1 I (Z1j (vs := [(.ag [(.int .i64 v12.1), (.int .i64 v14.1)])]) (enc := Zg) (l := [(⟨v12.1, v14.1⟩ : Zv)]) I el81 I I ⟨rfl, trivial⟩ I els_Tgraph_Edge I I I I) I ?_
    have ⟨hg15, h⟩ := Zy h
    refine Z1 I (st_append (m := 3) (enc := Zg) (l := v2) (l' := [(⟨v12.1, v14.1⟩ : Zv)]) (src := (.vs 37)) (rd := [(37, (.vec 2 (List.map Zg [(⟨v12.1, v14.1⟩ : Zv)])))]) I I el81 I u81 I I I I (oneRead I) els_Tgraph_Edge hg15) I <| Z1 I (Zk (v := (.vs 3)) I I) I <| Zf <| At.end <| Zh <| Za <| Z1 I (Z1o (k := .i64) (a := v1) (b := 1) (c := (IntKind.i64.wrap (v1 + 1))) I I I I) I <| Z1 I (Zj (v := (.int .i64 (IntKind.i64.wrap (v1 + 1)))) I I) I ?_
    refine Zf ?_
    exact Zw (st' := ⟨[(1, (.ptr 1 0)), (2, (.ptr 2 0)), (3, (.vs 3)), (13, (.sl 5 (a0.Calls.map Z3) false)), (14, (.int .i64 (a0.Calls.length : Int))), (15, (.int .i64 (IntKind.i64.wrap (v1 + 1))))], [(1, (.box (Z4 a0).cells)), (2, (.box [(.int .i64 0), (.sl 2 [] false)])), (3, (.vec 2 (List.map Zg (v2 ++ [(⟨v12.1, v14.1⟩ : Zv)]))))]⟩) ⟨rfl, rfl, rfl, rfl, rfl, rfl, trivial⟩ ⟨rfl, rfl, rfl, trivial⟩ (IH3 _ ((IntKind.i64.wrap (v1 + 1)), (v2 ++ [(⟨v12.1, v14.1⟩ : Zv)])) (Nat.lt_succ_self _) h)
   ·have h := hif.2 hc
    refine AWp.exit <| At.thru ?_
    exact Zw (st' := ⟨[(1, (.ptr 1 0)), (2, (.ptr 2 0)), (3, (.vs 3))], [(1, (.box (Z4 a0).cells)), (2, (.box [(.int .i64 0), (.sl 2 [] false)])), (3, (.vec 2 (List.map Zg v2)))]⟩) ⟨rfl, rfl, rfl, trivial⟩ ⟨rfl, rfl, rfl, trivial⟩ (J3 v2 h)
def F113_c6 (K : Nat) (v5 : (List (List Int))) : Option ((List (List Int))) :=
 some v5
def F113_l4 (K : Nat) (a0 : Z1e) (c7 : (List (List Int)) → Option ((List (List Int)))) : Nat → Int → (List (List Int)) → Option ((List (List Int)))
 | 0, _, _ => none
 | k4 + 1, v2, v3 =>
  if (decide (v2 < (a0.Edges.length : Int))) = true then
   if (0 : Int) ≤ v2 ∧ v2 < a0.Edges.length then
    if (0 : Int) ≤ (a0.Edges.getD v2.toNat Zd).From ∧ (a0.Edges.getD v2.toNat Zd).From < v3.length then
     if (a0.Edges.getD v2.toNat Zd).From.toNat < v3.length then
      if (a0.Edges.getD v2.toNat Zd).From.toNat < v3.length then
       if (v3.getD (a0.Edges.getD v2.toNat Zd).From.toNat []).length + [(a0.Edges.getD v2.toNat Zd).To].length ≤ 1073741824 then
        if (0 : Int) ≤ (a0.Edges.getD v2.toNat Zd).From ∧ (a0.Edges.getD v2.toNat Zd).From < (v3.set (a0.Edges.getD v2.toNat Zd).From.toNat ((v3.getD (a0.Edges.getD v2.toNat Zd).From.toNat []) ++ [(a0.Edges.getD v2.toNat Zd).To])).length then
         if (a0.Edges.getD v2.toNat Zd).From.toNat < (v3.set (a0.Edges.getD v2.toNat Zd).From.toNat ((v3.getD (a0.Edges.getD v2.toNat Zd).From.toNat []) ++ [(a0.Edges.getD v2.toNat Zd).To])).length then
          (F113_l4 K a0 c7 k4) (IntKind.i64.wrap (v2 + 1)) (v3.set (a0.Edges.getD v2.toNat Zd).From.toNat ((v3.getD (a0.Edges.getD v2.toNat Zd).From.toNat []) ++ [(a0.Edges.getD v2.toNat Zd).To]))
         else none
        else none
       else none
      else none
     else none
    else none
   else none
  else
   c7 v3
def F113 (K : Nat) (a0 : Z1e) : Option ((List (List Int))) :=
 if (0 : Int) ≤ a0.Count ∧ a0.Count ≤ a0.Count ∧ a0.Count ≤ 1073741824 then
  F113_l4 K a0 (F113_c6 K) K 0 (List.replicate a0.Count.toNat ([] : List Int))
 else none
theorem F113_ok (K : Nat) (a0 : Z1e) (r : (List (List Int))) (h : F113 K a0 = some r) : ACall P 113 ⟨[(Zr a0)], [], (.sl 1 (r.map e_l_i64) false), [], []⟩ := by
 refine Z1n Tryz.func113 Tryz.results113 rfl Tryz.ntmps113 rfl rfl rfl ?_
 intro E Q hP hN hro hret
 obtain ⟨P', nt', w0, F0, p0, S0, β0, ro0⟩ := E
 simp only at hP hN
 subst hP hN
 dsimp only [argT]
 unfold F113 at h
 refine Zi <| Za <| Z1 I (st_box (v := (Zr a0)) (cs := (Zr a0).cells) I I I I I) I <| Z1 I (Zk (v := (.sl 1 [] false)) I I) I <| Zf <| Zh <| Zi <| Za ?_
 refine Z1 I (Zq (m := 1) (o := 0) I f83_0 I I) I <| Z1 I (Zt (cs := (Zr a0).cells) (v := (.int .i64 a0.Count)) I o3 I I I) I ?_
 have ⟨hg1, h⟩ := Zy h
 refine Z1 I (st_makeSlice (enc := (fun _ : Unit => AV.sl 1 [] true)) (z := ()) (kx := .i64) (ky := .i64) (a := a0.Count) (c := a0.Count) (n := a0.Count.toNat) I el168 I zeT65 (fun _ => I) I I I hg1 I) I <| AOps.ghost (st' := ⟨[(1, (.ptr 1 0)), (7, (.int .i64 a0.Count)), (8, (.vs 8))], [(1, (.box (Zr a0).cells)), (8, (.tab (List.map (List.map Z18) (List.replicate a0.Count.toNat ([] : List Int))) none))]⟩) (fun a w h => (Z19 ⟨[(1, (.ptr 1 0)), (7, (.int .i64 a0.Count)), (8, (.vs 8))], [(1, (.box (Zr a0).cells)), (8, (.tab (List.map (List.map Z18) (List.replicate a0.Count.toNat ([] : List Int))) none))]⟩ (ghost_tab (m := 8) (k := a0.Count.toNat) (sz := 1) (enc := Z18) I I a w (Z19 ⟨[(1, (.ptr 1 0)), (7, (.int .i64 a0.Count)), (8, (.vs 8))], [(8, (.vec 1 (List.map (fun _ : Unit => AV.sl 1 [] true) (List.replicate a0.Count.toNat ())))), (1, (.box (Zr a0).cells))]⟩ h ⟨rfl, rfl, rfl, trivial⟩ ⟨rfl, rfl, trivial⟩)) ⟨rfl, rfl, rfl, trivial⟩ ⟨rfl, rfl, trivial⟩)) <| Z1 I (Zk (v := (.vs 8)) I I) I <| Zf <| Zh <| Zi <| Zi <| Za ?_
 refine Z1 I (Zq (m := 1) (o := 0) I f83_1 I I) I <| Z1 I (Zt (cs := (Zr a0).cells) (v := (.sl 2 (a0.Edges.map Zg) false)) I o81 I I I) I <| Z1 I (stx_len (l := a0.Edges) (enc := Zg) I s81 I) I <| Z1 I (Zj (v := (.int .i64 0)) I I) I <| Zf <| Zh <| AWp.ghost (st' := ⟨[(3, (.vs 3)), (10, (.sl 2 (a0.Edges.map Zg) false)), (11, (.int .i64 (a0.Edges.length : Int))), (12, (.int .i64 0))], [(3, (.tab (List.map (List.map Z18) (List.replicate a0.Count.toNat ([] : List Int))) none))]⟩) (fun a w h => (Z19 ⟨[(3, (.vs 3)), (10, (.sl 2 (a0.Edges.map Zg) false)), (11, (.int .i64 (a0.Edges.length : Int))), (12, (.int .i64 0))], [(3, (.tab (List.map (List.map Z18) (List.replicate a0.Count.toNat ([] : List Int))) none))]⟩ (ghost_sw (a := 8) (b := 3) I I a w (Z19 ⟨[(3, (.vs 8)), (10, (.sl 2 (a0.Edges.map Zg) false)), (11, (.int .i64 (a0.Edges.length : Int))), (12, (.int .i64 0))], [(8, (.tab (List.map (List.map Z18) (List.replicate a0.Count.toNat ([] : List Int))) none))]⟩ h ⟨rfl, rfl, rfl, rfl, trivial⟩ ⟨rfl, trivial⟩)) ⟨rfl, rfl, rfl, rfl, trivial⟩ ⟨rfl, trivial⟩)) <| Z1r (st' := ⟨[(3, (.vs 3)), (10, (.sl 2 (a0.Edges.map Zg) false)), (11, (.int .i64 (a0.Edges.length : Int))), (12, (.int .i64 0))], [(3, (.tab (List.map (List.map Z18) (List.replicate a0.Count.toNat ([] : List Int))) none))]⟩) ⟨rfl, rfl, rfl, rfl, trivial⟩ ⟨rfl, trivial⟩ ?_
 refine Z1g (V := Int × (List (List Int))) (X := (List (List Int))) (lp := fun k v => F113_l4 K a0 (F113_c6 K) k v.1 v.2 = some r) (sh := fun v => ⟨[(3, (.vs 3)), (10, (.sl 2 (a0.Edges.map Zg) false)), (11, (.int .i64 (a0.Edges.length : Int))), (12, (.int .i64 v.1))], [(3, (.tab (List.map (List.map Z18) v.2) none))]⟩) (x := fun v => F113_c6 K v = some r) (shx := fun v => ⟨[(3, (.vs 3))], [(3, (.tab (List.map (List.map Z18) v) none))]⟩) (k := K) (v := (0, (List.replicate a0.Count.toNat ([] : List Int)))) h ?_ ?_
 ·intro v h
  revert h
  revert v
  intro v5 h
  try dsimp only at h ⊢
  unfold F113_c6 at h
  refine Zh <| Zi <| Za <| Z1 I (Zj (v := (.vs 3)) I I) I <| Z1 I (Zk (v := (.vs 3)) I I) I <| Zf <| Zh <| Z1a ?_
  refine At.ghost (st' := ⟨[(2, (.sl 1 (v5.map e_l_i64) false))], []⟩) (fun a w h => (Z19 ⟨[(2, (.sl 1 (v5.map e_l_i64) false))], []⟩ (ghost_freezeT (m := 3) (enc := Z18) (l := v5) a w (Z19 ⟨[(2, (.vs 3))], [(3, (.tab (List.map (List.map Z18) v5) none))]⟩ h ⟨rfl, trivial⟩ ⟨rfl, trivial⟩)) ⟨rfl, trivial⟩ trivial)) ?_
  have h := Option.some.inj h
  subst h
  refine (hret _ ?_).1
  exact ⟨[(.sl 1 (v5.map e_l_i64) false)], ⟨rfl, trivial⟩, rfl, trivial⟩
 ·intro N k4 v h IH4 J4
  obtain ⟨v2, v3⟩ := v
  try dsimp only at h IH4 J4 ⊢
  cases k4 with
  | zero => cases h
  | succ k4 =>
   rw [F113_l4] at h
   refine Zi <| Za <| Z1 I (Z1t (k := .i64) (a := v2) (b := (a0.Edges.length : Int)) (c := (decide (v2 < (a0.Edges.length : Int)))) I I I I) I <| Zf <| Zh <| Zi ?_
   have hif := of_if h
   refine Z15 I (fun hc => ?_) (fun hc => ?_)
   ·have h := hif.1 hc
    refine Z17 <| Zh <| Zi <| AWp.block <| Zi <| Za ?_
    have ⟨hg9, h⟩ := Zy h
    refine Z1 I (Z1s (k := .i64) (l := a0.Edges) (enc := Zg) (z := Zd) (n := v2) (cs := (Zg (a0.Edges.getD v2.toNat Zd)).cells) (full := false) I s81 I I hg9 I) I <| Z1 I (st_loadIA (cs := (Zg (a0.Edges.getD v2.toNat Zd)).cells) (vs := (Zg (a0.Edges.getD v2.toNat Zd)).cells) I a86 I I I) I <| Z1 I (st_alloc (cs := [(.int .i64 0), (.int .i64 0)]) I z86 I I I) I <| Z1 I (Z1i (cs := [(.int .i64 0), (.int .i64 0)]) (vs := (Zg (a0.Edges.getD v2.toNat Zd)).cells) (ds := (Zg (a0.Edges.getD v2.toNat Zd)).cells) (v := (Zg (a0.Edges.getD v2.toNat Zd))) sz86 I I I I I I I I) I <| Zf <| Zh <| Z1w mixed <| Z8 0 I (Zj (v := (.vs 3)) I I) ?_
    refine Z8 1 I (Zq (m := 5) (o := 0) I f86_0 I I) <| Z8 2 I (Zt (cs := (Zg (a0.Edges.getD v2.toNat Zd)).cells) (v := (.int .i64 (a0.Edges.getD v2.toNat Zd).From)) I o3 I I I) <| Z8 3 I (Zj (v := (.vs 3)) I I) <| Z8 4 I (Zq (m := 5) (o := 0) I f86_0 I I) <| Z8 5 I (Zt (cs := (Zg (a0.Edges.getD v2.toNat Zd)).cells) (v := (.int .i64 (a0.Edges.getD v2.toNat Zd).From)) I o3 I I I) ?_
    have ⟨hg10, h⟩ := Zy h
    refine Z8 6 I (st_indexT (enc := Z18) (l := v3) (k := .i64) (j := (a0.Edges.getD v2.toNat Zd).From) (m := (a0.Edges.getD v2.toNat Zd).From.toNat) I s168 I I I hg10 I) ?_
    have ⟨hg11, h⟩ := Zy h
    refine Z8 7 I (st_loadT (enc := Z18) (l := v3) I o65 I I hg11) <| Z8 8 I (Zq (m := 5) (o := 0) I f86_1 I I) <| Z8 9 I (Zt (cs := (Zg (a0.Edges.getD v2.toNat Zd)).cells) (v := (.int .i64 (a0.Edges.getD v2.toNat Zd).To)) I o3 I I I) <| Z8 10 I (Z1j (vs := [(.int .i64 (a0.Edges.getD v2.toNat Zd).To)]) (enc := Z18) (l := [(a0.Edges.getD v2.toNat Zd).To]) I el65 I I ⟨rfl, trivial⟩ I els_i64 I I I I) ?_
    have ⟨hg12, h⟩ := Zy h
    have ⟨hg13, h⟩ := Zy h
    refine Z8 11 I (st_appendTR (enc := Z18) (l := v3) (l' := [(a0.Edges.getD v2.toNat Zd).To]) (src := (.vs 26)) (rd := [(26, (.vec 1 (List.map Z18 [(a0.Edges.getD v2.toNat Zd).To])))]) I I el65 I u65 I I hg12 I I (oneRead I) els_i64 hg13) ?_
    have ⟨hg14, h⟩ := Zy h
    refine Z8 12 I (st_indexT (enc := Z18) (l := (v3.set (a0.Edges.getD v2.toNat Zd).From.toNat ((v3.getD (a0.Edges.getD v2.toNat Zd).From.toNat []) ++ [(a0.Edges.getD v2.toNat Zd).To]))) (k := .i64) (j := (a0.Edges.getD v2.toNat Zd).From) (m := (a0.Edges.getD v2.toNat Zd).From.toNat) I s168 I I I hg14 I) ?_
    have ⟨hg15, h⟩ := Zy h
    refine Z8 13 I (st_storeTR (enc := Z18) (l := (v3.set (a0.Edges.getD v2.toNat Zd).From.toNat ((v3.getD (a0.Edges.getD v2.toNat Zd).From.toNat []) ++ [(a0.Edges.getD v2.toNat Zd).To]))) sz65 I I I hg15) <| AOpsD.nil (by kernel_rfl) I <| At.end <| Zh <| Za <| Z1 I (Z1o (k := .i64) (a := v2) (b := 1) (c := (IntKind.i64.wrap (v2 + 1))) I I I I) I <| Z1 I (Zj (v := (.int .i64 (IntKind.i64.wrap (v2 + 1)))) I I) I <| Zf ?_
    exact Zw (st' := ⟨[(3, (.vs 3)), (10, (.sl 2 (a0.Edges.map Zg) false)), (11, (.int .i64 (a0.Edges.length : Int))), (12, (.int .i64 (IntKind.i64.wrap (v2 + 1))))], [(3, (.tab (List.map (List.map Z18) (v3.set (a0.Edges.getD v2.toNat Zd).From.toNat ((v3.getD (a0.Edges.getD v2.toNat Zd).From.toNat []) ++ [(a0.Edges.getD v2.toNat Zd).To]))) none))]⟩) ⟨rfl, rfl, rfl, rfl, trivial⟩ ⟨rfl, trivial⟩ (IH4 _ ((IntKind.i64.wrap (v2 + 1)), (v3.set (a0.Edges.getD v2.toNat Zd).From.toNat ((v3.getD (a0.Edges.getD v2.toNat Zd).From.toNat []) ++ [(a0.Edges.getD v2.toNat Zd).To]))) (Nat.lt_succ_self _) h)
   ·have h := hif.2 hc
    refine AWp.exit <| At.thru ?_
    exact Zw (st' := ⟨[(3, (.vs 3))], [(3, (.tab (List.map (List.map Z18) v3) none))]⟩) ⟨rfl, trivial⟩ ⟨rfl, trivial⟩ (J4 v3 h)
def F75_c5 (K : Nat) (v4 : (List Str)) : Option ((List Str)) :=
 some v4
def F75_l3 (K : Nat) (a1 : (List Int)) (a0 : Zb) (c6 : (List Str) → Option ((List Str))) : Nat → Int → (List Str) → Option ((List Str))
 | 0, _, _ => none
 | k3 + 1, v1, v2 =>
  if (decide (v1 < (a1.length : Int))) = true then
   if (0 : Int) ≤ v1 ∧ v1 < a1.length then
    if (0 : Int) ≤ (a1.getD v1.toNat 0) ∧ (a1.getD v1.toNat 0) < a0.Services.length then
     if v2.length + [(a0.Services.getD (a1.getD v1.toNat 0).toNat Z6).Name].length ≤ 1073741824 then
      (F75_l3 K a1 a0 c6 k3) (IntKind.i64.wrap (v1 + 1)) (v2 ++ [(a0.Services.getD (a1.getD v1.toNat 0).toNat Z6).Name])
     else none
    else none
   else none
  else
   c6 v2
def F75 (K : Nat) (a0 : Zb) (a1 : (List Int)) : Option ((List Str)) :=
 F75_l3 K a1 a0 (F75_c5 K) K 0 []
theorem F75_ok (K : Nat) (a0 : Zb) (a1 : (List Int)) (r : (List Str)) (h : F75 K a0 a1 = some r) : ACall P 75 ⟨[(Z4 a0), (.sl 1 (a1.map Z18) false)], [], (.sl 1 (r.map Z1c) false), [], []⟩ := by
 refine Z1n Tryz.func75 Tryz.results75 rfl Tryz.ntmps75 rfl rfl rfl ?_
 intro E Q hP hN hro hret
 obtain ⟨P', nt', w0, F0, p0, S0, β0, ro0⟩ := E
 simp only at hP hN
 subst hP hN
 dsimp only [argT]
 unfold F75 at h
 refine Zi <| Za <| Z1 I (st_box (v := (Z4 a0)) (cs := (Z4 a0).cells) I I I I I) I <| Z1 I (Zk (v := (.sl 1 [] false)) I I) I <| Zf <| Zh <| Zi <| Za ?_
 refine Z1 I (Zk (v := (.sl 1 [] true)) I I) I <| Zf <| Zh <| Zi <| Zi <| Za <| Z1 I (Zj (v := (.sl 1 (a1.map Z18) false)) I I) I <| Z1 I (stx_len (l := a1) (enc := Z18) I s65 I) I ?_
 refine Z1 I (Zj (v := (.int .i64 0)) I I) I <| Zf <| Zh <| AWp.ghost (st' := ⟨[(2, (.ptr 2 0)), (5, (.vs 5)), (8, (.sl 1 (a1.map Z18) false)), (9, (.int .i64 (a1.length : Int))), (10, (.int .i64 0))], [(2, (.box (Z4 a0).cells)), (5, (.vec 1 (List.map Z1c ([] : List Str))))]⟩) (fun a w h => (Z19 ⟨[(2, (.ptr 2 0)), (5, (.vs 5)), (8, (.sl 1 (a1.map Z18) false)), (9, (.int .i64 (a1.length : Int))), (10, (.int .i64 0))], [(2, (.box (Z4 a0).cells)), (5, (.vec 1 (List.map Z1c ([] : List Str))))]⟩ (ghost_own (k := 5) (m := 5) (sz := 1) I I a w (Z19 ⟨[(5, (.sl 1 [] true)), (2, (.ptr 2 0)), (8, (.sl 1 (a1.map Z18) false)), (9, (.int .i64 (a1.length : Int))), (10, (.int .i64 0))], [(2, (.box (Z4 a0).cells))]⟩ h ⟨rfl, rfl, rfl, rfl, rfl, trivial⟩ ⟨rfl, trivial⟩)) ⟨rfl, rfl, rfl, rfl, rfl, trivial⟩ ⟨rfl, rfl, trivial⟩)) <| Z1r (st' := ⟨[(2, (.ptr 2 0)), (5, (.vs 5)), (8, (.sl 1 (a1.map Z18) false)), (9, (.int .i64 (a1.length : Int))), (10, (.int .i64 0))], [(2, (.box (Z4 a0).cells)), (5, (.vec 1 (List.map Z1c [])))]⟩) ⟨rfl, rfl, rfl, rfl, rfl, trivial⟩ ⟨rfl, rfl, trivial⟩ ?_
 refine Z1g (V := Int × (List Str)) (X := (List Str)) (lp := fun k v => F75_l3 K a1 a0 (F75_c5 K) k v.1 v.2 = some r) (sh := fun v => ⟨[(2, (.ptr 2 0)), (5, (.vs 5)), (8, (.sl 1 (a1.map Z18) false)), (9, (.int .i64 (a1.length : Int))), (10, (.int .i64 v.1))], [(2, (.box (Z4 a0).cells)), (5, (.vec 1 (List.map Z1c v.2)))]⟩) (x := fun v => F75_c5 K v = some r) (shx := fun v => ⟨[(5, (.vs 5))], [(5, (.vec 1 (List.map Z1c v)))]⟩) (k := K) (v := (0, [])) h ?_ ?_
 ·intro v h
  revert h
  revert v
  intro v4 h
  try dsimp only at h ⊢
  unfold F75_c5 at h
  refine Zh <| Zi <| Za <| Z1 I (Zj (v := (.vs 5)) I I) I <| Z1 I (Zk (v := (.vs 5)) I I) I <| Zf <| Zh <| Z1a ?_
  refine At.ghost (st' := ⟨[(4, (.sl 1 (v4.map Z1c) false))], []⟩) (fun a w h => (Z19 ⟨[(4, (.sl 1 (v4.map Z1c) false))], []⟩ (ghost_freeze (m := 5) (sz := 1) (es := (List.map Z1c v4)) a w (Z19 ⟨[(4, (.vs 5))], [(5, (.vec 1 (List.map Z1c v4)))]⟩ h ⟨rfl, trivial⟩ ⟨rfl, trivial⟩)) ⟨rfl, trivial⟩ trivial)) ?_
  have h := Option.some.inj h
  subst h
  refine (hret _ ?_).1
  exact ⟨[(.sl 1 (v4.map Z1c) false)], ⟨rfl, trivial⟩, rfl, trivial⟩
 ·intro N k3 v h IH3 J3
  obtain ⟨v1, v2⟩ := v
  try dsimp only at h IH3 J3 ⊢
  cases k3 with
  | zero => cases h
  | succ k3 =>
   rw [F75_l3] at h
   refine Zi <| Za <| Z1 I (Z1t (k := .i64) (a := v1) (b := (a1.length : Int)) (c := (decide (v1 < (a1.length : Int)))) I I I I) I <| Zf <| Zh <| Zi ?_
   have hif := of_if h
   refine Z15 I (fun hc => ?_) (fun hc => ?_)
   ·have h := hif.1 hc
    refine Z17 <| Zh <| Zi <| AWp.block <| Zi <| Za ?_
    have ⟨hg8, h⟩ := Zy h
    refine Z1 I (Z1s (k := .i64) (l := a1) (enc := Z18) (z := 0) (n := v1) (cs := [(.int .i64 (a1.getD v1.toNat 0))]) (full := false) I s65 I I hg8 I) I <| Z1 I (st_loadI (cs := [(.int .i64 (a1.getD v1.toNat 0))]) (v := (.int .i64 (a1.getD v1.toNat 0))) I o3 I I) I <| Z1 I (Zk (v := (.int .i64 (a1.getD v1.toNat 0))) I I) I <| Zf <| Zh <| Za <| Z1 I (Zj (v := (.vs 5)) I I) I <| Z1 I (Zq (m := 2) (o := 0) I f44_0 I I) I ?_
    refine Z1 I (Zt (cs := (Z4 a0).cells) (v := (.sl 4 (a0.Services.map Z2) false)) I o41 I I I) I <| Z1 I (Zj (v := (.int .i64 (a1.getD v1.toNat 0))) I I) I ?_
    have ⟨hg9, h⟩ := Zy h
    refine Z1 I (Z1s (k := .i64) (l := a0.Services) (enc := Z2) (z := Z6) (n := (a1.getD v1.toNat 0)) (cs := (Z2 (a0.Services.getD (a1.getD v1.toNat 0).toNat Z6)).cells) (full := false) I s41 I I hg9 I) I <| Z1 I (st_fieldI (cs := (Z2 (a0.Services.getD (a1.getD v1.toNat 0).toNat Z6)).cells) (ds := (Z2 (a0.Services.getD (a1.getD v1.toNat 0).toNat Z6)).cells) I f68_0 I I I) I <| Z1 I (st_loadI (cs := (Z2 (a0.Services.getD (a1.getD v1.toNat 0).toNat Z6)).cells) (v := (.str (a0.Services.getD (a1.getD v1.toNat 0).toNat Z6).Name)) I o9 I I) I <| Z1 I (Z1j (vs := [(.str (a0.Services.getD (a1.getD v1.toNat 0).toNat Z6).Name)]) (enc := Z1c) (l := [(a0.Services.getD (a1.getD v1.toNat 0).toNat Z6).Name]) I el73 I I ⟨rfl, trivial⟩ I els_str I I I I) I ?_
    have ⟨hg10, h⟩ := Zy h
    refine Z1 I (st_append (m := 5) (enc := Z1c) (l := v2) (l' := [(a0.Services.getD (a1.getD v1.toNat 0).toNat Z6).Name]) (src := (.vs 21)) (rd := [(21, (.vec 1 (List.map Z1c [(a0.Services.getD (a1.getD v1.toNat 0).toNat Z6).Name])))]) I I el73 I u73 I I I I (oneRead I) els_str hg10) I <| Z1 I (Zk (v := (.vs 5)) I I) I <| Zf <| At.end <| Zh <| Za <| Z1 I (Z1o (k := .i64) (a := v1) (b := 1) (c := (IntKind.i64.wrap (v1 + 1))) I I I I) I <| Z1 I (Zj (v := (.int .i64 (IntKind.i64.wrap (v1 + 1)))) I I) I ?_
    refine Zf ?_
    exact Zw (st' := ⟨[(2, (.ptr 2 0)), (5, (.vs 5)), (8, (.sl 1 (a1.map Z18) false)), (9, (.int .i64 (a1.length : Int))), (10, (.int .i64 (IntKind.i64.wrap (v1 + 1))))], [(2, (.box (Z4 a0).cells)), (5, (.vec 1 (List.map Z1c (v2 ++ [(a0.Services.getD (a1.getD v1.toNat 0).toNat Z6).Name]))))]⟩) ⟨rfl, rfl, rfl, rfl, rfl, trivial⟩ ⟨rfl, rfl, trivial⟩ (IH3 _ ((IntKind.i64.wrap (v1 + 1)), (v2 ++ [(a0.Services.getD (a1.getD v1.toNat 0).toNat Z6).Name])) (Nat.lt_succ_self _) h)
   ·have h := hif.2 hc
    refine AWp.exit <| At.thru ?_
    exact Zw (st' := ⟨[(5, (.vs 5))], [(5, (.vec 1 (List.map Z1c v2)))]⟩) ⟨rfl, trivial⟩ ⟨rfl, trivial⟩ (J3 v2 h)
def F38_c3 (K : Nat) : Option (Bool) :=
 some false
def F38_l2 (K : Nat) (a0 : (List Str)) (a1 : Str) (c4 : Option (Bool)) : Nat → Int → Option (Bool)
 | 0, _ => none
 | k2 + 1, v1 =>
  if (decide (v1 < (a0.length : Int))) = true then
   if (0 : Int) ≤ v1 ∧ v1 < a0.length then
    if ((a0.getD v1.toNat []) == a1) = true then
     some true
    else
     (F38_l2 K a0 a1 c4 k2) (IntKind.i64.wrap (v1 + 1))
   else none
  else
   c4
def F38 (K : Nat) (a0 : (List Str)) (a1 : Str) : Option (Bool) :=
 F38_l2 K a0 a1 (F38_c3 K) K 0
theorem F38_ok (K : Nat) (a0 : (List Str)) (a1 : Str) (r : Bool) (h : F38 K a0 a1 = some r) : ACall P 38 ⟨[(.sl 1 (a0.map Z1c) false), (.str a1)], [], (.bool r), [], []⟩ := by
 refine Z1n Tryz.func38 Tryz.results38 rfl Tryz.ntmps38 rfl rfl rfl ?_
 intro E Q hP hN hro hret
 obtain ⟨P', nt', w0, F0, p0, S0, β0, ro0⟩ := E
 simp only at hP hN
 subst hP hN
 dsimp only [argT]
 unfold F38 at h
 refine Zi <| Za <| Z1 I (Zk (v := (.bool false)) I I) I <| Zf <| Zh <| Zi <| Zi <| Za ?_
 refine Z1 I (Zk (v := (.int .i64 0)) I I) I <| Zf <| Zh <| Z1r (st' := ⟨[(0, (.sl 1 (a0.map Z1c) false)), (1, (.str a1)), (5, (.int .i64 0))], []⟩) ⟨rfl, rfl, rfl, trivial⟩ trivial ?_
 refine Z1g (V := Int) (X := Unit) (lp := fun k v => F38_l2 K a0 a1 (F38_c3 K) k v = some r) (sh := fun v => ⟨[(0, (.sl 1 (a0.map Z1c) false)), (1, (.str a1)), (5, (.int .i64 v))], []⟩) (x := fun v => F38_c3 K = some r) (shx := fun v => ⟨[], []⟩) (k := K) (v := 0) h ?_ ?_
 ·intro v h
  try dsimp only at h ⊢
  unfold F38_c3 at h
  refine Zh <| Zi <| Za <| Z1 I (Zk (v := (.bool false)) I I) I <| Zf <| Zh <| Z1a ?_
  have h := Option.some.inj h
  subst h
  refine (hret _ ?_).1
  exact ⟨[(.bool false)], ⟨rfl, trivial⟩, rfl, trivial⟩
 ·intro N k2 v h IH2 J2
  revert h
  revert v
  intro v1 h
  try dsimp only at h IH2 J2 ⊢
  cases k2 with
  | zero => cases h
  | succ k2 =>
   rw [F38_l2] at h
   refine Zi <| Zi <| Za <| Z1 I (Zj (v := (.int .i64 v1)) I I) I <| Z1 I (Zj (v := (.sl 1 (a0.map Z1c) false)) I I) I <| Z1 I (stx_len (l := a0) (enc := Z1c) I s73 I) I <| Z1 I (Z1t (k := .i64) (a := v1) (b := (a0.length : Int)) (c := (decide (v1 < (a0.length : Int)))) I I I I) I <| Zf ?_
   refine Zh ?_
   have hif := of_if h
   refine Z15 I (fun hc => ?_) (fun hc => ?_)
   ·have h := hif.1 hc
    refine Z17 <| Zh <| Zi <| AWp.block <| Zi <| Za <| Z1 I (Zj (v := (.sl 1 (a0.map Z1c) false)) I I) I <| Z1 I (Zj (v := (.int .i64 v1)) I I) I ?_
    have ⟨hg6, h⟩ := Zy h
    refine Z1 I (Z1s (k := .i64) (l := a0) (enc := Z1c) (z := []) (n := v1) (cs := [(.str (a0.getD v1.toNat []))]) (full := false) I s73 I I hg6 I) I <| Z1 I (st_loadI (cs := [(.str (a0.getD v1.toNat []))]) (v := (.str (a0.getD v1.toNat []))) I o9 I I) I <| Z1 I (Zj (v := (.str a1)) I I) I <| Z1 I (st_cmpS (a := (a0.getD v1.toNat [])) (b := a1) (c := ((a0.getD v1.toNat []) == a1)) I I I I) I <| Zf <| Zh ?_
    have hif := of_if h
    refine Z15 I (fun hc => ?_) (fun hc => ?_)
    ·have h := hif.1 hc
     refine Zi <| Za <| Z1 I (Zk (v := (.bool true)) I I) I <| Zf <| Zh <| Z1a <| At.overR <| Z1f ?_
     refine Z1f (At.overR ?_)
     refine Z1f ?_
     have h := Option.some.inj h
     subst h
     refine (hret _ ?_).1
     exact ⟨[(.bool true)], ⟨rfl, trivial⟩, rfl, trivial⟩
    ·have h := hif.2 hc
     refine Z17 <| At.end <| Zh <| Za <| Z1 I (Zj (v := (.int .i64 v1)) I I) I <| Z1 I (Z1o (k := .i64) (a := v1) (b := 1) (c := (IntKind.i64.wrap (v1 + 1))) I I I I) I <| Z1 I (Zk (v := (.int .i64 (IntKind.i64.wrap (v1 + 1)))) I I) I <| Zf ?_
     exact Zw (st' := ⟨[(0, (.sl 1 (a0.map Z1c) false)), (1, (.str a1)), (5, (.int .i64 (IntKind.i64.wrap (v1 + 1))))], []⟩) ⟨rfl, rfl, rfl, trivial⟩ trivial (IH2 _ (IntKind.i64.wrap (v1 + 1)) (Nat.lt_succ_self _) h)
   ·have h := hif.2 hc
    refine AWp.exit <| At.thru ?_
    exact Zw (st' := ⟨[], []⟩) trivial trivial (J2 () h)
def F37_c11 (K : Nat) (v10 : (List Str)) : Option ((List Str)) :=
 some v10
def F37_j18 (K : Nat) (b13 : Int → (List Str) → Option ((List Str))) (v7 : Int) (v17 : (List Str)) : Option ((List Str)) :=
 b13 (IntKind.i64.wrap (v7 + 1)) v17
def F37_l9 (K : Nat) (a0 : Zb) (v4 : (List Str)) (c12 : (List Str) → Option ((List Str))) : Nat → Int → (List Str) → Option ((List Str))
 | 0, _, _ => none
 | k9 + 1, v7, v8 =>
  if (decide (v7 < (a0.Services.length : Int))) = true then
   if (0 : Int) ≤ v7 ∧ v7 < a0.Services.length then
    (F38 K v4 (a0.Services.getD v7.toNat Z6).Name).bind fun v16 =>
     if v16 = true then
      if (0 : Int) ≤ v7 ∧ v7 < a0.Services.length then
       if v8.length + [(a0.Services.getD v7.toNat Z6).Name].length ≤ 1073741824 then
        F37_j18 K (F37_l9 K a0 v4 c12 k9) v7 (v8 ++ [(a0.Services.getD v7.toNat Z6).Name])
       else none
      else none
     else
      F37_j18 K (F37_l9 K a0 v4 c12 k9) v7 v8
   else none
  else
   c12 v8
def F37_c5 (K : Nat) (a0 : Zb) (v4 : (List Str)) : Option ((List Str)) :=
 F37_l9 K a0 v4 (F37_c11 K) K 0 []
def F37_c26 (K : Nat) (b21 : Int → (List Str) → Option ((List Str))) (v1 : Int) (v25 : (List Str)) : Option ((List Str)) :=
 b21 (IntKind.i64.wrap (v1 + 1)) v25
def F37_j37 (K : Nat) (b28 : Int → (List Str) → Option ((List Str))) (v22 : Int) (v36 : (List Str)) : Option ((List Str)) :=
 b28 (IntKind.i64.wrap (v22 + 1)) v36
def F37_j35 (K : Nat) (v23 : (List Str)) (v32 : Str) (b28 : Int → (List Str) → Option ((List Str))) (v22 : Int) (v34 : Bool) : Option ((List Str)) :=
 if v34 = true then
  if v23.length + [v32].length ≤ 1073741824 then
   F37_j37 K b28 v22 (v23 ++ [v32])
  else none
 else
  F37_j37 K b28 v22 v23
def F37_j33 (K : Nat) (a1 : Str) (v23 : (List Str)) (b28 : Int → (List Str) → Option ((List Str))) (v22 : Int) (v31 : Str) (v32 : Str) : Option ((List Str)) :=
 if (v31 == a1) = true then
  (F38 K v23 v32).bind fun v40 =>
   F37_j35 K v23 v32 b28 v22 (!v40)
 else
  (F38 K v23 v31).bind fun v42 =>
   if v42 = true then
    (F38 K v23 v32).bind fun v44 =>
     F37_j35 K v23 v32 b28 v22 (!v44)
   else
    F37_j35 K v23 v32 b28 v22 false
def F37_l24 (K : Nat) (a0 : Zb) (a2 : Bool) (a1 : Str) (c27 : (List Str) → Option ((List Str))) : Nat → Int → (List Str) → Option ((List Str))
 | 0, _, _ => none
 | k24 + 1, v22, v23 =>
  if (decide (v22 < (a0.Calls.length : Int))) = true then
   if (0 : Int) ≤ v22 ∧ v22 < a0.Calls.length then
    if (0 : Int) ≤ v22 ∧ v22 < a0.Calls.length then
     if a2 = true then
      F37_j33 K a1 v23 (F37_l24 K a0 a2 a1 c27 k24) v22 (a0.Calls.getD v22.toNat Z5).Callee (a0.Calls.getD v22.toNat Z5).Caller
     else
      F37_j33 K a1 v23 (F37_l24 K a0 a2 a1 c27 k24) v22 (a0.Calls.getD v22.toNat Z5).Caller (a0.Calls.getD v22.toNat Z5).Callee
    else none
   else none
  else
   c27 v23
def F37_l3 (K : Nat) (a0 : Zb) (a2 : Bool) (a1 : Str) (c6 : (List Str) → Option ((List Str))) : Nat → Int → (List Str) → Option ((List Str))
 | 0, _, _ => none
 | k3 + 1, v1, v2 =>
  if (decide (v1 ≤ (a0.Services.length : Int))) = true then
   F37_l24 K a0 a2 a1 (F37_c26 K (F37_l3 K a0 a2 a1 c6 k3) v1) K 0 v2
  else
   c6 v2
def F37 (K : Nat) (a0 : Zb) (a1 : Str) (a2 : Bool) : Option ((List Str)) :=
 F37_l3 K a0 a2 a1 (F37_c5 K a0) K 0 []
theorem F37_ok (K : Nat) (a0 : Zb) (a1 : Str) (a2 : Bool) (r : (List Str)) (h : F37 K a0 a1 a2 = some r) : ACall P 37 ⟨[(Z4 a0), (.str a1), (.bool a2)], [], (.sl 1 (r.map Z1c) false), [], []⟩ := by
 refine Z1n Tryz.func37 Tryz.results37 rfl Tryz.ntmps37 rfl rfl rfl ?_
 intro E Q hP hN hro hret
 obtain ⟨P', nt', w0, F0, p0, S0, β0, ro0⟩ := E
 simp only at hP hN
 subst hP hN
 dsimp only [argT]
 unfold F37 at h
 refine Zi <| Za <| Z1 I (st_box (v := (Z4 a0)) (cs := (Z4 a0).cells) I I I I I) I <| Z1 I (Zk (v := (.sl 1 [] false)) I I) I <| Zf <| Zh <| Zi <| Za ?_
 refine Z1 I (Zk (v := (.sl 1 [] true)) I I) I <| Zf <| Zh <| Zi <| Zi <| Za <| Z1 I (Zk (v := (.int .i64 0)) I I) I <| Zf ?_
 refine Zh <| AWp.ghost (st' := ⟨[(1, (.str a1)), (2, (.bool a2)), (3, (.ptr 3 0)), (7, (.vs 7)), (8, (.int .i64 0))], [(3, (.box (Z4 a0).cells)), (7, (.vec 1 (List.map Z1c ([] : List Str))))]⟩) (fun a w h => (Z19 ⟨[(1, (.str a1)), (2, (.bool a2)), (3, (.ptr 3 0)), (7, (.vs 7)), (8, (.int .i64 0))], [(3, (.box (Z4 a0).cells)), (7, (.vec 1 (List.map Z1c ([] : List Str))))]⟩ (ghost_own (k := 7) (m := 7) (sz := 1) I I a w (Z19 ⟨[(7, (.sl 1 [] true)), (1, (.str a1)), (2, (.bool a2)), (3, (.ptr 3 0)), (8, (.int .i64 0))], [(3, (.box (Z4 a0).cells))]⟩ h ⟨rfl, rfl, rfl, rfl, rfl, trivial⟩ ⟨rfl, trivial⟩)) ⟨rfl, rfl, rfl, rfl, rfl, trivial⟩ ⟨rfl, rfl, trivial⟩)) <| Z1r (st' := ⟨[(1, (.str a1)), (2, (.bool a2)), (3, (.ptr 3 0)), (7, (.vs 7)), (8, (.int .i64 0))], [(3, (.box (Z4 a0).cells)), (7, (.vec 1 (List.map Z1c [])))]⟩) ⟨rfl, rfl, rfl, rfl, rfl, trivial⟩ ⟨rfl, rfl, trivial⟩ ?_
 refine Z1g (V := Int × (List Str)) (X := (List Str)) (lp := fun k v => F37_l3 K a0 a2 a1 (F37_c5 K a0) k v.1 v.2 = some r) (sh := fun v => ⟨[(1, (.str a1)), (2, (.bool a2)), (3, (.ptr 3 0)), (7, (.vs 7)), (8, (.int .i64 v.1))], [(3, (.box (Z4 a0).cells)), (7, (.vec 1 (List.map Z1c v.2)))]⟩) (x := fun v => F37_c5 K a0 v = some r) (shx := fun v => ⟨[(3, (.ptr 3 0)), (7, (.vs 7))], [(3, (.box (Z4 a0).cells)), (7, (.vec 1 (List.map Z1c v)))]⟩) (k := K) (v := (0, [])) h ?_ ?_
 ·intro v h
  revert h
  revert v
  intro v4 h
  try dsimp only at h ⊢
  unfold F37_c5 at h
  refine Zh <| Zi <| Za <| Z1 I (Zk (v := (.sl 1 [] true)) I I) I <| Zf <| Zh <| Zi <| Zi ?_
  refine Za <| Z1 I (Zk (v := (.int .i64 0)) I I) I <| Zf <| Zh <| AWp.ghost (st' := ⟨[(3, (.ptr 3 0)), (7, (.vs 7)), (12, (.vs 12)), (13, (.int .i64 0))], [(3, (.box (Z4 a0).cells)), (7, (.vec 1 (List.map Z1c v4))), (12, (.vec 1 (List.map Z1c ([] : List Str))))]⟩) (fun a w h => (Z19 ⟨[(3, (.ptr 3 0)), (7, (.vs 7)), (12, (.vs 12)), (13, (.int .i64 0))], [(3, (.box (Z4 a0).cells)), (7, (.vec 1 (List.map Z1c v4))), (12, (.vec 1 (List.map Z1c ([] : List Str))))]⟩ (ghost_own (k := 12) (m := 12) (sz := 1) I I a w (Z19 ⟨[(12, (.sl 1 [] true)), (3, (.ptr 3 0)), (7, (.vs 7)), (13, (.int .i64 0))], [(3, (.box (Z4 a0).cells)), (7, (.vec 1 (List.map Z1c v4)))]⟩ h ⟨rfl, rfl, rfl, rfl, trivial⟩ ⟨rfl, rfl, trivial⟩)) ⟨rfl, rfl, rfl, rfl, trivial⟩ ⟨rfl, rfl, rfl, trivial⟩)) <| Z1r (st' := ⟨[(3, (.ptr 3 0)), (7, (.vs 7)), (12, (.vs 12)), (13, (.int .i64 0))], [(3, (.box (Z4 a0).cells)), (7, (.vec 1 (List.map Z1c v4))), (12, (.vec 1 (List.map Z1c [])))]⟩) ⟨rfl, rfl, rfl, rfl, trivial⟩ ⟨rfl, rfl, rfl, trivial⟩ ?_
  refine Z1g (V := Int × (List Str)) (X := (List Str)) (lp := fun k v => F37_l9 K a0 v4 (F37_c11 K) k v.1 v.2 = some r) (sh := fun v => ⟨[(3, (.ptr 3 0)), (7, (.vs 7)), (12, (.vs 12)), (13, (.int .i64 v.1))], [(3, (.box (Z4 a0).cells)), (7, (.vec 1 (List.map Z1c v4))), (12, (.vec 1 (List.map Z1c v.2)))]⟩) (x := fun v => F37_c11 K v = some r) (shx := fun v => ⟨[(12, (.vs 12))], [(12, (.vec 1 (List.map Z1c v)))]⟩) (k := K) (v := (0, [])) h ?_ ?_
  ·intro v h
   revert h
   revert v
   intro v10 h
   try dsimp only at h ⊢
   unfold F37_c11 at h
   refine Zh <| Zi <| Za <| Z1 I (Zj (v := (.vs 12)) I I) I <| Z1 I (Zk (v := (.vs 12)) I I) I <| Zf <| Zh <| Z1a ?_
   refine At.ghost (st' := ⟨[(6, (.sl 1 (v10.map Z1c) false))], []⟩) (fun a w h => (Z19 ⟨[(6, (.sl 1 (v10.map Z1c) false))], []⟩ (ghost_freeze (m := 12) (sz := 1) (es := (List.map Z1c v10)) a w (Z19 ⟨[(6, (.vs 12))], [(12, (.vec 1 (List.map Z1c v10)))]⟩ h ⟨rfl, trivial⟩ ⟨rfl, trivial⟩)) ⟨rfl, trivial⟩ trivial)) ?_
   have h := Option.some.inj h
   subst h
   refine (hret _ ?_).1
   exact ⟨[(.sl 1 (v10.map Z1c) false)], ⟨rfl, trivial⟩, rfl, trivial⟩
  ·intro N k9 v h IH9 J9
   obtain ⟨v7, v8⟩ := v
   try dsimp only at h IH9 J9 ⊢
   cases k9 with
   | zero => cases h
   | succ k9 =>
    rw [F37_l9] at h
    refine Zi <| Zi <| Za <| Z1 I (Zj (v := (.int .i64 v7)) I I) I <| Z1 I (Zq (m := 3) (o := 0) I f44_0 I I) I <| Z1 I (Zt (cs := (Z4 a0).cells) (v := (.sl 4 (a0.Services.map Z2) false)) I o41 I I I) I <| Z1 I (stx_len (l := a0.Services) (enc := Z2) I s41 I) I <| Z1 I (Z1t (k := .i64) (a := v7) (b := (a0.Services.length : Int)) (c := (decide (v7 < (a0.Services.length : Int)))) I I I I) I ?_
    refine Zf <| Zh ?_
    have hif := of_if h
    refine Z15 I (fun hc => ?_) (fun hc => ?_)
    ·have h := hif.1 hc
     refine Z17 <| Zh <| Zi <| AWp.block <| Zi <| Za <| Z1 I (Zj (v := (.vs 7)) I I) I <| Z1 I (Zq (m := 3) (o := 0) I f44_0 I I) I ?_
     refine Z1 I (Zt (cs := (Z4 a0).cells) (v := (.sl 4 (a0.Services.map Z2) false)) I o41 I I I) I <| Z1 I (Zj (v := (.int .i64 v7)) I I) I ?_
     have ⟨hg14, h⟩ := Zy h
     refine Z1 I (Z1s (k := .i64) (l := a0.Services) (enc := Z2) (z := Z6) (n := v7) (cs := (Z2 (a0.Services.getD v7.toNat Z6)).cells) (full := false) I s41 I I hg14 I) I <| Z1 I (st_fieldI (cs := (Z2 (a0.Services.getD v7.toNat Z6)).cells) (ds := (Z2 (a0.Services.getD v7.toNat Z6)).cells) I f68_0 I I I) I <| Z1 I (st_loadI (cs := (Z2 (a0.Services.getD v7.toNat Z6)).cells) (v := (.str (a0.Services.getD v7.toNat Z6).Name)) I o9 I I) I ?_
     have ⟨v16, hv16, h⟩ := Z1d h
     refine Z1 I (st_callB (rd := [(7, (.vec 1 (List.map Z1c v4)))]) (ar := [(.vs 7), (.str (a0.Services.getD v7.toNat Z6).Name)]) (caps := []) Tryz.call38 (F38_ok K v4 (a0.Services.getD v7.toNat Z6).Name v16 hv16) I I ⟨rfl, rfl, trivial⟩ (subS_mem ⟨rfl, trivial⟩) I I I) I <| Zf <| Zh ?_
     refine AWp.join (V := (List Str)) (lp := fun v => F37_j18 K (F37_l9 K a0 v4 (F37_c11 K) k9) v7 v = some r) (sh := fun v => ⟨[(3, (.ptr 3 0)), (7, (.vs 7)), (12, (.vs 12)), (13, (.int .i64 v7))], [(3, (.box (Z4 a0).cells)), (7, (.vec 1 (List.map Z1c v4))), (12, (.vec 1 (List.map Z1c v)))]⟩) ?_ ?_
     ·intro v h
      revert h
      revert v
      intro v17 h
      try dsimp only at h ⊢
      unfold F37_j18 at h
      refine At.end <| Zh <| Za <| Z1 I (Zj (v := (.int .i64 v7)) I I) I <| Z1 I (Z1o (k := .i64) (a := v7) (b := 1) (c := (IntKind.i64.wrap (v7 + 1))) I I I I) I <| Z1 I (Zk (v := (.int .i64 (IntKind.i64.wrap (v7 + 1)))) I I) I <| Zf ?_
      exact Zw (st' := ⟨[(3, (.ptr 3 0)), (7, (.vs 7)), (12, (.vs 12)), (13, (.int .i64 (IntKind.i64.wrap (v7 + 1))))], [(3, (.box (Z4 a0).cells)), (7, (.vec 1 (List.map Z1c v4))), (12, (.vec 1 (List.map Z1c v17)))]⟩) ⟨rfl, rfl, rfl, rfl, trivial⟩ ⟨rfl, rfl, rfl, trivial⟩ (IH9 _ ((IntKind.i64.wrap (v7 + 1)), v17) (Nat.lt_succ_self _) h)
     ·intro J18
      have hif := of_if h
      refine Z15 I (fun hc => ?_) (fun hc => ?_)
      ·have h := hif.1 hc
       refine Za <| Z1 I (Zj (v := (.vs 12)) I I) I <| Z1 I (Zq (m := 3) (o := 0) I f44_0 I I) I <| Z1 I (Zt (cs := (Z4 a0).cells) (v := (.sl 4 (a0.Services.map Z2) false)) I o41 I I I) I <| Z1 I (Zj (v := (.int .i64 v7)) I I) I ?_
       have ⟨hg19, h⟩ := Zy h
       refine Z1 I (Z1s (k := .i64) (l := a0.Services) (enc := Z2) (z := Z6) (n := v7) (cs := (Z2 (a0.Services.getD v7.toNat Z6)).cells) (full := false) I s41 I I hg19 I) I <| Z1 I (st_fieldI (cs := (Z2 (a0.Services.getD v7.toNat Z6)).cells) (ds := (Z2 (a0.Services.getD v7.toNat Z6)).cells) I f68_0 I I I) I <| Z1 I (st_loadI (cs := (Z2 (a0.Services.getD v7.toNat Z6)).cells) (v := (.str (a0.Services.getD v7.toNat Z6).Name)) I o9 I I) I <| Z1 I (Z1j (vs := [(.str (a0.Services.getD v7.toNat Z6).Name)]) (enc := Z1c) (l := [(a0.Services.getD v7.toNat Z6).Name]) I el73 I I ⟨rfl, trivial⟩ I els_str I I I I) I ?_
       have ⟨hg20, h⟩ := Zy h
       refine Z1 I (st_append (m := 12) (enc := Z1c) (l := v8) (l' := [(a0.Services.getD v7.toNat Z6).Name]) (src := (.vs 83)) (rd := [(83, (.vec 1 (List.map Z1c [(a0.Services.getD v7.toNat Z6).Name])))]) I I el73 I u73 I I I I (oneRead I) els_str hg20) I <| Z1 I (Zk (v := (.vs 12)) I I) I <| Zf ?_
       exact Zw (st' := ⟨[(3, (.ptr 3 0)), (7, (.vs 7)), (12, (.vs 12)), (13, (.int .i64 v7))], [(3, (.box (Z4 a0).cells)), (7, (.vec 1 (List.map Z1c v4))), (12, (.vec 1 (List.map Z1c (v8 ++ [(a0.Services.getD v7.toNat Z6).Name]))))]⟩) ⟨rfl, rfl, rfl, rfl, trivial⟩ ⟨rfl, rfl, rfl, trivial⟩ (J18 (v8 ++ [(a0.Services.getD v7.toNat Z6).Name]) h)
      ·have h := hif.2 hc
       refine Z17 ?_
       exact Zw (st' := ⟨[(3, (.ptr 3 0)), (7, (.vs 7)), (12, (.vs 12)), (13, (.int .i64 v7))], [(3, (.box (Z4 a0).cells)), (7, (.vec 1 (List.map Z1c v4))), (12, (.vec 1 (List.map Z1c v8)))]⟩) ⟨rfl, rfl, rfl, rfl, trivial⟩ ⟨rfl, rfl, rfl, trivial⟩ (J18 v8 h)
    ·have h := hif.2 hc
     refine AWp.exit <| At.thru ?_
     exact Zw (st' := ⟨[(12, (.vs 12))], [(12, (.vec 1 (List.map Z1c v8)))]⟩) ⟨rfl, trivial⟩ ⟨rfl, trivial⟩ (J9 v8 h)
 ·intro N k3 v h IH3 J3
  obtain ⟨v1, v2⟩ := v
  try dsimp only at h IH3 J3 ⊢
  cases k3 with
  | zero => cases h
  | succ k3 =>
   rw [F37_l3] at h
   refine Zi <| Zi <| Za <| Z1 I (Zj (v := (.int .i64 v1)) I I) I <| Z1 I (Zq (m := 3) (o := 0) I f44_0 I I) I <| Z1 I (Zt (cs := (Z4 a0).cells) (v := (.sl 4 (a0.Services.map Z2) false)) I o41 I I I) I <| Z1 I (stx_len (l := a0.Services) (enc := Z2) I s41 I) I <| Z1 I (Z1t (k := .i64) (a := v1) (b := (a0.Services.length : Int)) (c := (decide (v1 ≤ (a0.Services.length : Int)))) I I I I) I ?_
   refine Zf <| Zh ?_
   have hif := of_if h
   refine Z15 I (fun hc => ?_) (fun hc => ?_)
   ·have h := hif.1 hc
    refine Z17 <| Zh <| Zi <| AWp.block <| Zi <| Za <| Z1 I (Zk (v := (.int .i64 0)) I I) I <| Zf ?_
    refine Zh <| Z1r (st' := ⟨[(1, (.str a1)), (2, (.bool a2)), (3, (.ptr 3 0)), (7, (.vs 7)), (8, (.int .i64 v1)), (9, (.int .i64 0))], [(3, (.box (Z4 a0).cells)), (7, (.vec 1 (List.map Z1c v2)))]⟩) ⟨rfl, rfl, rfl, rfl, rfl, rfl, trivial⟩ ⟨rfl, rfl, trivial⟩ ?_
    refine Z1g (V := Int × (List Str)) (X := (List Str)) (lp := fun k v => F37_l24 K a0 a2 a1 (F37_c26 K (F37_l3 K a0 a2 a1 (F37_c5 K a0) k3) v1) k v.1 v.2 = some r) (sh := fun v => ⟨[(1, (.str a1)), (2, (.bool a2)), (3, (.ptr 3 0)), (7, (.vs 7)), (8, (.int .i64 v1)), (9, (.int .i64 v.1))], [(3, (.box (Z4 a0).cells)), (7, (.vec 1 (List.map Z1c v.2)))]⟩) (x := fun v => F37_c26 K (F37_l3 K a0 a2 a1 (F37_c5 K a0) k3) v1 v = some r) (shx := fun v => ⟨[(1, (.str a1)), (2, (.bool a2)), (3, (.ptr 3 0)), (7, (.vs 7)), (8, (.int .i64 v1))], [(3, (.box (Z4 a0).cells)), (7, (.vec 1 (List.map Z1c v)))]⟩) (k := K) (v := (0, v2)) h ?_ ?_
    ·intro v h
     revert h
     revert v
     intro v25 h
     try dsimp only at h ⊢
     unfold F37_c26 at h
     refine At.end <| Zh <| Za <| Z1 I (Zj (v := (.int .i64 v1)) I I) I <| Z1 I (Z1o (k := .i64) (a := v1) (b := 1) (c := (IntKind.i64.wrap (v1 + 1))) I I I I) I <| Z1 I (Zk (v := (.int .i64 (IntKind.i64.wrap (v1 + 1)))) I I) I <| Zf ?_
     exact Zw (st' := ⟨[(1, (.str a1)), (2, (.bool a2)), (3, (.ptr 3 0)), (7, (.vs 7)), (8, (.int .i64 (IntKind.i64.wrap (v1 + 1))))], [(3, (.box (Z4 a0).cells)), (7, (.vec 1 (List.map Z1c v25)))]⟩) ⟨rfl, rfl, rfl, rfl, rfl, trivial⟩ ⟨rfl, rfl, trivial⟩ (IH3 _ ((IntKind.i64.wrap (v1 + 1)), v25) (Nat.lt_succ_self _) h)
    ·intro N k24 v h IH24 J24
     obtain ⟨v22, v23⟩ := v
     try dsimp only at h IH24 J24 ⊢
     cases k24 with
     | zero => cases h
     | succ k24 =>
      rw [F37_l24] at h
      refine Zi <| Zi <| Za <| Z1 I (Zj (v := (.int .i64 v22)) I I) I <| Z1 I (Zq (m := 3) (o := 0) I f44_1 I I) I <| Z1 I (Zt (cs := (Z4 a0).cells) (v := (.sl 5 (a0.Calls.map Z3) false)) I o42 I I I) I <| Z1 I (stx_len (l := a0.Calls) (enc := Z3) I s42 I) I <| Z1 I (Z1t (k := .i64) (a := v22) (b := (a0.Calls.length : Int)) (c := (decide (v22 < (a0.Calls.length : Int)))) I I I I) I ?_
      refine Zf <| Zh ?_
      have hif := of_if h
      refine Z15 I (fun hc => ?_) (fun hc => ?_)
      ·have h := hif.1 hc
       refine Z17 <| Zh <| Zi <| AWp.block <| Zi <| Z1w mixed <| Z8 0 I (Zq (m := 3) (o := 0) I f44_1 I I) <| Z8 1 I (Zt (cs := (Z4 a0).cells) (v := (.sl 5 (a0.Calls.map Z3) false)) I o42 I I I) ?_
       refine Z8 2 I (Zj (v := (.int .i64 v22)) I I) ?_
       have ⟨hg29, h⟩ := Zy h
       refine Z8 3 I (Z1s (k := .i64) (l := a0.Calls) (enc := Z3) (z := Z5) (n := v22) (cs := (Z3 (a0.Calls.getD v22.toNat Z5)).cells) (full := false) I s42 I I hg29 I) <| Z8 4 I (st_fieldI (cs := (Z3 (a0.Calls.getD v22.toNat Z5)).cells) (ds := (Z3 (a0.Calls.getD v22.toNat Z5)).cells) I f88_0 I I I) <| Z8 5 I (st_loadI (cs := (Z3 (a0.Calls.getD v22.toNat Z5)).cells) (v := (.str (a0.Calls.getD v22.toNat Z5).Caller)) I o9 I I) <| Z8 6 I (Zq (m := 3) (o := 0) I f44_1 I I) <| Z8 7 I (Zt (cs := (Z4 a0).cells) (v := (.sl 5 (a0.Calls.map Z3) false)) I o42 I I I) <| Z8 8 I (Zj (v := (.int .i64 v22)) I I) ?_
       have ⟨hg30, h⟩ := Zy h
       refine Z8 9 I (Z1s (k := .i64) (l := a0.Calls) (enc := Z3) (z := Z5) (n := v22) (cs := (Z3 (a0.Calls.getD v22.toNat Z5)).cells) (full := false) I s42 I I hg30 I) <| Z8 10 I (st_fieldI (cs := (Z3 (a0.Calls.getD v22.toNat Z5)).cells) (ds := [(.str (a0.Calls.getD v22.toNat Z5).Callee), (.int .i64 (a0.Calls.getD v22.toNat Z5).Count), (.int .i64 (a0.Calls.getD v22.toNat Z5).Errors), (.int .i64 (a0.Calls.getD v22.toNat Z5).Time)]) I f88_1 I I I) <| Z8 11 I (st_loadI (cs := [(.str (a0.Calls.getD v22.toNat Z5).Callee), (.int .i64 (a0.Calls.getD v22.toNat Z5).Count), (.int .i64 (a0.Calls.getD v22.toNat Z5).Errors), (.int .i64 (a0.Calls.getD v22.toNat Z5).Time)]) (v := (.str (a0.Calls.getD v22.toNat Z5).Callee)) I o9 I I) <| Z8 12 I (Zk (v := (.str (a0.Calls.getD v22.toNat Z5).Caller)) I I) <| Z8 13 I (Zk (v := (.str (a0.Calls.getD v22.toNat Z5).Callee)) I I) <| AOpsD.nil (by kernel_rfl) I <| Zh <| Zi ?_
       refine Zi <| Za <| Z1 I (Zj (v := (.bool a2)) I I) I <| Zf <| Zh ?_
       refine AWp.join (V := Str × Str) (lp := fun v => F37_j33 K a1 v23 (F37_l24 K a0 a2 a1 (F37_c26 K (F37_l3 K a0 a2 a1 (F37_c5 K a0) k3) v1) k24) v22 v.1 v.2 = some r) (sh := fun v => ⟨[(1, (.str a1)), (2, (.bool a2)), (3, (.ptr 3 0)), (7, (.vs 7)), (8, (.int .i64 v1)), (9, (.int .i64 v22)), (10, (.str v.1)), (11, (.str v.2))], [(3, (.box (Z4 a0).cells)), (7, (.vec 1 (List.map Z1c v23)))]⟩) ?_ ?_
       ·intro v h
        obtain ⟨v31, v32⟩ := v
        try dsimp only at h ⊢
        unfold F37_j33 at h
        refine Zh <| Zi ?_
        refine AWp.join (V := Bool) (lp := fun v => F37_j35 K v23 v32 (F37_l24 K a0 a2 a1 (F37_c26 K (F37_l3 K a0 a2 a1 (F37_c5 K a0) k3) v1) k24) v22 v = some r) (sh := fun v => ⟨[(1, (.str a1)), (2, (.bool a2)), (3, (.ptr 3 0)), (7, (.vs 7)), (8, (.int .i64 v1)), (9, (.int .i64 v22)), (11, (.str v32)), (56, (.bool v))], [(3, (.box (Z4 a0).cells)), (7, (.vec 1 (List.map Z1c v23)))]⟩) ?_ ?_
        ·intro v h
         revert h
         revert v
         intro v34 h
         try dsimp only at h ⊢
         unfold F37_j35 at h
         refine Zh ?_
         refine AWp.join (V := (List Str)) (lp := fun v => F37_j37 K (F37_l24 K a0 a2 a1 (F37_c26 K (F37_l3 K a0 a2 a1 (F37_c5 K a0) k3) v1) k24) v22 v = some r) (sh := fun v => ⟨[(1, (.str a1)), (2, (.bool a2)), (3, (.ptr 3 0)), (7, (.vs 7)), (8, (.int .i64 v1)), (9, (.int .i64 v22))], [(3, (.box (Z4 a0).cells)), (7, (.vec 1 (List.map Z1c v)))]⟩) ?_ ?_
         ·intro v h
          revert h
          revert v
          intro v36 h
          try dsimp only at h ⊢
          unfold F37_j37 at h
          refine At.end <| Zh <| Za <| Z1 I (Zj (v := (.int .i64 v22)) I I) I <| Z1 I (Z1o (k := .i64) (a := v22) (b := 1) (c := (IntKind.i64.wrap (v22 + 1))) I I I I) I <| Z1 I (Zk (v := (.int .i64 (IntKind.i64.wrap (v22 + 1)))) I I) I <| Zf ?_
          exact Zw (st' := ⟨[(1, (.str a1)), (2, (.bool a2)), (3, (.ptr 3 0)), (7, (.vs 7)), (8, (.int .i64 v1)), (9, (.int .i64 (IntKind.i64.wrap (v22 + 1))))], [(3, (.box (Z4 a0).cells)), (7, (.vec 1 (List.map Z1c v36)))]⟩) ⟨rfl, rfl, rfl, rfl, rfl, rfl, trivial⟩ ⟨rfl, rfl, trivial⟩ (IH24 _ ((IntKind.i64.wrap (v22 + 1)), v36) (Nat.lt_succ_self _) h)
         ·intro J37
          have hif := of_if h
          refine Z15 I (fun hc => ?_) (fun hc => ?_)
          ·have h := hif.1 hc
           refine Za <| Z1 I (Zj (v := (.vs 7)) I I) I <| Z1 I (Zj (v := (.str v32)) I I) I <| Z1 I (Z1j (vs := [(.str v32)]) (enc := Z1c) (l := [v32]) I el73 I I ⟨rfl, trivial⟩ I els_str I I I I) I ?_
           have ⟨hg38, h⟩ := Zy h
           refine Z1 I (st_append (m := 7) (enc := Z1c) (l := v23) (l' := [v32]) (src := (.vs 59)) (rd := [(59, (.vec 1 (List.map Z1c [v32])))]) I I el73 I u73 I I I I (oneRead I) els_str hg38) I <| Z1 I (Zk (v := (.vs 7)) I I) I <| Zf ?_
           exact Zw (st' := ⟨[(1, (.str a1)), (2, (.bool a2)), (3, (.ptr 3 0)), (7, (.vs 7)), (8, (.int .i64 v1)), (9, (.int .i64 v22))], [(3, (.box (Z4 a0).cells)), (7, (.vec 1 (List.map Z1c (v23 ++ [v32]))))]⟩) ⟨rfl, rfl, rfl, rfl, rfl, rfl, trivial⟩ ⟨rfl, rfl, trivial⟩ (J37 (v23 ++ [v32]) h)
          ·have h := hif.2 hc
           refine Z17 ?_
           exact Zw (st' := ⟨[(1, (.str a1)), (2, (.bool a2)), (3, (.ptr 3 0)), (7, (.vs 7)), (8, (.int .i64 v1)), (9, (.int .i64 v22))], [(3, (.box (Z4 a0).cells)), (7, (.vec 1 (List.map Z1c v23)))]⟩) ⟨rfl, rfl, rfl, rfl, rfl, rfl, trivial⟩ ⟨rfl, rfl, trivial⟩ (J37 v23 h)
        ·intro J35
         refine Za <| Z1 I (Zj (v := (.str v31)) I I) I <| Z1 I (Zj (v := (.str a1)) I I) I <| Z1 I (st_cmpS (a := v31) (b := a1) (c := (v31 == a1)) I I I I) I <| Z1 I (Zj (v := (.bool (v31 == a1))) I I) I ?_
         have hif := of_if h
         refine AOps.split (fun hc => ?_) (fun hc => ?_)
         ·have h := hif.1 hc
          refine Zu I I I I I I I <| Zu I I I I I I I <| Zu I I I I I I I <| Z1 I (st_pickT (v := (.bool true)) I I I) I <| Z1 I (Zj (v := (.bool true)) I I) I <| Zz I I I I (Zj (v := (.vs 7)) I I) I <| Zz I I I I (Zj (v := (.str v32)) I I) I ?_
          have ⟨v40, hv40, h⟩ := Z1d h
          refine Zz I I I I (st_callB (rd := [(7, (.vec 1 (List.map Z1c v23)))]) (ar := [(.vs 7), (.str v32)]) (caps := []) Tryz.call38 (F38_ok K v23 v32 v40 hv40) I I ⟨rfl, rfl, trivial⟩ (subS_mem ⟨rfl, trivial⟩) I I I) I <| Zz I I I I (st_not (b := v40) I I) I <| Z1 I (st_pickT (v := (.bool (!v40))) I I I) I <| Zf ?_
          exact Zw (st' := ⟨[(1, (.str a1)), (2, (.bool a2)), (3, (.ptr 3 0)), (7, (.vs 7)), (8, (.int .i64 v1)), (9, (.int .i64 v22)), (11, (.str v32)), (56, (.bool (!v40)))], [(3, (.box (Z4 a0).cells)), (7, (.vec 1 (List.map Z1c v23)))]⟩) ⟨rfl, rfl, rfl, rfl, rfl, rfl, rfl, rfl, trivial⟩ ⟨rfl, rfl, trivial⟩ (J35 (!v40) h)
         ·have h := hif.2 hc
          refine Zz I I I I (Zj (v := (.vs 7)) I I) I <| Zz I I I I (Zj (v := (.str v31)) I I) I ?_
          have ⟨v42, hv42, h⟩ := Z1d h
          refine Zz I I I I (st_callB (rd := [(7, (.vec 1 (List.map Z1c v23)))]) (ar := [(.vs 7), (.str v31)]) (caps := []) Tryz.call38 (F38_ok K v23 v31 v42 hv42) I I ⟨rfl, rfl, trivial⟩ (subS_mem ⟨rfl, trivial⟩) I I I) I <| Z1 I (st_pickF (v := (.bool v42)) I I I) I <| Z1 I (Zj (v := (.bool v42)) I I) I ?_
          have hif := of_if h
          refine AOps.split (fun hc => ?_) (fun hc => ?_)
          ·have h := hif.1 hc
           refine Zz I I I I (Zj (v := (.vs 7)) I I) I <| Zz I I I I (Zj (v := (.str v32)) I I) I ?_
           have ⟨v44, hv44, h⟩ := Z1d h
           refine Zz I I I I (st_callB (rd := [(7, (.vec 1 (List.map Z1c v23)))]) (ar := [(.vs 7), (.str v32)]) (caps := []) Tryz.call38 (F38_ok K v23 v32 v44 hv44) I I ⟨rfl, rfl, trivial⟩ (subS_mem ⟨rfl, trivial⟩) I I I) I <| Zz I I I I (st_not (b := v44) I I) I <| Z1 I (st_pickT (v := (.bool (!v44))) I I I) I <| Zf ?_
           exact Zw (st' := ⟨[(1, (.str a1)), (2, (.bool a2)), (3, (.ptr 3 0)), (7, (.vs 7)), (8, (.int .i64 v1)), (9, (.int .i64 v22)), (11, (.str v32)), (56, (.bool (!v44)))], [(3, (.box (Z4 a0).cells)), (7, (.vec 1 (List.map Z1c v23)))]⟩) ⟨rfl, rfl, rfl, rfl, rfl, rfl, rfl, rfl, trivial⟩ ⟨rfl, rfl, trivial⟩ (J35 (!v44) h)
          ·have h := hif.2 hc
           refine Zu I I I I I I I <| Zu I I I I I I I <| Zu I I I I I I I <| Zu I I I I I I I <| Z1 I (st_pickF (v := (.bool false)) I I I) I <| Zf ?_
           exact Zw (st' := ⟨[(1, (.str a1)), (2, (.bool a2)), (3, (.ptr 3 0)), (7, (.vs 7)), (8, (.int .i64 v1)), (9, (.int .i64 v22)), (11, (.str v32)), (56, (.bool false))], [(3, (.box (Z4 a0).cells)), (7, (.vec 1 (List.map Z1c v23)))]⟩) ⟨rfl, rfl, rfl, rfl, rfl, rfl, rfl, rfl, trivial⟩ ⟨rfl, rfl, trivial⟩ (J35 false h)
       ·intro J33
        have hif := of_if h
        refine Z15 I (fun hc => ?_) (fun hc => ?_)
        ·have h := hif.1 hc
         refine Za <| Z1 I (Zj (v := (.str (a0.Calls.getD v22.toNat Z5).Callee)) I I) I <| Z1 I (Zj (v := (.str (a0.Calls.getD v22.toNat Z5).Caller)) I I) I <| Z1 I (Zk (v := (.str (a0.Calls.getD v22.toNat Z5).Callee)) I I) I <| Z1 I (Zk (v := (.str (a0.Calls.getD v22.toNat Z5).Caller)) I I) I <| Zf ?_
         exact Zw (st' := ⟨[(1, (.str a1)), (2, (.bool a2)), (3, (.ptr 3 0)), (7, (.vs 7)), (8, (.int .i64 v1)), (9, (.int .i64 v22)), (10, (.str (a0.Calls.getD v22.toNat Z5).Callee)), (11, (.str (a0.Calls.getD v22.toNat Z5).Caller))], [(3, (.box (Z4 a0).cells)), (7, (.vec 1 (List.map Z1c v23)))]⟩) ⟨rfl, rfl, rfl, rfl, rfl, rfl, rfl, rfl, trivial⟩ ⟨rfl, rfl, trivial⟩ (J33 ((a0.Calls.getD v22.toNat Z5).Callee, (a0.Calls.getD v22.toNat Z5).Caller) h)
        ·have h := hif.2 hc
         refine Z17 ?_
         exact Zw (st' := ⟨[(1, (.str a1)), (2, (.bool a2)), (3, (.ptr 3 0)), (7, (.vs 7)), (8, (.int .i64 v1)), (9, (.int .i64 v22)), (10, (.str (a0.Calls.getD v22.toNat Z5).Caller)), (11, (.str (a0.Calls.getD v22.toNat Z5).Callee))], [(3, (.box (Z4 a0).cells)), (7, (.vec 1 (List.map Z1c v23)))]⟩) ⟨rfl, rfl, rfl, rfl, rfl, rfl, rfl, rfl, trivial⟩ ⟨rfl, rfl, trivial⟩ (J33 ((a0.Calls.getD v22.toNat Z5).Caller, (a0.Calls.getD v22.toNat Z5).Callee) h)
      ·have h := hif.2 hc
       refine AWp.exit <| At.thru ?_
       exact Zw (st' := ⟨[(1, (.str a1)), (2, (.bool a2)), (3, (.ptr 3 0)), (7, (.vs 7)), (8, (.int .i64 v1))], [(3, (.box (Z4 a0).cells)), (7, (.vec 1 (List.map Z1c v23)))]⟩) ⟨rfl, rfl, rfl, rfl, rfl, trivial⟩ ⟨rfl, rfl, trivial⟩ (J24 v23 h)
   ·have h := hif.2 hc
    refine AWp.exit <| At.thru ?_
    exact Zw (st' := ⟨[(3, (.ptr 3 0)), (7, (.vs 7))], [(3, (.box (Z4 a0).cells)), (7, (.vec 1 (List.map Z1c v2)))]⟩) ⟨rfl, rfl, trivial⟩ ⟨rfl, rfl, trivial⟩ (J3 v2 h)
def F32_c3 (K : Nat) : Option (Bool) :=
 some true
def F32_l2 (K : Nat) (a0 : (List Str)) (a1 : (List Str)) (c4 : Option (Bool)) : Nat → Int → Option (Bool)
 | 0, _ => none
 | k2 + 1, v1 =>
  if (decide (v1 < (a0.length : Int))) = true then
   if (0 : Int) ≤ v1 ∧ v1 < a0.length then
    if (0 : Int) ≤ v1 ∧ v1 < a1.length then
     if (!((a0.getD v1.toNat []) == (a1.getD v1.toNat []))) = true then
      some false
     else
      (F32_l2 K a0 a1 c4 k2) (IntKind.i64.wrap (v1 + 1))
    else none
   else none
  else
   c4
def F32 (K : Nat) (a0 : (List Str)) (a1 : (List Str)) : Option (Bool) :=
 if ((a0.length : Int) != (a1.length : Int)) = true then
  some false
 else
  F32_l2 K a0 a1 (F32_c3 K) K 0
theorem F32_ok (K : Nat) (a0 : (List Str)) (a1 : (List Str)) (r : Bool) (h : F32 K a0 a1 = some r) : ACall P 32 ⟨[(.sl 1 (a0.map Z1c) false), (.sl 1 (a1.map Z1c) false)], [], (.bool r), [], []⟩ := by
 refine Z1n Tryz.func32 Tryz.results32 rfl Tryz.ntmps32 rfl rfl rfl ?_
 intro E Q hP hN hro hret
 obtain ⟨P', nt', w0, F0, p0, S0, β0, ro0⟩ := E
 simp only at hP hN
 subst hP hN
 dsimp only [argT]
 unfold F32 at h
 refine Zi <| Za <| Z1 I (Zk (v := (.bool false)) I I) I <| Zf <| Zh <| Zi <| Zi <| Za ?_
 refine Z1 I (Zj (v := (.sl 1 (a0.map Z1c) false)) I I) I <| Z1 I (stx_len (l := a0) (enc := Z1c) I s73 I) I <| Z1 I (Zj (v := (.sl 1 (a1.map Z1c) false)) I I) I <| Z1 I (stx_len (l := a1) (enc := Z1c) I s73 I) I <| Z1 I (Z1t (k := .i64) (a := (a0.length : Int)) (b := (a1.length : Int)) (c := ((a0.length : Int) != (a1.length : Int))) I I I I) I <| Zf <| Zh ?_
 have hif := of_if h
 refine Z15 I (fun hc => ?_) (fun hc => ?_)
 ·have h := hif.1 hc
  refine Zi <| Za <| Z1 I (Zk (v := (.bool false)) I I) I <| Zf <| Zh <| Z1a <| Z1f ?_
  have h := Option.some.inj h
  subst h
  refine (hret _ ?_).1
  exact ⟨[(.bool false)], ⟨rfl, trivial⟩, rfl, trivial⟩
 ·have h := hif.2 hc
  refine Z17 <| Zh <| Zi <| Zi <| Za <| Z1 I (Zk (v := (.int .i64 0)) I I) I <| Zf <| Zh ?_
  refine Z1r (st' := ⟨[(0, (.sl 1 (a0.map Z1c) false)), (1, (.sl 1 (a1.map Z1c) false)), (5, (.int .i64 0))], []⟩) ⟨rfl, rfl, rfl, trivial⟩ trivial ?_
  refine Z1g (V := Int) (X := Unit) (lp := fun k v => F32_l2 K a0 a1 (F32_c3 K) k v = some r) (sh := fun v => ⟨[(0, (.sl 1 (a0.map Z1c) false)), (1, (.sl 1 (a1.map Z1c) false)), (5, (.int .i64 v))], []⟩) (x := fun v => F32_c3 K = some r) (shx := fun v => ⟨[], []⟩) (k := K) (v := 0) h ?_ ?_
  ·intro v h
   try dsimp only at h ⊢
   unfold F32_c3 at h
   refine Zh <| Zi <| Za <| Z1 I (Zk (v := (.bool true)) I I) I <| Zf <| Zh <| Z1a ?_
   have h := Option.some.inj h
   subst h
   refine (hret _ ?_).1
   exact ⟨[(.bool true)], ⟨rfl, trivial⟩, rfl, trivial⟩
  ·intro N k2 v h IH2 J2
   revert h
   revert v
   intro v1 h
   try dsimp only at h IH2 J2 ⊢
   cases k2 with
   | zero => cases h
   | succ k2 =>
    rw [F32_l2] at h
    refine Zi <| Zi <| Za <| Z1 I (Zj (v := (.int .i64 v1)) I I) I <| Z1 I (Zj (v := (.sl 1 (a0.map Z1c) false)) I I) I <| Z1 I (stx_len (l := a0) (enc := Z1c) I s73 I) I <| Z1 I (Z1t (k := .i64) (a := v1) (b := (a0.length : Int)) (c := (decide (v1 < (a0.length : Int)))) I I I I) I <| Zf ?_
    refine Zh ?_
    have hif := of_if h
    refine Z15 I (fun hc => ?_) (fun hc => ?_)
    ·have h := hif.1 hc
     refine Z17 <| Zh <| Zi <| AWp.block <| Zi <| Z1w mixed <| Z8 0 I (Zj (v := (.sl 1 (a0.map Z1c) false)) I I) <| Z8 1 I (Zj (v := (.int .i64 v1)) I I) ?_
     have ⟨hg6, h⟩ := Zy h
     refine Z8 2 I (Z1s (k := .i64) (l := a0) (enc := Z1c) (z := []) (n := v1) (cs := [(.str (a0.getD v1.toNat []))]) (full := false) I s73 I I hg6 I) <| Z8 3 I (st_loadI (cs := [(.str (a0.getD v1.toNat []))]) (v := (.str (a0.getD v1.toNat []))) I o9 I I) <| Z8 4 I (Zj (v := (.sl 1 (a1.map Z1c) false)) I I) <| Z8 5 I (Zj (v := (.int .i64 v1)) I I) ?_
     have ⟨hg7, h⟩ := Zy h
     refine Z8 6 I (Z1s (k := .i64) (l := a1) (enc := Z1c) (z := []) (n := v1) (cs := [(.str (a1.getD v1.toNat []))]) (full := false) I s73 I I hg7 I) <| Z8 7 I (st_loadI (cs := [(.str (a1.getD v1.toNat []))]) (v := (.str (a1.getD v1.toNat []))) I o9 I I) <| Z8 8 I (st_cmpS (a := (a0.getD v1.toNat [])) (b := (a1.getD v1.toNat [])) (c := (!((a0.getD v1.toNat []) == (a1.getD v1.toNat [])))) I I I I) <| AOpsD.nil (by kernel_rfl) I <| Zh ?_
     have hif := of_if h
     refine Z15 I (fun hc => ?_) (fun hc => ?_)
     ·have h := hif.1 hc
      refine Zi <| Za <| Z1 I (Zk (v := (.bool false)) I I) I <| Zf <| Zh <| Z1a <| At.overR <| Z1f ?_
      refine Z1f (At.overR ?_)
      refine Z1f ?_
      have h := Option.some.inj h
      subst h
      refine (hret _ ?_).1
      exact ⟨[(.bool false)], ⟨rfl, trivial⟩, rfl, trivial⟩
     ·have h := hif.2 hc
      refine Z17 <| At.end <| Zh <| Za <| Z1 I (Zj (v := (.int .i64 v1)) I I) I <| Z1 I (Z1o (k := .i64) (a := v1) (b := 1) (c := (IntKind.i64.wrap (v1 + 1))) I I I I) I <| Z1 I (Zk (v := (.int .i64 (IntKind.i64.wrap (v1 + 1)))) I I) I <| Zf ?_
      exact Zw (st' := ⟨[(0, (.sl 1 (a0.map Z1c) false)), (1, (.sl 1 (a1.map Z1c) false)), (5, (.int .i64 (IntKind.i64.wrap (v1 + 1))))], []⟩) ⟨rfl, rfl, rfl, trivial⟩ trivial (IH2 _ (IntKind.i64.wrap (v1 + 1)) (Nat.lt_succ_self _) h)
    ·have h := hif.2 hc
     refine AWp.exit <| At.thru ?_
     exact Zw (st' := ⟨[], []⟩) trivial trivial (J2 () h)
end Go.AM.TopZ
