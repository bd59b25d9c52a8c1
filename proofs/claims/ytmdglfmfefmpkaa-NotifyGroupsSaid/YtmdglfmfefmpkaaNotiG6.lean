/- What these functions compute, each with its walk: F44, F15. -/
import Derived.Test.YtmdglfmfefmpkaaNotiT
import Derived.Test.YtmdglfmfefmpkaaNotiG5
namespace Go.AM.Noti
open Go Go.AM Go.Proofs
set_option maxRecDepth 100000
set_option maxHeartbeats 2000000
def F44_c4 (K : Nat) (a0 : (List Str)) (a1 : Str) (v3 : Int) : Option ((List Str)) :=
 if (decide (v3 < (a0.length : Int))) = true then
  if (0 : Int) ≤ v3 ∧ v3 < (a0.length : Nat) then
   if v3.toNat < a0.length then
    if ((a0.getD v3.toNat []) == a1) = true then
     some a0
    else
     if (0 : Int) ≤ v3 ∧ v3 ≤ (a0.length : Nat) then
      if (0 : Int) ≤ v3 ∧ v3 ≤ (a0.length : Int) ∧ (a0.length : Int) ≤ (a0.length : Nat) then
       if (0 + v3.toNat) + ((a0.length : Int).toNat - v3.toNat) ≤ a0.length then
        if (0 + v3.toNat) + ((a0.length : Int).toNat - v3.toNat) ≤ a0.length then
         if [a1].length + ((a0.drop (0 + v3.toNat)).take ((a0.length : Int).toNat - v3.toNat)).length ≤ 1073741824 then
          if 0 + v3.toNat ≤ a0.length then
           if ((a0.drop 0).take v3.toNat).length + ([a1] ++ ((a0.drop (0 + v3.toNat)).take ((a0.length : Int).toNat - v3.toNat))).length ≤ 1073741824 then
            if ([a1] ++ ((a0.drop (0 + v3.toNat)).take ((a0.length : Int).toNat - v3.toNat))) ≠ [] then
             some (((a0.drop 0).take v3.toNat) ++ ([a1] ++ ((a0.drop (0 + v3.toNat)).take ((a0.length : Int).toNat - v3.toNat))))
            else none
           else none
          else none
         else none
        else none
       else none
      else none
     else none
   else none
  else none
 else
  if (0 : Int) ≤ v3 ∧ v3 ≤ (a0.length : Nat) then
   if (0 : Int) ≤ v3 ∧ v3 ≤ (a0.length : Int) ∧ (a0.length : Int) ≤ (a0.length : Nat) then
    if (0 + v3.toNat) + ((a0.length : Int).toNat - v3.toNat) ≤ a0.length then
     if (0 + v3.toNat) + ((a0.length : Int).toNat - v3.toNat) ≤ a0.length then
      if [a1].length + ((a0.drop (0 + v3.toNat)).take ((a0.length : Int).toNat - v3.toNat)).length ≤ 1073741824 then
       if 0 + v3.toNat ≤ a0.length then
        if ((a0.drop 0).take v3.toNat).length + ([a1] ++ ((a0.drop (0 + v3.toNat)).take ((a0.length : Int).toNat - v3.toNat))).length ≤ 1073741824 then
         if ([a1] ++ ((a0.drop (0 + v3.toNat)).take ((a0.length : Int).toNat - v3.toNat))) ≠ [] then
          some (((a0.drop 0).take v3.toNat) ++ ([a1] ++ ((a0.drop (0 + v3.toNat)).take ((a0.length : Int).toNat - v3.toNat))))
         else none
        else none
       else none
      else none
     else none
    else none
   else none
  else none
def F44_l2 (K : Nat) (a0 : (List Str)) (a1 : Str) (c5 : Int → Option ((List Str))) : Nat → Int → Option ((List Str))
 | 0, _ => none
 | k2 + 1, v1 =>
  if (decide (v1 < (a0.length : Int))) = true then
   if (0 : Int) ≤ v1 ∧ v1 < (a0.length : Nat) then
    if v1.toNat < a0.length then
     if (slt (a0.getD v1.toNat []) a1) = true then
      (F44_l2 K a0 a1 c5 k2) (IntKind.i64.wrap (v1 + 1))
     else
      c5 v1
    else none
   else none
  else
   c5 v1
def F44 (K : Nat) (a0 : (List Str)) (a1 : Str) : Option ((List Str)) :=
 F44_l2 K a0 a1 (F44_c4 K a0 a1) K 0
theorem F44_ok (K : Nat) (a0 : (List Str)) (a1 : Str) (r : (List Str)) (h : F44 K a0 a1 = some r) : ACall P 44 ⟨[(.vs 0), (.str a1)], [(0, .vec 1 (List.map Zv a0))], .vs 0, [(0, .vec 1 (List.map Zv r))], [0]⟩ := by
 refine acall_of Try.func44 Try.results44 rfl Try.ntmps44 rfl rfl rfl ?_
 intro E Q hP hN hro hret
 obtain ⟨P', nt', w0, F0, p0, S0, β0, ro0⟩ := E
 simp only at hP hN
 subst hP hN
 dsimp only [argT]
 unfold F44 at h
 refine Zf <| Z7 <| Z1 I (Zg (v := (.sl 1 [] true)) I I) I <| Za <| Zd <| Zf <| Z7 <| Z1 I (Zg (v := (.int .i64 0)) I I) I ?_
 refine Za <| Zd <| Zf <| AWp.weaken (st' := ⟨[(0, (.vs 0)), (1, (.str a1)), (5, (.int .i64 0))], [(0, (.vec 1 (List.map Zv a0)))]⟩) ⟨rfl, rfl, rfl, trivial⟩ ⟨rfl, trivial⟩ ?_
 refine Z1l (V := Int) (X := Int) (lp := fun k v => F44_l2 K a0 a1 (F44_c4 K a0 a1) k v = some r) (sh := fun v => ⟨[(0, (.vs 0)), (1, (.str a1)), (5, (.int .i64 v))], [(0, (.vec 1 (List.map Zv a0)))]⟩) (x := fun v => F44_c4 K a0 a1 v = some r) (shx := fun v => ⟨[(0, (.vs 0)), (1, (.str a1)), (5, (.int .i64 v))], [(0, (.vec 1 (List.map Zv a0)))]⟩) (k := K) (v := 0) h ?_ ?_
 ·intro v h
  revert h
  revert v
  intro v3 h
  try dsimp only at h ⊢
  unfold F44_c4 at h
  refine Zd <| Zf <| Zf <| Z7 <| Z1 I (Ze (v := (.int .i64 v3)) I I) I <| Z1 I (Ze (v := (.vs 0)) I I) I <| Z1 I (stx_lenV (l := a0) (enc := Zv) I u36 I I) I <| Z1 I (Z1f (k := .i64) (a := v3) (b := (a0.length : Int)) (c := (decide (v3 < (a0.length : Int)))) I I I I) I ?_
  refine Z1 I (Ze (v := (.bool (decide (v3 < (a0.length : Int))))) I I) I ?_
  have hif := Z1g h
  refine Z15 (fun hc => ?_) (fun hc => ?_)
  ·have h := hif.1 hc
   refine Zh I I I I (Ze (v := (.vs 0)) I I) I <| Zh I I I I (Ze (v := (.int .i64 v3)) I I) I ?_
   have ⟨hg6, h⟩ := Zz h
   refine Zh I I I I (st_indexV (k := .i64) (v := (.vs 0)) (n := 0) (off := 0) (len := a0.length) (es := (List.map Zv a0)) (j := v3) (m := v3.toNat) I s36 I I (vecR_map _ _ _) I hg6 (Nat.zero_add _)) I ?_
   have ⟨hg7, h⟩ := Zz h
   refine Zh I I I I (st_loadV (l := a0) (enc := Zv) (z := []) (v := (.str (a0.getD v3.toNat []))) I o9 I I hg7 I) I <| Zh I I I I (Ze (v := (.str a1)) I I) I <| Zh I I I I (st_cmpS (a := (a0.getD v3.toNat [])) (b := a1) (c := ((a0.getD v3.toNat []) == a1)) I I I I) I <| Z1 I (Z1d (v := (.bool ((a0.getD v3.toNat []) == a1))) I I I) I <| Za <| Zd ?_
   have hif := Z1g h
   refine Zs I (fun hc => ?_) (fun hc => ?_)
   ·have h := hif.1 hc
    refine Zf <| Z7 <| Z1 I (Ze (v := (.vs 0)) I I) I <| Z1 I (Zg (v := (.vs 0)) I I) I <| Za <| Zd <| Z18 <| Z12 ?_
    have h := Option.some.inj h
    subst h
    refine (hret _ ?_).1
    exact ⟨[(.vs 0)], ⟨rfl, trivial⟩, rfl, ⟨rfl, trivial⟩⟩
   ·have h := hif.2 hc
    refine Zx <| Zd <| Zf <| AWp.regionD mixed <| Zn 0 I (Ze (v := (.vs 0)) I I) <| Zn 1 I (Ze (v := (.int .i64 v3)) I I) <| Zn 2 I (Ze (v := (.int .i64 v3)) I I) ?_
    have ⟨hg8, h⟩ := Zz h
    refine Zn 3 I (stx_slice3V (kh := .i64) (v := (.vs 0)) (n := 0) (off := 0) (len := a0.length) (l := a0) (enc := Zv) (h := v3) I s36 I I (vecR_map _ _ _) I I hg8) <| Zn 4 I (Ze (v := (.str a1)) I I) <| Zn 5 I (Z1n (vs := [(.str a1)]) (enc := Zv) (l := [a1]) I el36 I I ⟨rfl, trivial⟩ I els_str I I I I) <| Zn 6 I (Ze (v := (.vs 0)) I I) <| Zn 7 I (Ze (v := (.int .i64 v3)) I I) ?_
    have ⟨hg9, h⟩ := Zz h
    have ⟨hg10, h⟩ := Zz h
    refine Zn 8 I (stx_sliceVL (v := (.vs 0)) (n := 0) (off := 0) (len := a0.length) (l := a0) (enc := Zv) (kl := .i64) (lo := v3) I s36 I I (vecR_map _ _ _) I hg9 I) ?_
    have ⟨hg11, h⟩ := Zz h
    have ⟨hg12, h⟩ := Zz h
    refine Zn 9 I (st_append (m := 38) (enc := Zv) (l := [a1]) (l' := ((a0.drop (0 + v3.toNat)).take ((a0.length : Int).toNat - v3.toNat))) (src := (.vsub 0 (0 + v3.toNat) ((a0.length : Int).toNat - v3.toNat) false)) (rd := [(0, (.vec 1 (List.map Zv a0)))]) I I el36 I u36 I I I (srcR_vsub hg11) (oneRead I) els_str hg12) ?_
    have ⟨hg13, h⟩ := Zz h
    have ⟨hg14, h⟩ := Zz h
    have ⟨hg15, h⟩ := Zz h
    refine Zn 10 I (st_appendNew (enc := Zv) (l := ((a0.drop 0).take v3.toNat)) (l' := ([a1] ++ ((a0.drop (0 + v3.toNat)).take ((a0.length : Int).toNat - v3.toNat)))) (dst := (.vsub 0 0 v3.toNat true)) (src := (.vs 38)) (rd := [(0, (.vec 1 (List.map Zv a0)))]) (rd' := [(38, (.vec 1 (List.map Zv ([a1] ++ ((a0.drop (0 + v3.toNat)).take ((a0.length : Int).toNat - v3.toNat))))))]) I el36 I u36 I (srcR_vsub hg13) I (oneRead I) I I (oneRead I) els_str hg14 (.inr hg15)) <| Zn 11 I (Zg (v := (.vs 43)) I I) <| AOpsD.nil (by kernel_rfl) I <| Zd <| Z18 <| At.ghost (st' := ⟨[(4, (.vs 0))], [(0, (.vec 1 (List.map Zv (((a0.drop 0).take v3.toNat) ++ ([a1] ++ ((a0.drop (0 + v3.toNat)).take ((a0.length : Int).toNat - v3.toNat)))))))]⟩) (fun a w h => (Z1h ⟨[(4, (.vs 0))], [(0, (.vec 1 (List.map Zv (((a0.drop 0).take v3.toNat) ++ ([a1] ++ ((a0.drop (0 + v3.toNat)).take ((a0.length : Int).toNat - v3.toNat)))))))]⟩ (ghost_sw (a := 43) (b := 0) I I a w (Z1h ⟨[(4, (.vs 43))], [(43, (.vec 1 (List.map Zv (((a0.drop 0).take v3.toNat) ++ ([a1] ++ ((a0.drop (0 + v3.toNat)).take ((a0.length : Int).toNat - v3.toNat)))))))]⟩ h ⟨rfl, trivial⟩ ⟨rfl, trivial⟩)) ⟨rfl, trivial⟩ ⟨rfl, trivial⟩)) ?_
    have h := Option.some.inj h
    subst h
    refine (hret _ ?_).1
    exact ⟨[(.vs 0)], ⟨rfl, trivial⟩, rfl, ⟨rfl, trivial⟩⟩
  ·have h := hif.2 hc
   refine Z5 I I I I I I I <| Z5 I I I I I I I <| Z5 I I I I I I I <| Z5 I I I I I I I <| Z5 I I I I I I I <| Z5 I I I I I I I <| Z1 I (Z10 (v := (.bool false)) I I I) I <| Za ?_
   refine Zd ?_
   refine Zs (b := false) I (fun hc => ?_) (fun hc => ?_)
   ·cases hc
   refine Zx <| Zd <| Zf <| AWp.regionD mixed <| Zn 0 I (Ze (v := (.vs 0)) I I) <| Zn 1 I (Ze (v := (.int .i64 v3)) I I) <| Zn 2 I (Ze (v := (.int .i64 v3)) I I) ?_
   have ⟨hg16, h⟩ := Zz h
   refine Zn 3 I (stx_slice3V (kh := .i64) (v := (.vs 0)) (n := 0) (off := 0) (len := a0.length) (l := a0) (enc := Zv) (h := v3) I s36 I I (vecR_map _ _ _) I I hg16) <| Zn 4 I (Ze (v := (.str a1)) I I) <| Zn 5 I (Z1n (vs := [(.str a1)]) (enc := Zv) (l := [a1]) I el36 I I ⟨rfl, trivial⟩ I els_str I I I I) <| Zn 6 I (Ze (v := (.vs 0)) I I) <| Zn 7 I (Ze (v := (.int .i64 v3)) I I) ?_
   have ⟨hg17, h⟩ := Zz h
   have ⟨hg18, h⟩ := Zz h
   refine Zn 8 I (stx_sliceVL (v := (.vs 0)) (n := 0) (off := 0) (len := a0.length) (l := a0) (enc := Zv) (kl := .i64) (lo := v3) I s36 I I (vecR_map _ _ _) I hg17 I) ?_
   have ⟨hg19, h⟩ := Zz h
   have ⟨hg20, h⟩ := Zz h
   refine Zn 9 I (st_append (m := 38) (enc := Zv) (l := [a1]) (l' := ((a0.drop (0 + v3.toNat)).take ((a0.length : Int).toNat - v3.toNat))) (src := (.vsub 0 (0 + v3.toNat) ((a0.length : Int).toNat - v3.toNat) false)) (rd := [(0, (.vec 1 (List.map Zv a0)))]) I I el36 I u36 I I I (srcR_vsub hg19) (oneRead I) els_str hg20) ?_
   have ⟨hg21, h⟩ := Zz h
   have ⟨hg22, h⟩ := Zz h
   have ⟨hg23, h⟩ := Zz h
   refine Zn 10 I (st_appendNew (enc := Zv) (l := ((a0.drop 0).take v3.toNat)) (l' := ([a1] ++ ((a0.drop (0 + v3.toNat)).take ((a0.length : Int).toNat - v3.toNat)))) (dst := (.vsub 0 0 v3.toNat true)) (src := (.vs 38)) (rd := [(0, (.vec 1 (List.map Zv a0)))]) (rd' := [(38, (.vec 1 (List.map Zv ([a1] ++ ((a0.drop (0 + v3.toNat)).take ((a0.length : Int).toNat - v3.toNat))))))]) I el36 I u36 I (srcR_vsub hg21) I (oneRead I) I I (oneRead I) els_str hg22 (.inr hg23)) <| Zn 11 I (Zg (v := (.vs 43)) I I) <| AOpsD.nil (by kernel_rfl) I <| Zd <| Z18 <| At.ghost (st' := ⟨[(4, (.vs 0))], [(0, (.vec 1 (List.map Zv (((a0.drop 0).take v3.toNat) ++ ([a1] ++ ((a0.drop (0 + v3.toNat)).take ((a0.length : Int).toNat - v3.toNat)))))))]⟩) (fun a w h => (Z1h ⟨[(4, (.vs 0))], [(0, (.vec 1 (List.map Zv (((a0.drop 0).take v3.toNat) ++ ([a1] ++ ((a0.drop (0 + v3.toNat)).take ((a0.length : Int).toNat - v3.toNat)))))))]⟩ (ghost_sw (a := 43) (b := 0) I I a w (Z1h ⟨[(4, (.vs 43))], [(43, (.vec 1 (List.map Zv (((a0.drop 0).take v3.toNat) ++ ([a1] ++ ((a0.drop (0 + v3.toNat)).take ((a0.length : Int).toNat - v3.toNat)))))))]⟩ h ⟨rfl, trivial⟩ ⟨rfl, trivial⟩)) ⟨rfl, trivial⟩ ⟨rfl, trivial⟩)) ?_
   have h := Option.some.inj h
   subst h
   refine (hret _ ?_).1
   exact ⟨[(.vs 0)], ⟨rfl, trivial⟩, rfl, ⟨rfl, trivial⟩⟩
 ·intro N k2 v h IH2 J2
  revert h
  revert v
  intro v1 h
  try dsimp only at h IH2 J2 ⊢
  cases k2 with
  | zero => cases h
  | succ k2 =>
   rw [F44_l2] at h
   refine Zf <| Zf <| Z7 <| Z1 I (Ze (v := (.int .i64 v1)) I I) I <| Z1 I (Ze (v := (.vs 0)) I I) I <| Z1 I (stx_lenV (l := a0) (enc := Zv) I u36 I I) I <| Z1 I (Z1f (k := .i64) (a := v1) (b := (a0.length : Int)) (c := (decide (v1 < (a0.length : Int)))) I I I I) I <| Z1 I (Ze (v := (.bool (decide (v1 < (a0.length : Int))))) I I) I ?_
   have hif := Z1g h
   refine Z15 (fun hc => ?_) (fun hc => ?_)
   ·have h := hif.1 hc
    refine Zh I I I I (Ze (v := (.vs 0)) I I) I <| Zh I I I I (Ze (v := (.int .i64 v1)) I I) I ?_
    have ⟨hg25, h⟩ := Zz h
    refine Zh I I I I (st_indexV (k := .i64) (v := (.vs 0)) (n := 0) (off := 0) (len := a0.length) (es := (List.map Zv a0)) (j := v1) (m := v1.toNat) I s36 I I (vecR_map _ _ _) I hg25 (Nat.zero_add _)) I ?_
    have ⟨hg26, h⟩ := Zz h
    refine Zh I I I I (st_loadV (l := a0) (enc := Zv) (z := []) (v := (.str (a0.getD v1.toNat []))) I o9 I I hg26 I) I <| Zh I I I I (Ze (v := (.str a1)) I I) I <| Zh I I I I (st_cmpS (a := (a0.getD v1.toNat [])) (b := a1) (c := (slt (a0.getD v1.toNat []) a1)) I I I I) I <| Z1 I (Z1d (v := (.bool (slt (a0.getD v1.toNat []) a1))) I I I) I <| Za <| Zd ?_
    have hif := Z1g h
    refine Zs I (fun hc => ?_) (fun hc => ?_)
    ·have h := hif.1 hc
     refine Zx <| Zd <| AWp.block <| Z7 <| Z1 I (Ze (v := (.int .i64 v1)) I I) I <| Z1 I (Z1o (k := .i64) (a := v1) (b := 1) (c := (IntKind.i64.wrap (v1 + 1))) I I I I) I <| Z1 I (Zg (v := (.int .i64 (IntKind.i64.wrap (v1 + 1)))) I I) I <| Za ?_
     refine At.end ?_
     exact Zp (st' := ⟨[(0, (.vs 0)), (1, (.str a1)), (5, (.int .i64 (IntKind.i64.wrap (v1 + 1))))], [(0, (.vec 1 (List.map Zv a0)))]⟩) ⟨rfl, rfl, rfl, trivial⟩ ⟨rfl, trivial⟩ (IH2 _ (IntKind.i64.wrap (v1 + 1)) (Nat.lt_succ_self _) h)
    ·have h := hif.2 hc
     refine AWp.exit <| At.thru ?_
     exact Zp (st' := ⟨[(0, (.vs 0)), (1, (.str a1)), (5, (.int .i64 v1))], [(0, (.vec 1 (List.map Zv a0)))]⟩) ⟨rfl, rfl, rfl, trivial⟩ ⟨rfl, trivial⟩ (J2 v1 h)
   ·have h := hif.2 hc
    refine Z5 I I I I I I I <| Z5 I I I I I I I <| Z5 I I I I I I I <| Z5 I I I I I I I <| Z5 I I I I I I I <| Z5 I I I I I I I <| Z1 I (Z10 (v := (.bool false)) I I I) I <| Za ?_
    refine Zd ?_
    refine Zs (b := false) I (fun hc => ?_) (fun hc => ?_)
    ·cases hc
    refine AWp.exit <| At.thru ?_
    exact Zp (st' := ⟨[(0, (.vs 0)), (1, (.str a1)), (5, (.int .i64 v1))], [(0, (.vec 1 (List.map Zv a0)))]⟩) ⟨rfl, rfl, rfl, trivial⟩ ⟨rfl, trivial⟩ (J2 v1 h)
def F15_c5 (K : Nat) (v4 : (List Str)) : Option ((List Str)) :=
 some v4
def F15_l3 (K : Nat) (a0 : Zm) (c6 : (List Str) → Option ((List Str))) : Nat → Int → (List Str) → Option ((List Str))
 | 0, _, _ => none
 | k3 + 1, v1, v2 =>
  if (decide (v1 < (a0.Firings.length : Int))) = true then
   if (0 : Int) ≤ v1 ∧ v1 < a0.Firings.length then
    (F19 K a0.Policy (a0.Firings.getD v1.toNat Zi)).bind fun v10 =>
     (F44 K v2 v10).bind fun v12 =>
      (F15_l3 K a0 c6 k3) (IntKind.i64.wrap (v1 + 1)) v12
   else none
  else
   c6 v2
def F15 (K : Nat) (a0 : Zm) : Option ((List Str)) :=
 F15_l3 K a0 (F15_c5 K) K 0 []
theorem F15_ok (K : Nat) (a0 : Zm) (r : (List Str)) (h : F15 K a0 = some r) : ACall P 15 ⟨[(Z6 a0)], [], .vs 2, [(2, .vec 1 (List.map Zv r))], [2]⟩ := by
 refine acall_of Try.func15 Try.results15 rfl Try.ntmps15 rfl rfl rfl ?_
 intro E Q hP hN hro hret
 obtain ⟨P', nt', w0, F0, p0, S0, β0, ro0⟩ := E
 simp only at hP hN
 subst hP hN
 dsimp only [argT]
 unfold F15 at h
 refine Zf <| Z7 <| Z1 I (st_box (v := (Z6 a0)) (cs := (Z6 a0).cells) I I I I I) I <| Z1 I (Zg (v := (.sl 1 [] false)) I I) I <| Za <| Zd <| Zf <| Z7 ?_
 refine Z1 I (Zg (v := (.sl 1 [] true)) I I) I <| Za <| Zd <| Zf <| Zf <| Z7 <| Z1 I (Zg (v := (.int .i64 0)) I I) I <| Za ?_
 refine Zd <| AWp.ghost (st' := ⟨[(1, (.ptr 1 0)), (3, (.vs 3)), (4, (.int .i64 0))], [(1, (.box (Z6 a0).cells)), (3, (.vec 1 (List.map Zv ([] : List Str))))]⟩) (fun a w h => (Z1h ⟨[(1, (.ptr 1 0)), (3, (.vs 3)), (4, (.int .i64 0))], [(1, (.box (Z6 a0).cells)), (3, (.vec 1 (List.map Zv ([] : List Str))))]⟩ (ghost_own (k := 3) (m := 3) (sz := 1) I I a w (Z1h ⟨[(3, (.sl 1 [] true)), (1, (.ptr 1 0)), (4, (.int .i64 0))], [(1, (.box (Z6 a0).cells))]⟩ h ⟨rfl, rfl, rfl, trivial⟩ ⟨rfl, trivial⟩)) ⟨rfl, rfl, rfl, trivial⟩ ⟨rfl, rfl, trivial⟩)) <| AWp.weaken (st' := ⟨[(1, (.ptr 1 0)), (3, (.vs 3)), (4, (.int .i64 0))], [(1, (.box (Z6 a0).cells)), (3, (.vec 1 (List.map Zv [])))]⟩) ⟨rfl, rfl, rfl, trivial⟩ ⟨rfl, rfl, trivial⟩ ?_
 refine Z1l (V := Int × (List Str)) (X := (List Str)) (lp := fun k v => F15_l3 K a0 (F15_c5 K) k v.1 v.2 = some r) (sh := fun v => ⟨[(1, (.ptr 1 0)), (3, (.vs 3)), (4, (.int .i64 v.1))], [(1, (.box (Z6 a0).cells)), (3, (.vec 1 (List.map Zv v.2)))]⟩) (x := fun v => F15_c5 K v = some r) (shx := fun v => ⟨[(3, (.vs 3))], [(3, (.vec 1 (List.map Zv v)))]⟩) (k := K) (v := (0, [])) h ?_ ?_
 ·intro v h
  revert h
  revert v
  intro v4 h
  try dsimp only at h ⊢
  unfold F15_c5 at h
  refine Zd <| Zf <| Z7 <| Z1 I (Ze (v := (.vs 3)) I I) I <| Z1 I (Zg (v := (.vs 3)) I I) I <| Za <| Zd <| Z18 ?_
  refine At.ghost (st' := ⟨[(2, (.vs 2))], [(2, (.vec 1 (List.map Zv v4)))]⟩) (fun a w h => (Z1h ⟨[(2, (.vs 2))], [(2, (.vec 1 (List.map Zv v4)))]⟩ (ghost_sw (a := 3) (b := 2) I I a w (Z1h ⟨[(2, (.vs 3))], [(3, (.vec 1 (List.map Zv v4)))]⟩ h ⟨rfl, trivial⟩ ⟨rfl, trivial⟩)) ⟨rfl, trivial⟩ ⟨rfl, trivial⟩)) ?_
  have h := Option.some.inj h
  subst h
  refine (hret _ ?_).1
  exact ⟨[(.vs 2)], ⟨rfl, trivial⟩, rfl, ⟨rfl, trivial⟩⟩
 ·intro N k3 v h IH3 J3
  obtain ⟨v1, v2⟩ := v
  try dsimp only at h IH3 J3 ⊢
  cases k3 with
  | zero => cases h
  | succ k3 =>
   rw [F15_l3] at h
   refine Zf <| Zf <| Z7 <| Z1 I (Ze (v := (.int .i64 v1)) I I) I <| Z1 I (Zu (m := 1) (o := 0) I f34_1 I I) I <| Z1 I (Z11 (cs := (Z6 a0).cells) (v := (.sl 4 (a0.Firings.map Z8) false)) I o30 I I I) I <| Z1 I (stx_len (l := a0.Firings) (enc := Z8) I s30 I) I <| Z1 I (Z1f (k := .i64) (a := v1) (b := (a0.Firings.length : Int)) (c := (decide (v1 < (a0.Firings.length : Int)))) I I I I) I ?_
   refine Za <| Zd ?_
   have hif := Z1g h
   refine Zs I (fun hc => ?_) (fun hc => ?_)
   ·have h := hif.1 hc
    refine Zx <| Zd <| Zf <| AWp.block <| AWp.regionD mixed <| Zn 0 I (Ze (v := (.vs 3)) I I) <| Zn 1 I (Zu (m := 1) (o := 0) I f34_0 I I) <| Zn 2 I (Z1p (cs := (Z6 a0).cells) (vs := (Z13 a0.Policy).cells) I a29 I I I I) ?_
    refine Zn 3 I (Zu (m := 1) (o := 0) I f34_1 I I) <| Zn 4 I (Z11 (cs := (Z6 a0).cells) (v := (.sl 4 (a0.Firings.map Z8) false)) I o30 I I I) <| Zn 5 I (Ze (v := (.int .i64 v1)) I I) ?_
    have ⟨hg8, h⟩ := Zz h
    refine Zn 6 I (st_index (k := .i64) (l := a0.Firings) (enc := Z8) (z := Zi) (n := v1) (cs := (Z8 (a0.Firings.getD v1.toNat Zi)).cells) (full := false) I s30 I I hg8 I) <| Zn 7 I (st_loadIA (cs := (Z8 (a0.Firings.getD v1.toNat Zi)).cells) (vs := (Z8 (a0.Firings.getD v1.toNat Zi)).cells) I a42 I I I) ?_
    have ⟨v10, hv10, h⟩ := Z17 h
    refine Zn 8 I (Z1b (ar := [(Z13 a0.Policy), (Z8 (a0.Firings.getD v1.toNat Zi))]) (caps := []) Try.call19 (F19_ok K a0.Policy (a0.Firings.getD v1.toNat Zi) v10 hv10) I I ⟨rfl, rfl, trivial⟩ I) ?_
    have ⟨v12, hv12, h⟩ := Z17 h
    refine Zn 9 I (st_call (d := some 21) (c := ⟨[(.vs 3), (.str v10)] ++ [], [(3, (.vec 1 (List.map Zv v2)))], .vs 3, [(3, .vec 1 (List.map Zv v12))], [3]⟩) (ar := [(.vs 3), (.str v10)]) (caps := []) (news := []) (forg := [3]) Try.call44 ((F44_ok K v2 v10 v12 hv12).sw 0 3) I I ⟨rfl, rfl, trivial⟩ I ⟨rfl, trivial⟩ I) <| Zn 10 I (Zg (v := (.vs 3)) I I) <| AOpsD.nil (by kernel_rfl) I <| At.end <| Zd <| Z7 <| Z1 I (Ze (v := (.int .i64 v1)) I I) I <| Z1 I (Z1o (k := .i64) (a := v1) (b := 1) (c := (IntKind.i64.wrap (v1 + 1))) I I I I) I ?_
    refine Z1 I (Zg (v := (.int .i64 (IntKind.i64.wrap (v1 + 1)))) I I) I <| Za ?_
    exact Zp (st' := ⟨[(1, (.ptr 1 0)), (3, (.vs 3)), (4, (.int .i64 (IntKind.i64.wrap (v1 + 1))))], [(1, (.box (Z6 a0).cells)), (3, (.vec 1 (List.map Zv v12)))]⟩) ⟨rfl, rfl, rfl, trivial⟩ ⟨rfl, rfl, trivial⟩ (IH3 _ ((IntKind.i64.wrap (v1 + 1)), v12) (Nat.lt_succ_self _) h)
   ·have h := hif.2 hc
    refine AWp.exit <| At.thru ?_
    exact Zp (st' := ⟨[(3, (.vs 3))], [(3, (.vec 1 (List.map Zv v2)))]⟩) ⟨rfl, trivial⟩ ⟨rfl, trivial⟩ (J3 v2 h)
end Go.AM.Noti
