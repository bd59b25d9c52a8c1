/- What these functions compute, each with its walk: F130, F131, F129, F133, F88, F43, F44, F10. -/
import Derived.Test.YtkhbjnkckblkjaaGreatTopZT
import Derived.Test.YtkhbjnkckblkjaaGreatTopZG1
import Derived.Test.YtkhbjnkckblkjaaGreatTopZG3
import Derived.Test.YtkhbjnkckblkjaaGreatTopZG6
namespace Go.AM.TopZ
open Go Go.AM Go.Proofs
set_option maxRecDepth 100000
set_option maxHeartbeats 2000000
def F130_c3 (K : Nat) : Option (Int) :=
 some (Int.negSucc 0)
def F130_l2 (K : Nat) (a0 : (List Int)) (a1 : Int) (c4 : Option (Int)) : Nat → Int → Option (Int)
 | 0, _ => none
 | k2 + 1, v1 =>
  if (decide (v1 < (a0.length : Int))) = true then
   if (0 : Int) ≤ v1 ∧ v1 < a0.length then
    if (a1 == (a0.getD v1.toNat 0)) = true then
     some v1
    else
     (F130_l2 K a0 a1 c4 k2) (IntKind.i64.wrap (v1 + 1))
   else none
  else
   c4
def F130 (K : Nat) (a0 : (List Int)) (a1 : Int) : Option (Int) :=
 F130_l2 K a0 a1 (F130_c3 K) K 0
theorem F130_ok (K : Nat) (a0 : (List Int)) (a1 : Int) (r : Int) (h : F130 K a0 a1 = some r) : ACall P 130 ⟨[(.sl 1 (a0.map Z11) false), (.int .i64 a1)], [], (.int .i64 r), [], []⟩ := by
 refine Z1r Tryz.func130 Tryz.results130 rfl Tryz.ntmps130 rfl rfl rfl ?_
 intro E Q hP hN hro hret
 obtain ⟨P', nt', w0, F0, p0, S0, β0, ro0⟩ := E
 simp only at hP hN
 subst hP hN
 dsimp only [argT]
 unfold F130 at h
 refine Zh <| Za <| Z1 I (Zj (v := (.int .i64 0)) I I) I <| Zf <| Zg <| Zh <| Zh <| Za ?_
 refine Z1 I (Zi (v := (.sl 1 (a0.map Z11) false)) I I) I <| Z1 I (stx_len (l := a0) (enc := Z11) I s65 I) I <| Z1 I (Zi (v := (.int .i64 0)) I I) I <| Zf <| Zg <| Z1w (st' := ⟨[(0, (.sl 1 (a0.map Z11) false)), (1, (.int .i64 a1)), (7, (.int .i64 (a0.length : Int))), (8, (.int .i64 0))], []⟩) ⟨rfl, rfl, rfl, rfl, trivial⟩ trivial ?_
 refine Z1j (V := Int) (X := Unit) (lp := fun k v => F130_l2 K a0 a1 (F130_c3 K) k v = some r) (sh := fun v => ⟨[(0, (.sl 1 (a0.map Z11) false)), (1, (.int .i64 a1)), (7, (.int .i64 (a0.length : Int))), (8, (.int .i64 v))], []⟩) (x := fun v => F130_c3 K = some r) (shx := fun v => ⟨[], []⟩) (k := K) (v := 0) h ?_ ?_
 ·intro v h
  try dsimp only at h ⊢
  unfold F130_c3 at h
  refine Zg <| Zh <| Za <| Z1 I (Zj (v := (.int .i64 (Int.negSucc 0))) I I) I <| Zf <| Zg <| Z1d ?_
  have h := Option.some.inj h
  subst h
  refine (hret _ ?_).1
  exact ⟨[(.int .i64 (Int.negSucc 0))], ⟨rfl, trivial⟩, rfl, trivial⟩
 ·intro N k2 v h IH2 J2
  revert h
  revert v
  intro v1 h
  try dsimp only at h IH2 J2 ⊢
  cases k2 with
  | zero => cases h
  | succ k2 =>
   rw [F130_l2] at h
   refine Zh <| Za <| Z1 I (st_cmp (k := .i64) (a := v1) (b := (a0.length : Int)) (c := (decide (v1 < (a0.length : Int)))) I I I I) I <| Zf <| Zg <| Zh ?_
   have hif := of_if h
   refine Z15 I (fun hc => ?_) (fun hc => ?_)
   ·have h := hif.1 hc
    refine Z18 <| Zg <| Zh <| AWp.block <| Zh <| Za <| Z1 I (Zi (v := (.int .i64 v1)) I I) I <| Z1 I (Zj (v := (.int .i64 v1)) I I) I ?_
    refine Zf <| Zg <| Zh <| Za <| Z1 I (Zi (v := (.int .i64 a1)) I I) I <| Z1 I (Zi (v := (.sl 1 (a0.map Z11) false)) I I) I <| Z1 I (Zi (v := (.int .i64 v1)) I I) I ?_
    have ⟨hg6, h⟩ := Zv h
    refine Z1 I (Z1y (k := .i64) (l := a0) (enc := Z11) (z := 0) (n := v1) (cs := [(.int .i64 (a0.getD v1.toNat 0))]) (full := false) I s65 I I hg6 I) I <| Z1 I (st_loadI (cs := [(.int .i64 (a0.getD v1.toNat 0))]) (v := (.int .i64 (a0.getD v1.toNat 0))) I o3 I I) I <| Z1 I (st_cmp (k := .i64) (a := a1) (b := (a0.getD v1.toNat 0)) (c := (a1 == (a0.getD v1.toNat 0))) I I I I) I <| Zf <| Zg ?_
    have hif := of_if h
    refine Z15 I (fun hc => ?_) (fun hc => ?_)
    ·have h := hif.1 hc
     refine Zh <| Za <| Z1 I (Zi (v := (.int .i64 v1)) I I) I <| Z1 I (Zj (v := (.int .i64 v1)) I I) I <| Zf <| Zg <| Z1d <| At.overR ?_
     refine Z1f ?_
     refine Z1f (At.overR ?_)
     refine Z1f ?_
     have h := Option.some.inj h
     subst h
     refine (hret _ ?_).1
     exact ⟨[(.int .i64 v1)], ⟨rfl, trivial⟩, rfl, trivial⟩
    ·have h := hif.2 hc
     refine Z18 <| At.end <| Zg <| Za <| Z1 I (Z1s (k := .i64) (a := v1) (b := 1) (c := (IntKind.i64.wrap (v1 + 1))) I I I I) I <| Z1 I (Zi (v := (.int .i64 (IntKind.i64.wrap (v1 + 1)))) I I) I <| Zf ?_
     exact Zx (st' := ⟨[(0, (.sl 1 (a0.map Z11) false)), (1, (.int .i64 a1)), (7, (.int .i64 (a0.length : Int))), (8, (.int .i64 (IntKind.i64.wrap (v1 + 1))))], []⟩) ⟨rfl, rfl, rfl, rfl, trivial⟩ trivial (IH2 _ (IntKind.i64.wrap (v1 + 1)) (Nat.lt_succ_self _) h)
   ·have h := hif.2 hc
    refine AWp.exit <| At.thru ?_
    exact Zx (st' := ⟨[], []⟩) trivial trivial (J2 () h)
def F131 (K : Nat) (a0 : (List Int)) : Option ((List Int)) :=
 if ([] : List Int).length + a0.length ≤ 1073741824 then
  some a0
 else none
theorem F131_ok (K : Nat) (a0 : (List Int)) (r : (List Int)) (h : F131 K a0 = some r) : ACall P 131 ⟨[(.sl 1 (a0.map Z11) false)], [], .vs 2, [(2, .vec 1 (List.map Z11 r))], [2]⟩ := by
 refine Z1r Tryz.func131 Tryz.results131 rfl Tryz.ntmps131 rfl rfl rfl ?_
 intro E Q hP hN hro hret
 obtain ⟨P', nt', w0, F0, p0, S0, β0, ro0⟩ := E
 simp only at hP hN
 subst hP hN
 dsimp only [argT]
 unfold F131 at h
 refine Zh <| Za <| Z1 I (Zj (v := (.sl 1 [] true)) I I) I <| Zf <| Zg <| Zh <| Zh <| Za ?_
 refine Z1 I (Zi (v := (.sl 1 (a0.map Z11) false)) I I) I ?_
 refine AOps.consNil (enc := Z11) (es := a0) (full := false) I u65 I (fun x1 hbx1 => ?_)
 refine Zf <| Zg ?_
 refine Z15 I (fun hc => ?_) (fun hc => ?_)
 ·have hz := hbx1 hc
  have h : (some []) = some r := by simp only [hz] at h ⊢; simpa using h
  refine Zh <| Za <| Z1 I (Zj (v := (.sl 1 [] true)) I I) I <| Zf <| Zg <| Z1d <| Z1f <| At.ghost (st' := ⟨[(2, (.vs 2))], [(2, (.vec 1 (List.map Z11 ([] : List Int))))]⟩) (fun a w h => (Z17 ⟨[(2, (.vs 2))], [(2, (.vec 1 (List.map Z11 ([] : List Int))))]⟩ (ghost_own (k := 2) (m := 2) (sz := 1) I I a w (Z17 ⟨[(2, (.sl 1 [] true))], []⟩ h ⟨rfl, trivial⟩ trivial)) ⟨rfl, trivial⟩ ⟨rfl, trivial⟩)) ?_
  have h := Option.some.inj h
  subst h
  refine (hret _ ?_).1
  exact ⟨[(.vs 2)], ⟨rfl, trivial⟩, rfl, ⟨rfl, trivial⟩⟩
 ·refine Z18 <| Zg <| Zh <| Za <| Z1 I (Z1i (vs := []) (enc := Z11) (l := ([] : List Int)) I el65 I I trivial I els_i64 I I I I) I <| Z1 I (Zi (v := (.sl 1 (a0.map Z11) false)) I I) I ?_
  have ⟨hg2, h⟩ := Zv h
  refine Z1 I (st_append (m := 5) (enc := Z11) (l := ([] : List Int)) (l' := a0) (src := (.sl 1 (a0.map Z11) false)) (rd := []) I I el65 I u65 I I I ⟨rfl, rfl, rfl⟩ noReads els_i64 hg2) I <| Z1 I (Zj (v := (.vs 5)) I I) I <| Zf <| Zg <| Z1d <| At.ghost (st' := ⟨[(2, (.vs 2))], [(2, (.vec 1 (List.map Z11 a0)))]⟩) (fun a w h => (Z17 ⟨[(2, (.vs 2))], [(2, (.vec 1 (List.map Z11 a0)))]⟩ (ghost_sw (a := 5) (b := 2) I I a w (Z17 ⟨[(2, (.vs 5))], [(5, (.vec 1 (List.map Z11 a0)))]⟩ h ⟨rfl, trivial⟩ ⟨rfl, trivial⟩)) ⟨rfl, trivial⟩ ⟨rfl, trivial⟩)) ?_
  have h := Option.some.inj h
  subst h
  refine (hret _ ?_).1
  exact ⟨[(.vs 2)], ⟨rfl, trivial⟩, rfl, ⟨rfl, trivial⟩⟩
def F129_c51 (K : Nat) (v43 : (List Int)) (v25 : (List (List Int))) (v30 : Int) (v31 : (List (List Int))) (v29 : (List Int)) (v28 : (List Int)) (v27 : (List Int)) (v39 : Int) (v50 : (List Bool)) : Option (Int × (List (List Int)) × (List Int) × (List Int) × (List Int) × (List Bool) × (List (List Int))) :=
 (sortI v43).bind fun v54 =>
  if v25.length + [v54].length ≤ 1073741824 then
   some (v30, v31, v29, v28, ((v27.drop (0 + (0 : Int).toNat)).take (v39.toNat - (0 : Int).toNat)), v50, (v25 ++ [v54]))
  else none
def F129_l49 (K : Nat) (v43 : (List Int)) (c52 : (List Bool) → Option (Int × (List (List Int)) × (List Int) × (List Int) × (List Int) × (List Bool) × (List (List Int)))) : Nat → Int → (List Bool) → Option (Int × (List (List Int)) × (List Int) × (List Int) × (List Int) × (List Bool) × (List (List Int)))
 | 0, _, _ => none
 | k49 + 1, v47, v48 =>
  if (decide (v47 < (v43.length : Int))) = true then
   if (0 : Int) ≤ v47 ∧ v47 < (v43.length : Nat) then
    if v47.toNat < v43.length then
     if (0 : Int) ≤ (v43.getD v47.toNat 0) ∧ (v43.getD v47.toNat 0) < (v48.length : Nat) then
      if (v43.getD v47.toNat 0).toNat < v48.length then
       (F129_l49 K v43 c52 k49) (IntKind.i64.wrap (v47 + 1)) (v48.set (v43.getD v47.toNat 0).toNat false)
      else none
     else none
    else none
   else none
  else
   c52 v48
def F129_c32 (K : Nat) (a0 : Int) (v25 : (List (List Int))) (v26 : (List Bool)) (v27 : (List Int)) (v28 : (List Int)) (v29 : (List Int)) (v30 : Int) (v31 : (List (List Int))) : Option (Int × (List (List Int)) × (List Int) × (List Int) × (List Int) × (List Bool) × (List (List Int))) :=
 if (0 : Int) ≤ a0 ∧ a0 < (v28.length : Nat) then
  if a0.toNat < v28.length then
   if (0 : Int) ≤ a0 ∧ a0 < (v29.length : Nat) then
    if a0.toNat < v29.length then
     if ((v28.getD a0.toNat 0) != (v29.getD a0.toNat 0)) = true then
      some (v30, v31, v29, v28, v27, v26, v25)
     else
      (F130 K v27 a0).bind fun v39 =>
       if (0 : Int) ≤ v39 ∧ v39 ≤ (v27.length : Int) ∧ (v27.length : Int) ≤ (v27.length : Nat) then
        if (0 + v39.toNat) + ((v27.length : Int).toNat - v39.toNat) ≤ v27.length then
         (F131 K ((v27.drop (0 + v39.toNat)).take ((v27.length : Int).toNat - v39.toNat))).bind fun v43 =>
          if (0 : Int) ≤ 0 ∧ 0 ≤ v39 ∧ v39 ≤ (v27.length : Nat) then
           if (0 + (0 : Int).toNat) + (v39.toNat - (0 : Int).toNat) ≤ v27.length then
            if (0 + (0 : Int).toNat) + (v39.toNat - (0 : Int).toNat) ≤ v27.length then
             F129_l49 K v43 (F129_c51 K v43 v25 v30 v31 v29 v28 v27 v39) K 0 v26
            else none
           else none
          else none
        else none
       else none
    else none
   else none
  else none
 else none
def F129_j72 (K : Nat) (b61 : Int → (List (List Int)) → (List Bool) → (List Int) → (List Int) → (List Int) → Int → (List (List Int)) → Option (Int × (List (List Int)) × (List Int) × (List Int) × (List Int) × (List Bool) × (List (List Int)))) (v16 : Int) (v65 : (List (List Int))) (v66 : (List Bool)) (v67 : (List Int)) (v68 : (List Int)) (v69 : (List Int)) (v70 : Int) (v71 : (List (List Int))) : Option (Int × (List (List Int)) × (List Int) × (List Int) × (List Int) × (List Bool) × (List (List Int))) :=
 b61 (IntKind.i64.wrap (v16 + 1)) v65 v66 v67 v68 v69 v70 v71
def F129_l24 (K : Nat) (a2 : (List (List Int))) (a0 : Int) (b900 : Int → Int → (List (List Int)) → (List Int) → (List Int) → (List Int) → (List Bool) → (List (List Int)) → Option (Int × (List (List Int)) × (List Int) × (List Int) × (List Int) × (List Bool) × (List (List Int)))) (c33 : (List (List Int)) → (List Bool) → (List Int) → (List Int) → (List Int) → Int → (List (List Int)) → Option (Int × (List (List Int)) × (List Int) × (List Int) × (List Int) × (List Bool) × (List (List Int)))) : Nat → Int → (List (List Int)) → (List Bool) → (List Int) → (List Int) → (List Int) → Int → (List (List Int)) → Option (Int × (List (List Int)) × (List Int) × (List Int) × (List Int) × (List Bool) × (List (List Int)))
 | 0, _, _, _, _, _, _, _, _ => none
 | k24 + 1, v16, v17, v18, v19, v20, v21, v22, v23 =>
  if (decide (v16 < ((a2.getD a0.toNat []).length : Int))) = true then
   if (0 : Int) ≤ v16 ∧ v16 < (a2.getD a0.toNat []).length then
    if (0 : Int) ≤ ((a2.getD a0.toNat []).getD v16.toNat 0) ∧ ((a2.getD a0.toNat []).getD v16.toNat 0) < (v21.length : Nat) then
     if ((a2.getD a0.toNat []).getD v16.toNat 0).toNat < v21.length then
      if ((v21.getD ((a2.getD a0.toNat []).getD v16.toNat 0).toNat 0) == 0) = true then
       (b900 ((a2.getD a0.toNat []).getD v16.toNat 0) v22 v23 v21 v20 v19 v18 v17).bind fun v74 =>
        if (0 : Int) ≤ a0 ∧ a0 < (v74.2.2.2.1.length : Nat) then
         if a0.toNat < v74.2.2.2.1.length then
          if (0 : Int) ≤ ((a2.getD a0.toNat []).getD v16.toNat 0) ∧ ((a2.getD a0.toNat []).getD v16.toNat 0) < (v74.2.2.2.1.length : Nat) then
           if ((a2.getD a0.toNat []).getD v16.toNat 0).toNat < v74.2.2.2.1.length then
            if (0 : Int) ≤ a0 ∧ a0 < (v74.2.2.2.1.length : Nat) then
             if a0.toNat < v74.2.2.2.1.length then
              F129_j72 K (F129_l24 K a2 a0 b900 c33 k24) v16 v74.2.2.2.2.2.2 v74.2.2.2.2.2.1 v74.2.2.2.2.1 (v74.2.2.2.1.set a0.toNat (if (v74.2.2.2.1.getD ((a2.getD a0.toNat []).getD v16.toNat 0).toNat 0) < (v74.2.2.2.1.getD a0.toNat 0) then (v74.2.2.2.1.getD ((a2.getD a0.toNat []).getD v16.toNat 0).toNat 0) else (v74.2.2.2.1.getD a0.toNat 0))) v74.2.2.1 v74.1 v74.2.1
             else none
            else none
           else none
          else none
         else none
        else none
      else
       if (0 : Int) ≤ ((a2.getD a0.toNat []).getD v16.toNat 0) ∧ ((a2.getD a0.toNat []).getD v16.toNat 0) < (v18.length : Nat) then
        if ((a2.getD a0.toNat []).getD v16.toNat 0).toNat < v18.length then
         if (v18.getD ((a2.getD a0.toNat []).getD v16.toNat 0).toNat false) = true then
          if (0 : Int) ≤ a0 ∧ a0 < (v20.length : Nat) then
           if a0.toNat < v20.length then
            if (0 : Int) ≤ ((a2.getD a0.toNat []).getD v16.toNat 0) ∧ ((a2.getD a0.toNat []).getD v16.toNat 0) < (v21.length : Nat) then
             if ((a2.getD a0.toNat []).getD v16.toNat 0).toNat < v21.length then
              if (0 : Int) ≤ a0 ∧ a0 < (v20.length : Nat) then
               if a0.toNat < v20.length then
                F129_j72 K (F129_l24 K a2 a0 b900 c33 k24) v16 v17 v18 v19 (v20.set a0.toNat (if (v21.getD ((a2.getD a0.toNat []).getD v16.toNat 0).toNat 0) < (v20.getD a0.toNat 0) then (v21.getD ((a2.getD a0.toNat []).getD v16.toNat 0).toNat 0) else (v20.getD a0.toNat 0))) v21 v22 v23
               else none
              else none
             else none
            else none
           else none
          else none
         else
          F129_j72 K (F129_l24 K a2 a0 b900 c33 k24) v16 v17 v18 v19 v20 v21 v22 v23
        else none
       else none
     else none
    else none
   else none
  else
   c33 v17 v18 v19 v20 v21 v22 v23
def F129 : Nat → Int → Int → (List (List Int)) → (List Int) → (List Int) → (List Int) → (List Bool) → (List (List Int)) → Option (Int × (List (List Int)) × (List Int) × (List Int) × (List Int) × (List Bool) × (List (List Int)))
 | 0, _, _, _, _, _, _, _, _ => none
 | K + 1, a0, a1, a2, a3, a4, a5, a6, a7 =>
  if (0 : Int) ≤ a0 ∧ a0 < (a3.length : Nat) then
   if a0.toNat < a3.length then
    if (0 : Int) ≤ a0 ∧ a0 < (a4.length : Nat) then
     if a0.toNat < a4.length then
      if a5.length + [a0].length ≤ 1073741824 then
       if (0 : Int) ≤ a0 ∧ a0 < (a6.length : Nat) then
        if a0.toNat < a6.length then
         if (0 : Int) ≤ a0 ∧ a0 < a2.length then
          F129_l24 K a2 a0 (F129 K) (F129_c32 K a0) K 0 a7 (a6.set a0.toNat true) (a5 ++ [a0]) (a4.set a0.toNat (IntKind.i64.wrap (a1 + 1))) (a3.set a0.toNat (IntKind.i64.wrap (a1 + 1))) (IntKind.i64.wrap (a1 + 1)) a2
         else none
        else none
       else none
      else none
     else none
    else none
   else none
  else none
theorem F129_ok : ∀ (K : Nat) (a0 : Int) (a1 : Int) (a2 : (List (List Int))) (a3 : (List Int)) (a4 : (List Int)) (a5 : (List Int)) (a6 : (List Bool)) (a7 : (List (List Int))) (r : Int × (List (List Int)) × (List Int) × (List Int) × (List Int) × (List Bool) × (List (List Int))) (h : F129 K a0 a1 a2 a3 a4 a5 a6 a7 = some r), ACall P 129 ⟨[(.int .i64 a0), (.ptr 2000 0), (.ptr 2001 0), (.ptr 2002 0), (.ptr 2003 0), (.ptr 2004 0), (.ptr 2005 0), (.ptr 2006 0), (.ptr 2007 0)], [(2000, (.box [(.int .i64 a1)])), (2001, (.box [(.vs 111)])), (2002, (.box [(.vs 110)])), (2003, (.box [(.vs 108)])), (2004, (.box [(.vs 107)])), (2005, (.box [(.sl 1 (a2.map Z1c) false)])), (2006, (.box [(.clo 129 [(.ptr 2000 0), (.ptr 2001 0), (.ptr 2002 0), (.ptr 2003 0), (.ptr 2004 0), (.ptr 2005 0), (.ptr 2006 0), (.ptr 2007 0)])])), (2007, (.box [(.vs 106)])), (111, (.vec 1 (List.map Z11 a3))), (110, (.vec 1 (List.map Z11 a4))), (108, (.vec 1 (List.map Z11 a5))), (107, (.vec 1 (List.map e_bool a6))), (106, (.vec 1 (List.map Z1c a7)))], (.tup []), [(2000, (.box [(.int .i64 r.1)])), (2001, (.box [(.vs 111)])), (2002, (.box [(.vs 110)])), (2003, (.box [(.vs 108)])), (2004, (.box [(.vs 107)])), (2005, (.box [(.sl 1 (r.2.1.map Z1c) false)])), (2006, (.box [(.clo 129 [(.ptr 2000 0), (.ptr 2001 0), (.ptr 2002 0), (.ptr 2003 0), (.ptr 2004 0), (.ptr 2005 0), (.ptr 2006 0), (.ptr 2007 0)])])), (2007, (.box [(.vs 106)])), (111, (.vec 1 (List.map Z11 r.2.2.1))), (110, (.vec 1 (List.map Z11 r.2.2.2.1))), (108, (.vec 1 (List.map Z11 r.2.2.2.2.1))), (107, (.vec 1 (List.map e_bool r.2.2.2.2.2.1))), (106, (.vec 1 (List.map Z1c r.2.2.2.2.2.2)))], [111, 110, 108, 107, 106]⟩ := by
 intro K
 induction K with
 | zero => intro a0 a1 a2 a3 a4 a5 a6 a7 r h; cases h
 | succ K IH =>
  intro a0 a1 a2 a3 a4 a5 a6 a7 r h
  refine Z1r Tryz.func129 Tryz.results129 rfl Tryz.ntmps129 rfl rfl rfl ?_
  intro E Q hP hN hro hret
  obtain ⟨P', nt', w0, F0, p0, S0, β0, ro0⟩ := E
  simp only at hP hN
  subst hP hN
  dsimp only [argT]
  rw [F129] at h
  refine Zh <| Za <| Z1 I (Zs (cs := [(.int .i64 a1)]) (v := (.int .i64 a1)) I o3 I I I) I <| Z1 I (Z1s (k := .i64) (a := a1) (b := 1) (c := (IntKind.i64.wrap (a1 + 1))) I I I I) I <| Z1 I (Z1h (cs := [(.int .i64 a1)]) (vs := [(.int .i64 (IntKind.i64.wrap (a1 + 1)))]) (ds := [(.int .i64 (IntKind.i64.wrap (a1 + 1)))]) (v := (.int .i64 (IntKind.i64.wrap (a1 + 1)))) sz3 I I I I I I I I) I <| Zf <| Zg <| Zh ?_
  refine Z1u mixed <| Z8 0 I (st_loadPC (cs := [(.vs 111)]) (v := (.vs 111)) I o65 I I I) <| Z8 1 I (Zi (v := (.int .i64 a0)) I I) <| Z8 2 I (st_loadPC (cs := [(.vs 110)]) (v := (.vs 110)) I o65 I I I) <| Z8 3 I (Zi (v := (.int .i64 a0)) I I) <| Z8 4 I (Zs (cs := [(.int .i64 (IntKind.i64.wrap (a1 + 1)))]) (v := (.int .i64 (IntKind.i64.wrap (a1 + 1)))) I o3 I I I) <| Z8 5 I (Zs (cs := [(.int .i64 (IntKind.i64.wrap (a1 + 1)))]) (v := (.int .i64 (IntKind.i64.wrap (a1 + 1)))) I o3 I I I) ?_
  have ⟨hg8, h⟩ := Zv h
  refine Z8 6 I (st_indexV (k := .i64) (v := (.vs 111)) (n := 111) (off := 0) (len := a3.length) (es := (List.map Z11 a3)) (j := a0) (m := a0.toNat) I s65 I I (vecR_map _ _ _) I hg8 (Nat.zero_add _)) ?_
  have ⟨hg9, h⟩ := Zv h
  refine Z8 7 I (st_storeV (l := a3) (enc := Z11) (z := 0) (a := (IntKind.i64.wrap (a1 + 1))) (v := (.int .i64 (IntKind.i64.wrap (a1 + 1)))) sz3 I I hg9 I els_i64 I I I I) ?_
  have ⟨hg10, h⟩ := Zv h
  refine Z8 8 I (st_indexV (k := .i64) (v := (.vs 110)) (n := 110) (off := 0) (len := a4.length) (es := (List.map Z11 a4)) (j := a0) (m := a0.toNat) I s65 I I (vecR_map _ _ _) I hg10 (Nat.zero_add _)) ?_
  have ⟨hg11, h⟩ := Zv h
  refine Z8 9 I (st_storeV (l := a4) (enc := Z11) (z := 0) (a := (IntKind.i64.wrap (a1 + 1))) (v := (.int .i64 (IntKind.i64.wrap (a1 + 1)))) sz3 I I hg11 I els_i64 I I I I) <| AOpsD.nil (by kernel_rfl) I <| Zg <| Zh <| Za <| Z1 I (Zs (cs := [(.vs 108)]) (v := (.vs 108)) I o65 I I I) I <| Z1 I (Zi (v := (.int .i64 a0)) I I) I <| Z1 I (Z1i (vs := [(.int .i64 a0)]) (enc := Z11) (l := [a0]) I el65 I I ⟨rfl, trivial⟩ I els_i64 I I I I) I ?_
  have ⟨hg12, h⟩ := Zv h
  refine Z1 I (st_append (m := 108) (enc := Z11) (l := a5) (l' := [a0]) (src := (.vs 28)) (rd := [(28, (.vec 1 (List.map Z11 [a0])))]) I I el65 I u65 I I I I (oneRead I) els_i64 hg12) I <| Z1 I (Z1h (cs := [.undef]) (vs := [(.vs 108)]) (ds := [(.vs 108)]) (v := (.vs 108)) sz65 I I I I I I I I) I <| Zf <| Zg <| Zh <| Za <| Z1 I (Zs (cs := [(.vs 107)]) (v := (.vs 107)) I o207 I I I) I <| Z1 I (Zi (v := (.int .i64 a0)) I I) I ?_
  have ⟨hg13, h⟩ := Zv h
  refine Z1 I (st_indexV (k := .i64) (v := (.vs 107)) (n := 107) (off := 0) (len := a6.length) (es := (List.map e_bool a6)) (j := a0) (m := a0.toNat) I s207 I I (vecR_map _ _ _) I hg13 (Nat.zero_add _)) I ?_
  have ⟨hg14, h⟩ := Zv h
  refine Z1 I (st_storeV (l := a6) (enc := e_bool) (z := false) (a := true) (v := (.bool true)) sz4 I I hg14 I els_bool I I I I) I <| Zf <| Zg <| Zh <| Zh <| Za <| Z1 I (Zs (cs := [(.sl 1 (a2.map Z1c) false)]) (v := (.sl 1 (a2.map Z1c) false)) I o168 I I I) I <| Z1 I (Zi (v := (.int .i64 a0)) I I) I ?_
  have ⟨hg15, h⟩ := Zv h
  refine Z1 I (Z1y (k := .i64) (l := a2) (enc := Z1c) (z := []) (n := a0) (cs := [(.sl 1 ((a2.getD a0.toNat []).map Z11) false)]) (full := false) I s168 I I hg15 I) I <| Z1 I (st_loadI (cs := [(.sl 1 ((a2.getD a0.toNat []).map Z11) false)]) (v := (.sl 1 ((a2.getD a0.toNat []).map Z11) false)) I o65 I I) I <| Z1 I (stx_len (l := (a2.getD a0.toNat [])) (enc := Z11) I s65 I) I <| Z1 I (Zi (v := (.int .i64 0)) I I) I <| Zf <| Zg <| Z1w (st' := ⟨[(0, (.int .i64 a0)), (2, (.ptr 2001 0)), (3, (.ptr 2002 0)), (4, (.ptr 2003 0)), (5, (.ptr 2004 0)), (7, (.ptr 2006 0)), (8, (.ptr 2007 0)), (36, (.sl 1 ((a2.getD a0.toNat []).map Z11) false)), (37, (.int .i64 ((a2.getD a0.toNat []).length : Int))), (38, (.int .i64 0))], [(106, (.vec 1 (List.map Z1c a7))), (107, (.vec 1 (List.map e_bool (a6.set a0.toNat true)))), (108, (.vec 1 (List.map Z11 (a5 ++ [a0])))), (110, (.vec 1 (List.map Z11 (a4.set a0.toNat (IntKind.i64.wrap (a1 + 1)))))), (111, (.vec 1 (List.map Z11 (a3.set a0.toNat (IntKind.i64.wrap (a1 + 1)))))), (2000, (.box [(.int .i64 (IntKind.i64.wrap (a1 + 1)))])), (2001, (.box [(.vs 111)])), (2002, (.box [(.vs 110)])), (2003, (.box [(.vs 108)])), (2004, (.box [(.vs 107)])), (2005, (.box [(.sl 1 (a2.map Z1c) false)])), (2006, (.box [(.clo 129 [(.ptr 2000 0), (.ptr 2001 0), (.ptr 2002 0), (.ptr 2003 0), (.ptr 2004 0), (.ptr 2005 0), (.ptr 2006 0), (.ptr 2007 0)])])), (2007, (.box [(.vs 106)]))]⟩) ⟨rfl, rfl, rfl, rfl, rfl, rfl, rfl, rfl, rfl, rfl, trivial⟩ ⟨rfl, rfl, rfl, rfl, rfl, rfl, rfl, rfl, rfl, rfl, rfl, rfl, rfl, trivial⟩ ?_
  refine Z1j (V := Int × (List (List Int)) × (List Bool) × (List Int) × (List Int) × (List Int) × Int × (List (List Int))) (X := (List (List Int)) × (List Bool) × (List Int) × (List Int) × (List Int) × Int × (List (List Int))) (lp := fun k v => F129_l24 K a2 a0 (F129 K) (F129_c32 K a0) k v.1 v.2.1 v.2.2.1 v.2.2.2.1 v.2.2.2.2.1 v.2.2.2.2.2.1 v.2.2.2.2.2.2.1 v.2.2.2.2.2.2.2 = some r) (sh := fun v => ⟨[(0, (.int .i64 a0)), (2, (.ptr 2001 0)), (3, (.ptr 2002 0)), (4, (.ptr 2003 0)), (5, (.ptr 2004 0)), (7, (.ptr 2006 0)), (8, (.ptr 2007 0)), (36, (.sl 1 ((a2.getD a0.toNat []).map Z11) false)), (37, (.int .i64 ((a2.getD a0.toNat []).length : Int))), (38, (.int .i64 v.1))], [(106, (.vec 1 (List.map Z1c v.2.1))), (107, (.vec 1 (List.map e_bool v.2.2.1))), (108, (.vec 1 (List.map Z11 v.2.2.2.1))), (110, (.vec 1 (List.map Z11 v.2.2.2.2.1))), (111, (.vec 1 (List.map Z11 v.2.2.2.2.2.1))), (2000, (.box [(.int .i64 v.2.2.2.2.2.2.1)])), (2001, (.box [(.vs 111)])), (2002, (.box [(.vs 110)])), (2003, (.box [(.vs 108)])), (2004, (.box [(.vs 107)])), (2005, (.box [(.sl 1 (v.2.2.2.2.2.2.2.map Z1c) false)])), (2006, (.box [(.clo 129 [(.ptr 2000 0), (.ptr 2001 0), (.ptr 2002 0), (.ptr 2003 0), (.ptr 2004 0), (.ptr 2005 0), (.ptr 2006 0), (.ptr 2007 0)])])), (2007, (.box [(.vs 106)]))]⟩) (x := fun v => F129_c32 K a0 v.1 v.2.1 v.2.2.1 v.2.2.2.1 v.2.2.2.2.1 v.2.2.2.2.2.1 v.2.2.2.2.2.2 = some r) (shx := fun v => ⟨[(0, (.int .i64 a0)), (2, (.ptr 2001 0)), (3, (.ptr 2002 0)), (4, (.ptr 2003 0)), (5, (.ptr 2004 0)), (8, (.ptr 2007 0))], [(106, (.vec 1 (List.map Z1c v.1))), (107, (.vec 1 (List.map e_bool v.2.1))), (108, (.vec 1 (List.map Z11 v.2.2.1))), (110, (.vec 1 (List.map Z11 v.2.2.2.1))), (111, (.vec 1 (List.map Z11 v.2.2.2.2.1))), (2000, (.box [(.int .i64 v.2.2.2.2.2.1)])), (2001, (.box [(.vs 111)])), (2002, (.box [(.vs 110)])), (2003, (.box [(.vs 108)])), (2004, (.box [(.vs 107)])), (2005, (.box [(.sl 1 (v.2.2.2.2.2.2.map Z1c) false)])), (2006, (.box [(.clo 129 [(.ptr 2000 0), (.ptr 2001 0), (.ptr 2002 0), (.ptr 2003 0), (.ptr 2004 0), (.ptr 2005 0), (.ptr 2006 0), (.ptr 2007 0)])])), (2007, (.box [(.vs 106)]))]⟩) (k := K) (v := (0, a7, (a6.set a0.toNat true), (a5 ++ [a0]), (a4.set a0.toNat (IntKind.i64.wrap (a1 + 1))), (a3.set a0.toNat (IntKind.i64.wrap (a1 + 1))), (IntKind.i64.wrap (a1 + 1)), a2)) h ?_ ?_
  ·intro v h
   obtain ⟨v25, v26, v27, v28, v29, v30, v31⟩ := v
   try dsimp only at h ⊢
   unfold F129_c32 at h
   refine Zg <| Zh <| Zh <| Z1u mixed <| Z8 0 I (st_loadPC (cs := [(.vs 110)]) (v := (.vs 110)) I o65 I I I) <| Z8 1 I (Zi (v := (.int .i64 a0)) I I) ?_
   have ⟨hg34, h⟩ := Zv h
   refine Z8 2 I (st_indexV (k := .i64) (v := (.vs 110)) (n := 110) (off := 0) (len := v28.length) (es := (List.map Z11 v28)) (j := a0) (m := a0.toNat) I s65 I I (vecR_map _ _ _) I hg34 (Nat.zero_add _)) ?_
   have ⟨hg35, h⟩ := Zv h
   refine Z8 3 I (st_loadV (l := v28) (enc := Z11) (z := 0) (v := (.int .i64 (v28.getD a0.toNat 0))) I o3 I I hg35 I) <| Z8 4 I (st_loadPC (cs := [(.vs 111)]) (v := (.vs 111)) I o65 I I I) <| Z8 5 I (Zi (v := (.int .i64 a0)) I I) ?_
   have ⟨hg36, h⟩ := Zv h
   refine Z8 6 I (st_indexV (k := .i64) (v := (.vs 111)) (n := 111) (off := 0) (len := v29.length) (es := (List.map Z11 v29)) (j := a0) (m := a0.toNat) I s65 I I (vecR_map _ _ _) I hg36 (Nat.zero_add _)) ?_
   have ⟨hg37, h⟩ := Zv h
   refine Z8 7 I (st_loadV (l := v29) (enc := Z11) (z := 0) (v := (.int .i64 (v29.getD a0.toNat 0))) I o3 I I hg37 I) <| Z8 8 I (st_cmp (k := .i64) (a := (v28.getD a0.toNat 0)) (b := (v29.getD a0.toNat 0)) (c := ((v28.getD a0.toNat 0) != (v29.getD a0.toNat 0))) I I I I) <| AOpsD.nil (by kernel_rfl) I <| Zg ?_
   have hif := of_if h
   refine Z15 I (fun hc => ?_) (fun hc => ?_)
   ·have h := hif.1 hc
    refine Z1d <| Z1f ?_
    have h := Option.some.inj h
    subst h
    refine (hret _ ?_).1
    exact ⟨[], trivial, rfl, ⟨rfl, rfl, rfl, rfl, rfl, rfl, rfl, rfl, rfl, rfl, rfl, rfl, rfl, trivial⟩⟩
   ·have h := hif.2 hc
    refine Z18 <| Zg <| Zh <| Za <| Z1 I (Zs (cs := [(.vs 108)]) (v := (.vs 108)) I o65 I I I) I <| Z1 I (Zi (v := (.int .i64 a0)) I I) I ?_
    have ⟨v39, hv39, h⟩ := Z1g h
    refine Z1 I (st_callB (rd := [(108, (.vec 1 (List.map Z11 v27)))]) (ar := [(.vs 108), (.int .i64 a0)]) (caps := []) Tryz.call130 (F130_ok K v27 a0 v39 hv39) I I ⟨rfl, rfl, trivial⟩ (subS_mem ⟨rfl, trivial⟩) I I I) I <| Z1 I (Zj (v := (.int .i64 v39)) I I) I <| Zf <| Zg <| Zh <| Za <| Z1 I (Zs (cs := [(.vs 108)]) (v := (.vs 108)) I o65 I I I) I <| Z1 I (Zi (v := (.int .i64 v39)) I I) I ?_
    have ⟨hg40, h⟩ := Zv h
    have ⟨hg41, h⟩ := Zv h
    refine Z1 I (stx_sliceVL (v := (.vs 108)) (n := 108) (off := 0) (len := v27.length) (l := v27) (enc := Z11) (kl := .i64) (lo := v39) I s65 I I (vecR_map _ _ _) I hg40 I) I ?_
    have ⟨v43, hv43, h⟩ := Z1g h
    refine Z1 I (st_callBO (enc := Z11) (l := v43) (rd := [(108, (.vec 1 (List.map Z11 v27)))]) (ar := [(.vsub 108 (0 + v39.toNat) ((v27.length : Int).toNat - v39.toNat) false)]) (caps := []) Tryz.call131 ((F131_ok K ((v27.drop (0 + v39.toNat)).take ((v27.length : Int).toNat - v39.toNat)) v43 hv43).sw 2 94) I I ⟨rfl, trivial⟩ (subS_mem ⟨rfl, trivial⟩) I (lend_sub1 hg41 I) (fun _ => I)) I <| Z1 I (Zj (v := (.vs 94)) I I) I <| Zf <| Zg <| Zh <| Za <| Z1 I (Zs (cs := [(.vs 108)]) (v := (.vs 108)) I o65 I I I) I <| Z1 I (Zi (v := (.int .i64 v39)) I I) I ?_
    have ⟨hg44, h⟩ := Zv h
    have ⟨hg45, h⟩ := Zv h
    refine Z1 I (stx_sliceVH (v := (.vs 108)) (n := 108) (off := 0) (len := v27.length) (l := v27) (enc := Z11) (kh := .i64) (hi := v39) I s65 I I (vecR_map _ _ _) I hg44 I) I ?_
    have ⟨hg46, h⟩ := Zv h
    refine AOps.ghost (st' := ⟨[(4, (.ptr 2003 0)), (5, (.ptr 2004 0)), (8, (.ptr 2007 0)), (13, (.vs 94)), (97, (.vs 108))], [(94, (.vec 1 (List.map Z11 v43))), (106, (.vec 1 (List.map Z1c v25))), (107, (.vec 1 (List.map e_bool v26))), (108, (.vec 1 (List.map Z11 ((v27.drop (0 + (0 : Int).toNat)).take (v39.toNat - (0 : Int).toNat))))), (110, (.vec 1 (List.map Z11 v28))), (111, (.vec 1 (List.map Z11 v29))), (2000, (.box [(.int .i64 v30)])), (2001, (.box [(.vs 111)])), (2002, (.box [(.vs 110)])), (2003, (.box [.undef])), (2004, (.box [(.vs 107)])), (2005, (.box [(.sl 1 (v31.map Z1c) false)])), (2006, (.box [(.clo 129 [(.ptr 2000 0), (.ptr 2001 0), (.ptr 2002 0), (.ptr 2003 0), (.ptr 2004 0), (.ptr 2005 0), (.ptr 2006 0), (.ptr 2007 0)])])), (2007, (.box [(.vs 106)]))]⟩) (fun a w h => (Z17 ⟨[(4, (.ptr 2003 0)), (5, (.ptr 2004 0)), (8, (.ptr 2007 0)), (13, (.vs 94)), (97, (.vs 108))], [(94, (.vec 1 (List.map Z11 v43))), (106, (.vec 1 (List.map Z1c v25))), (107, (.vec 1 (List.map e_bool v26))), (108, (.vec 1 (List.map Z11 ((v27.drop (0 + (0 : Int).toNat)).take (v39.toNat - (0 : Int).toNat))))), (110, (.vec 1 (List.map Z11 v28))), (111, (.vec 1 (List.map Z11 v29))), (2000, (.box [(.int .i64 v30)])), (2001, (.box [(.vs 111)])), (2002, (.box [(.vs 110)])), (2003, (.box [.undef])), (2004, (.box [(.vs 107)])), (2005, (.box [(.sl 1 (v31.map Z1c) false)])), (2006, (.box [(.clo 129 [(.ptr 2000 0), (.ptr 2001 0), (.ptr 2002 0), (.ptr 2003 0), (.ptr 2004 0), (.ptr 2005 0), (.ptr 2006 0), (.ptr 2007 0)])])), (2007, (.box [(.vs 106)]))]⟩ (ghost_trunc (k := 97) (m := 108) (sz := 1) (off := (0 + (0 : Int).toNat)) (len := (v39.toNat - (0 : Int).toNat)) (enc := Z11) (l := v27) I hg46 a w (Z17 ⟨[(97, (.vsub 108 (0 + (0 : Int).toNat) (v39.toNat - (0 : Int).toNat) false)), (4, (.ptr 2003 0)), (5, (.ptr 2004 0)), (8, (.ptr 2007 0)), (13, (.vs 94))], [(108, (.vec 1 (List.map Z11 v27))), (94, (.vec 1 (List.map Z11 v43))), (106, (.vec 1 (List.map Z1c v25))), (107, (.vec 1 (List.map e_bool v26))), (110, (.vec 1 (List.map Z11 v28))), (111, (.vec 1 (List.map Z11 v29))), (2000, (.box [(.int .i64 v30)])), (2001, (.box [(.vs 111)])), (2002, (.box [(.vs 110)])), (2003, (.box [(.vs 108)])), (2004, (.box [(.vs 107)])), (2005, (.box [(.sl 1 (v31.map Z1c) false)])), (2006, (.box [(.clo 129 [(.ptr 2000 0), (.ptr 2001 0), (.ptr 2002 0), (.ptr 2003 0), (.ptr 2004 0), (.ptr 2005 0), (.ptr 2006 0), (.ptr 2007 0)])])), (2007, (.box [(.vs 106)]))]⟩ h ⟨rfl, rfl, rfl, rfl, rfl, trivial⟩ ⟨rfl, rfl, rfl, rfl, rfl, rfl, rfl, rfl, rfl, rfl, rfl, rfl, rfl, rfl, trivial⟩)) ⟨rfl, rfl, rfl, rfl, rfl, trivial⟩ ⟨rfl, rfl, rfl, rfl, rfl, rfl, rfl, rfl, rfl, rfl, rfl, rfl, rfl, rfl, trivial⟩)) <| Z1 I (Z1h (cs := [.undef]) (vs := [(.vs 108)]) (ds := [(.vs 108)]) (v := (.vs 108)) sz65 I I I I I I I I) I <| Zf <| Zg <| Zh <| Zh <| Za <| Z1 I (Zi (v := (.vs 94)) I I) I ?_
    refine Z1 I (stx_lenV (l := v43) (enc := Z11) I u65 I I) I <| Z1 I (Zi (v := (.int .i64 0)) I I) I <| Zf <| Zg <| AWp.ghost (st' := ⟨[(5, (.ptr 2004 0)), (8, (.ptr 2007 0)), (13, (.vs 13)), (98, (.vs 13)), (99, (.int .i64 (v43.length : Int))), (100, (.int .i64 0))], [(13, (.vec 1 (List.map Z11 v43))), (106, (.vec 1 (List.map Z1c v25))), (107, (.vec 1 (List.map e_bool v26))), (108, (.vec 1 (List.map Z11 ((v27.drop (0 + (0 : Int).toNat)).take (v39.toNat - (0 : Int).toNat))))), (110, (.vec 1 (List.map Z11 v28))), (111, (.vec 1 (List.map Z11 v29))), (2000, (.box [(.int .i64 v30)])), (2001, (.box [(.vs 111)])), (2002, (.box [(.vs 110)])), (2003, (.box [(.vs 108)])), (2004, (.box [(.vs 107)])), (2005, (.box [(.sl 1 (v31.map Z1c) false)])), (2006, (.box [(.clo 129 [(.ptr 2000 0), (.ptr 2001 0), (.ptr 2002 0), (.ptr 2003 0), (.ptr 2004 0), (.ptr 2005 0), (.ptr 2006 0), (.ptr 2007 0)])])), (2007, (.box [(.vs 106)]))]⟩) (fun a w h => (Z17 ⟨[(5, (.ptr 2004 0)), (8, (.ptr 2007 0)), (13, (.vs 13)), (98, (.vs 13)), (99, (.int .i64 (v43.length : Int))), (100, (.int .i64 0))], [(13, (.vec 1 (List.map Z11 v43))), (106, (.vec 1 (List.map Z1c v25))), (107, (.vec 1 (List.map e_bool v26))), (108, (.vec 1 (List.map Z11 ((v27.drop (0 + (0 : Int).toNat)).take (v39.toNat - (0 : Int).toNat))))), (110, (.vec 1 (List.map Z11 v28))), (111, (.vec 1 (List.map Z11 v29))), (2000, (.box [(.int .i64 v30)])), (2001, (.box [(.vs 111)])), (2002, (.box [(.vs 110)])), (2003, (.box [(.vs 108)])), (2004, (.box [(.vs 107)])), (2005, (.box [(.sl 1 (v31.map Z1c) false)])), (2006, (.box [(.clo 129 [(.ptr 2000 0), (.ptr 2001 0), (.ptr 2002 0), (.ptr 2003 0), (.ptr 2004 0), (.ptr 2005 0), (.ptr 2006 0), (.ptr 2007 0)])])), (2007, (.box [(.vs 106)]))]⟩ (ghost_sw (a := 94) (b := 13) I I a w (Z17 ⟨[(5, (.ptr 2004 0)), (8, (.ptr 2007 0)), (13, (.vs 94)), (98, (.vs 94)), (99, (.int .i64 (v43.length : Int))), (100, (.int .i64 0))], [(94, (.vec 1 (List.map Z11 v43))), (106, (.vec 1 (List.map Z1c v25))), (107, (.vec 1 (List.map e_bool v26))), (108, (.vec 1 (List.map Z11 ((v27.drop (0 + (0 : Int).toNat)).take (v39.toNat - (0 : Int).toNat))))), (110, (.vec 1 (List.map Z11 v28))), (111, (.vec 1 (List.map Z11 v29))), (2000, (.box [(.int .i64 v30)])), (2001, (.box [(.vs 111)])), (2002, (.box [(.vs 110)])), (2003, (.box [(.vs 108)])), (2004, (.box [(.vs 107)])), (2005, (.box [(.sl 1 (v31.map Z1c) false)])), (2006, (.box [(.clo 129 [(.ptr 2000 0), (.ptr 2001 0), (.ptr 2002 0), (.ptr 2003 0), (.ptr 2004 0), (.ptr 2005 0), (.ptr 2006 0), (.ptr 2007 0)])])), (2007, (.box [(.vs 106)]))]⟩ h ⟨rfl, rfl, rfl, rfl, rfl, rfl, trivial⟩ ⟨rfl, rfl, rfl, rfl, rfl, rfl, rfl, rfl, rfl, rfl, rfl, rfl, rfl, rfl, trivial⟩)) ⟨rfl, rfl, rfl, rfl, rfl, rfl, trivial⟩ ⟨rfl, rfl, rfl, rfl, rfl, rfl, rfl, rfl, rfl, rfl, rfl, rfl, rfl, rfl, trivial⟩)) <| Z1w (st' := ⟨[(5, (.ptr 2004 0)), (8, (.ptr 2007 0)), (13, (.vs 13)), (98, (.vs 13)), (99, (.int .i64 (v43.length : Int))), (100, (.int .i64 0))], [(13, (.vec 1 (List.map Z11 v43))), (106, (.vec 1 (List.map Z1c v25))), (107, (.vec 1 (List.map e_bool v26))), (108, (.vec 1 (List.map Z11 ((v27.drop (0 + (0 : Int).toNat)).take (v39.toNat - (0 : Int).toNat))))), (110, (.vec 1 (List.map Z11 v28))), (111, (.vec 1 (List.map Z11 v29))), (2000, (.box [(.int .i64 v30)])), (2001, (.box [(.vs 111)])), (2002, (.box [(.vs 110)])), (2003, (.box [(.vs 108)])), (2004, (.box [(.vs 107)])), (2005, (.box [(.sl 1 (v31.map Z1c) false)])), (2006, (.box [(.clo 129 [(.ptr 2000 0), (.ptr 2001 0), (.ptr 2002 0), (.ptr 2003 0), (.ptr 2004 0), (.ptr 2005 0), (.ptr 2006 0), (.ptr 2007 0)])])), (2007, (.box [(.vs 106)]))]⟩) ⟨rfl, rfl, rfl, rfl, rfl, rfl, trivial⟩ ⟨rfl, rfl, rfl, rfl, rfl, rfl, rfl, rfl, rfl, rfl, rfl, rfl, rfl, rfl, trivial⟩ ?_
    refine Z1j (V := Int × (List Bool)) (X := (List Bool)) (lp := fun k v => F129_l49 K v43 (F129_c51 K v43 v25 v30 v31 v29 v28 v27 v39) k v.1 v.2 = some r) (sh := fun v => ⟨[(5, (.ptr 2004 0)), (8, (.ptr 2007 0)), (13, (.vs 13)), (98, (.vs 13)), (99, (.int .i64 (v43.length : Int))), (100, (.int .i64 v.1))], [(13, (.vec 1 (List.map Z11 v43))), (106, (.vec 1 (List.map Z1c v25))), (107, (.vec 1 (List.map e_bool v.2))), (108, (.vec 1 (List.map Z11 ((v27.drop (0 + (0 : Int).toNat)).take (v39.toNat - (0 : Int).toNat))))), (110, (.vec 1 (List.map Z11 v28))), (111, (.vec 1 (List.map Z11 v29))), (2000, (.box [(.int .i64 v30)])), (2001, (.box [(.vs 111)])), (2002, (.box [(.vs 110)])), (2003, (.box [(.vs 108)])), (2004, (.box [(.vs 107)])), (2005, (.box [(.sl 1 (v31.map Z1c) false)])), (2006, (.box [(.clo 129 [(.ptr 2000 0), (.ptr 2001 0), (.ptr 2002 0), (.ptr 2003 0), (.ptr 2004 0), (.ptr 2005 0), (.ptr 2006 0), (.ptr 2007 0)])])), (2007, (.box [(.vs 106)]))]⟩) (x := fun v => F129_c51 K v43 v25 v30 v31 v29 v28 v27 v39 v = some r) (shx := fun v => ⟨[(8, (.ptr 2007 0)), (13, (.vs 13))], [(13, (.vec 1 (List.map Z11 v43))), (106, (.vec 1 (List.map Z1c v25))), (107, (.vec 1 (List.map e_bool v))), (108, (.vec 1 (List.map Z11 ((v27.drop (0 + (0 : Int).toNat)).take (v39.toNat - (0 : Int).toNat))))), (110, (.vec 1 (List.map Z11 v28))), (111, (.vec 1 (List.map Z11 v29))), (2000, (.box [(.int .i64 v30)])), (2001, (.box [(.vs 111)])), (2002, (.box [(.vs 110)])), (2003, (.box [(.vs 108)])), (2004, (.box [(.vs 107)])), (2005, (.box [(.sl 1 (v31.map Z1c) false)])), (2006, (.box [(.clo 129 [(.ptr 2000 0), (.ptr 2001 0), (.ptr 2002 0), (.ptr 2003 0), (.ptr 2004 0), (.ptr 2005 0), (.ptr 2006 0), (.ptr 2007 0)])])), (2007, (.box [(.vs 106)]))]⟩) (k := K) (v := (0, v26)) h ?_ ?_
    ·intro v h
     revert h
     revert v
     intro v50 h
     try dsimp only at h ⊢
     unfold F129_c51 at h
     refine Zg <| Zh <| Za <| Z1 I (Zi (v := (.vs 13)) I I) I ?_
     have ⟨v54, hv54, h⟩ := Z1g h
     refine Z1 I (st_call (d := some 109) (c := ⟨[(.vs 13)], [(13, (.vec 1 (List.map Z11 v43)))], .tup [], [(13, .vec 1 (List.map Z11 v54))], []⟩) (ar := [(.vs 13)]) (caps := []) (news := []) (forg := []) Tryz.call126 (sortI_ok (n := 13) (enc := Z11) (l := v43) sortC126 (fun _ => I) hv54) I I ⟨rfl, trivial⟩ I ⟨rfl, trivial⟩ I) I <| Zf <| Zg <| Za <| Z1 I (Zs (cs := [(.vs 106)]) (v := (.vs 106)) I o168 I I I) I <| Z1 I (Zi (v := (.vs 13)) I I) I <| AOps.ghost (st' := ⟨[(8, (.ptr 2007 0)), (110, (.vs 106)), (111, (.sl 1 (v54.map Z11) false))], [(106, (.vec 1 (List.map Z1c v25))), (107, (.vec 1 (List.map e_bool v50))), (108, (.vec 1 (List.map Z11 ((v27.drop (0 + (0 : Int).toNat)).take (v39.toNat - (0 : Int).toNat))))), (110, (.vec 1 (List.map Z11 v28))), (111, (.vec 1 (List.map Z11 v29))), (2000, (.box [(.int .i64 v30)])), (2001, (.box [(.vs 111)])), (2002, (.box [(.vs 110)])), (2003, (.box [(.vs 108)])), (2004, (.box [(.vs 107)])), (2005, (.box [(.sl 1 (v31.map Z1c) false)])), (2006, (.box [(.clo 129 [(.ptr 2000 0), (.ptr 2001 0), (.ptr 2002 0), (.ptr 2003 0), (.ptr 2004 0), (.ptr 2005 0), (.ptr 2006 0), (.ptr 2007 0)])])), (2007, (.box [(.vs 106)]))]⟩) (fun a w h => (Z17 ⟨[(8, (.ptr 2007 0)), (110, (.vs 106)), (111, (.sl 1 (v54.map Z11) false))], [(106, (.vec 1 (List.map Z1c v25))), (107, (.vec 1 (List.map e_bool v50))), (108, (.vec 1 (List.map Z11 ((v27.drop (0 + (0 : Int).toNat)).take (v39.toNat - (0 : Int).toNat))))), (110, (.vec 1 (List.map Z11 v28))), (111, (.vec 1 (List.map Z11 v29))), (2000, (.box [(.int .i64 v30)])), (2001, (.box [(.vs 111)])), (2002, (.box [(.vs 110)])), (2003, (.box [(.vs 108)])), (2004, (.box [(.vs 107)])), (2005, (.box [(.sl 1 (v31.map Z1c) false)])), (2006, (.box [(.clo 129 [(.ptr 2000 0), (.ptr 2001 0), (.ptr 2002 0), (.ptr 2003 0), (.ptr 2004 0), (.ptr 2005 0), (.ptr 2006 0), (.ptr 2007 0)])])), (2007, (.box [(.vs 106)]))]⟩ (ghost_freeze (m := 13) (sz := 1) (es := (List.map Z11 v54)) a w (Z17 ⟨[(8, (.ptr 2007 0)), (110, (.vs 106)), (111, (.vs 13))], [(13, (.vec 1 (List.map Z11 v54))), (106, (.vec 1 (List.map Z1c v25))), (107, (.vec 1 (List.map e_bool v50))), (108, (.vec 1 (List.map Z11 ((v27.drop (0 + (0 : Int).toNat)).take (v39.toNat - (0 : Int).toNat))))), (110, (.vec 1 (List.map Z11 v28))), (111, (.vec 1 (List.map Z11 v29))), (2000, (.box [(.int .i64 v30)])), (2001, (.box [(.vs 111)])), (2002, (.box [(.vs 110)])), (2003, (.box [(.vs 108)])), (2004, (.box [(.vs 107)])), (2005, (.box [(.sl 1 (v31.map Z1c) false)])), (2006, (.box [(.clo 129 [(.ptr 2000 0), (.ptr 2001 0), (.ptr 2002 0), (.ptr 2003 0), (.ptr 2004 0), (.ptr 2005 0), (.ptr 2006 0), (.ptr 2007 0)])])), (2007, (.box [(.vs 106)]))]⟩ h ⟨rfl, rfl, rfl, trivial⟩ ⟨rfl, rfl, rfl, rfl, rfl, rfl, rfl, rfl, rfl, rfl, rfl, rfl, rfl, rfl, trivial⟩)) ⟨rfl, rfl, rfl, trivial⟩ ⟨rfl, rfl, rfl, rfl, rfl, rfl, rfl, rfl, rfl, rfl, rfl, rfl, rfl, trivial⟩)) <| Z1 I (Z1i (vs := [(.sl 1 (v54.map Z11) false)]) (enc := Z1c) (l := [v54]) I el168 I I ⟨rfl, trivial⟩ I els_l_i64 I I I I) I ?_
     have ⟨hg55, h⟩ := Zv h
     refine Z1 I (st_append (m := 106) (enc := Z1c) (l := v25) (l' := [v54]) (src := (.vs 112)) (rd := [(112, (.vec 1 (List.map Z1c [v54])))]) I I el168 I u168 I I I I (oneRead I) els_l_i64 hg55) I <| Z1 I (Z1h (cs := [.undef]) (vs := [(.vs 106)]) (ds := [(.vs 106)]) (v := (.vs 106)) sz168 I I I I I I I I) I <| Zf ?_
     have h := Option.some.inj h
     subst h
     refine (hret _ ?_).2
     exact ⟨[], trivial, rfl, ⟨rfl, rfl, rfl, rfl, rfl, rfl, rfl, rfl, rfl, rfl, rfl, rfl, rfl, trivial⟩⟩
    ·intro N k49 v h IH49 J49
     obtain ⟨v47, v48⟩ := v
     try dsimp only at h IH49 J49 ⊢
     cases k49 with
     | zero => cases h
     | succ k49 =>
      rw [F129_l49] at h
      refine Zh <| Za <| Z1 I (st_cmp (k := .i64) (a := v47) (b := (v43.length : Int)) (c := (decide (v47 < (v43.length : Int)))) I I I I) I <| Zf <| Zg <| Zh ?_
      have hif := of_if h
      refine Z15 I (fun hc => ?_) (fun hc => ?_)
      ·have h := hif.1 hc
       refine Z18 <| Zg <| Zh <| AWp.block <| Zh <| Za ?_
       have ⟨hg57, h⟩ := Zv h
       refine Z1 I (st_indexV (k := .i64) (v := (.vs 13)) (n := 13) (off := 0) (len := v43.length) (es := (List.map Z11 v43)) (j := v47) (m := v47.toNat) I s65 I I (vecR_map _ _ _) I hg57 (Nat.zero_add _)) I ?_
       have ⟨hg58, h⟩ := Zv h
       refine Z1 I (st_loadV (l := v43) (enc := Z11) (z := 0) (v := (.int .i64 (v43.getD v47.toNat 0))) I o3 I I hg58 I) I <| Z1 I (Zj (v := (.int .i64 (v43.getD v47.toNat 0))) I I) I <| Zf <| Zg <| Za <| Z1 I (Zs (cs := [(.vs 107)]) (v := (.vs 107)) I o207 I I I) I <| Z1 I (Zi (v := (.int .i64 (v43.getD v47.toNat 0))) I I) I ?_
       have ⟨hg59, h⟩ := Zv h
       refine Z1 I (st_indexV (k := .i64) (v := (.vs 107)) (n := 107) (off := 0) (len := v48.length) (es := (List.map e_bool v48)) (j := (v43.getD v47.toNat 0)) (m := (v43.getD v47.toNat 0).toNat) I s207 I I (vecR_map _ _ _) I hg59 (Nat.zero_add _)) I ?_
       have ⟨hg60, h⟩ := Zv h
       refine Z1 I (st_storeV (l := v48) (enc := e_bool) (z := false) (a := false) (v := (.bool false)) sz4 I I hg60 I els_bool I I I I) I <| Zf <| At.end <| Zg <| Za <| Z1 I (Z1s (k := .i64) (a := v47) (b := 1) (c := (IntKind.i64.wrap (v47 + 1))) I I I I) I <| Z1 I (Zi (v := (.int .i64 (IntKind.i64.wrap (v47 + 1)))) I I) I <| Zf ?_
       exact Zx (st' := ⟨[(5, (.ptr 2004 0)), (8, (.ptr 2007 0)), (13, (.vs 13)), (98, (.vs 13)), (99, (.int .i64 (v43.length : Int))), (100, (.int .i64 (IntKind.i64.wrap (v47 + 1))))], [(13, (.vec 1 (List.map Z11 v43))), (106, (.vec 1 (List.map Z1c v25))), (107, (.vec 1 (List.map e_bool (v48.set (v43.getD v47.toNat 0).toNat false)))), (108, (.vec 1 (List.map Z11 ((v27.drop (0 + (0 : Int).toNat)).take (v39.toNat - (0 : Int).toNat))))), (110, (.vec 1 (List.map Z11 v28))), (111, (.vec 1 (List.map Z11 v29))), (2000, (.box [(.int .i64 v30)])), (2001, (.box [(.vs 111)])), (2002, (.box [(.vs 110)])), (2003, (.box [(.vs 108)])), (2004, (.box [(.vs 107)])), (2005, (.box [(.sl 1 (v31.map Z1c) false)])), (2006, (.box [(.clo 129 [(.ptr 2000 0), (.ptr 2001 0), (.ptr 2002 0), (.ptr 2003 0), (.ptr 2004 0), (.ptr 2005 0), (.ptr 2006 0), (.ptr 2007 0)])])), (2007, (.box [(.vs 106)]))]⟩) ⟨rfl, rfl, rfl, rfl, rfl, rfl, trivial⟩ ⟨rfl, rfl, rfl, rfl, rfl, rfl, rfl, rfl, rfl, rfl, rfl, rfl, rfl, rfl, trivial⟩ (IH49 _ ((IntKind.i64.wrap (v47 + 1)), (v48.set (v43.getD v47.toNat 0).toNat false)) (Nat.lt_succ_self _) h)
      ·have h := hif.2 hc
       refine AWp.exit <| At.thru ?_
       exact Zx (st' := ⟨[(8, (.ptr 2007 0)), (13, (.vs 13))], [(13, (.vec 1 (List.map Z11 v43))), (106, (.vec 1 (List.map Z1c v25))), (107, (.vec 1 (List.map e_bool v48))), (108, (.vec 1 (List.map Z11 ((v27.drop (0 + (0 : Int).toNat)).take (v39.toNat - (0 : Int).toNat))))), (110, (.vec 1 (List.map Z11 v28))), (111, (.vec 1 (List.map Z11 v29))), (2000, (.box [(.int .i64 v30)])), (2001, (.box [(.vs 111)])), (2002, (.box [(.vs 110)])), (2003, (.box [(.vs 108)])), (2004, (.box [(.vs 107)])), (2005, (.box [(.sl 1 (v31.map Z1c) false)])), (2006, (.box [(.clo 129 [(.ptr 2000 0), (.ptr 2001 0), (.ptr 2002 0), (.ptr 2003 0), (.ptr 2004 0), (.ptr 2005 0), (.ptr 2006 0), (.ptr 2007 0)])])), (2007, (.box [(.vs 106)]))]⟩) ⟨rfl, rfl, trivial⟩ ⟨rfl, rfl, rfl, rfl, rfl, rfl, rfl, rfl, rfl, rfl, rfl, rfl, rfl, rfl, trivial⟩ (J49 v48 h)
  ·intro N k24 v h IH24 J24
   obtain ⟨v16, v17, v18, v19, v20, v21, v22, v23⟩ := v
   try dsimp only at h IH24 J24 ⊢
   cases k24 with
   | zero => cases h
   | succ k24 =>
    rw [F129_l24] at h
    refine Zh <| Za <| Z1 I (st_cmp (k := .i64) (a := v16) (b := ((a2.getD a0.toNat []).length : Int)) (c := (decide (v16 < ((a2.getD a0.toNat []).length : Int)))) I I I I) I <| Zf <| Zg <| Zh ?_
    have hif := of_if h
    refine Z15 I (fun hc => ?_) (fun hc => ?_)
    ·have h := hif.1 hc
     refine Z18 <| Zg <| Zh <| AWp.block <| Zh <| Za ?_
     have ⟨hg62, h⟩ := Zv h
     refine Z1 I (Z1y (k := .i64) (l := (a2.getD a0.toNat [])) (enc := Z11) (z := 0) (n := v16) (cs := [(.int .i64 ((a2.getD a0.toNat []).getD v16.toNat 0))]) (full := false) I s65 I I hg62 I) I <| Z1 I (st_loadI (cs := [(.int .i64 ((a2.getD a0.toNat []).getD v16.toNat 0))]) (v := (.int .i64 ((a2.getD a0.toNat []).getD v16.toNat 0))) I o3 I I) I <| Z1 I (Zj (v := (.int .i64 ((a2.getD a0.toNat []).getD v16.toNat 0))) I I) I <| Zf <| Zg <| Zh <| Za <| Z1 I (Zs (cs := [(.vs 111)]) (v := (.vs 111)) I o65 I I I) I ?_
     refine Z1 I (Zi (v := (.int .i64 ((a2.getD a0.toNat []).getD v16.toNat 0))) I I) I ?_
     have ⟨hg63, h⟩ := Zv h
     refine Z1 I (st_indexV (k := .i64) (v := (.vs 111)) (n := 111) (off := 0) (len := v21.length) (es := (List.map Z11 v21)) (j := ((a2.getD a0.toNat []).getD v16.toNat 0)) (m := ((a2.getD a0.toNat []).getD v16.toNat 0).toNat) I s65 I I (vecR_map _ _ _) I hg63 (Nat.zero_add _)) I ?_
     have ⟨hg64, h⟩ := Zv h
     refine Z1 I (st_loadV (l := v21) (enc := Z11) (z := 0) (v := (.int .i64 (v21.getD ((a2.getD a0.toNat []).getD v16.toNat 0).toNat 0))) I o3 I I hg64 I) I <| Z1 I (st_cmp (k := .i64) (a := (v21.getD ((a2.getD a0.toNat []).getD v16.toNat 0).toNat 0)) (b := 0) (c := ((v21.getD ((a2.getD a0.toNat []).getD v16.toNat 0).toNat 0) == 0)) I I I I) I <| Zf <| Zg ?_
     refine AWp.join (V := (List (List Int)) × (List Bool) × (List Int) × (List Int) × (List Int) × Int × (List (List Int))) (lp := fun v => F129_j72 K (F129_l24 K a2 a0 (F129 K) (F129_c32 K a0) k24) v16 v.1 v.2.1 v.2.2.1 v.2.2.2.1 v.2.2.2.2.1 v.2.2.2.2.2.1 v.2.2.2.2.2.2 = some r) (sh := fun v => ⟨[(0, (.int .i64 a0)), (2, (.ptr 2001 0)), (3, (.ptr 2002 0)), (4, (.ptr 2003 0)), (5, (.ptr 2004 0)), (7, (.ptr 2006 0)), (8, (.ptr 2007 0)), (36, (.sl 1 ((a2.getD a0.toNat []).map Z11) false)), (37, (.int .i64 ((a2.getD a0.toNat []).length : Int))), (38, (.int .i64 v16))], [(106, (.vec 1 (List.map Z1c v.1))), (107, (.vec 1 (List.map e_bool v.2.1))), (108, (.vec 1 (List.map Z11 v.2.2.1))), (110, (.vec 1 (List.map Z11 v.2.2.2.1))), (111, (.vec 1 (List.map Z11 v.2.2.2.2.1))), (2000, (.box [(.int .i64 v.2.2.2.2.2.1)])), (2001, (.box [(.vs 111)])), (2002, (.box [(.vs 110)])), (2003, (.box [(.vs 108)])), (2004, (.box [(.vs 107)])), (2005, (.box [(.sl 1 (v.2.2.2.2.2.2.map Z1c) false)])), (2006, (.box [(.clo 129 [(.ptr 2000 0), (.ptr 2001 0), (.ptr 2002 0), (.ptr 2003 0), (.ptr 2004 0), (.ptr 2005 0), (.ptr 2006 0), (.ptr 2007 0)])])), (2007, (.box [(.vs 106)]))]⟩) ?_ ?_
     ·intro v h
      obtain ⟨v65, v66, v67, v68, v69, v70, v71⟩ := v
      try dsimp only at h ⊢
      unfold F129_j72 at h
      refine At.end <| Zg <| Za <| Z1 I (Z1s (k := .i64) (a := v16) (b := 1) (c := (IntKind.i64.wrap (v16 + 1))) I I I I) I <| Z1 I (Zi (v := (.int .i64 (IntKind.i64.wrap (v16 + 1)))) I I) I <| Zf ?_
      exact Zx (st' := ⟨[(0, (.int .i64 a0)), (2, (.ptr 2001 0)), (3, (.ptr 2002 0)), (4, (.ptr 2003 0)), (5, (.ptr 2004 0)), (7, (.ptr 2006 0)), (8, (.ptr 2007 0)), (36, (.sl 1 ((a2.getD a0.toNat []).map Z11) false)), (37, (.int .i64 ((a2.getD a0.toNat []).length : Int))), (38, (.int .i64 (IntKind.i64.wrap (v16 + 1))))], [(106, (.vec 1 (List.map Z1c v65))), (107, (.vec 1 (List.map e_bool v66))), (108, (.vec 1 (List.map Z11 v67))), (110, (.vec 1 (List.map Z11 v68))), (111, (.vec 1 (List.map Z11 v69))), (2000, (.box [(.int .i64 v70)])), (2001, (.box [(.vs 111)])), (2002, (.box [(.vs 110)])), (2003, (.box [(.vs 108)])), (2004, (.box [(.vs 107)])), (2005, (.box [(.sl 1 (v71.map Z1c) false)])), (2006, (.box [(.clo 129 [(.ptr 2000 0), (.ptr 2001 0), (.ptr 2002 0), (.ptr 2003 0), (.ptr 2004 0), (.ptr 2005 0), (.ptr 2006 0), (.ptr 2007 0)])])), (2007, (.box [(.vs 106)]))]⟩) ⟨rfl, rfl, rfl, rfl, rfl, rfl, rfl, rfl, rfl, rfl, trivial⟩ ⟨rfl, rfl, rfl, rfl, rfl, rfl, rfl, rfl, rfl, rfl, rfl, rfl, rfl, trivial⟩ (IH24 _ ((IntKind.i64.wrap (v16 + 1)), v65, v66, v67, v68, v69, v70, v71) (Nat.lt_succ_self _) h)
     ·intro J72
      have hif := of_if h
      refine Z15 I (fun hc => ?_) (fun hc => ?_)
      ·have h := hif.1 hc
       refine Zh <| Za <| Z1 I (Zs (cs := [(.clo 129 [(.ptr 2000 0), (.ptr 2001 0), (.ptr 2002 0), (.ptr 2003 0), (.ptr 2004 0), (.ptr 2005 0), (.ptr 2006 0), (.ptr 2007 0)])]) (v := (.clo 129 [(.ptr 2000 0), (.ptr 2001 0), (.ptr 2002 0), (.ptr 2003 0), (.ptr 2004 0), (.ptr 2005 0), (.ptr 2006 0), (.ptr 2007 0)])) I o213 I I I) I <| Z1 I (Zi (v := (.int .i64 ((a2.getD a0.toNat []).getD v16.toNat 0))) I I) I ?_
       have ⟨v74, hv74, h⟩ := Z1g h
       refine Z1 I (st_call (d := some 49) (c := ⟨[(.int .i64 ((a2.getD a0.toNat []).getD v16.toNat 0))] ++ [(.ptr 2000 0), (.ptr 2001 0), (.ptr 2002 0), (.ptr 2003 0), (.ptr 2004 0), (.ptr 2005 0), (.ptr 2006 0), (.ptr 2007 0)], [(2000, (.box [(.int .i64 v22)])), (2001, (.box [(.vs 111)])), (2002, (.box [(.vs 110)])), (2003, (.box [(.vs 108)])), (2004, (.box [(.vs 107)])), (2005, (.box [(.sl 1 (v23.map Z1c) false)])), (2006, (.box [(.clo 129 [(.ptr 2000 0), (.ptr 2001 0), (.ptr 2002 0), (.ptr 2003 0), (.ptr 2004 0), (.ptr 2005 0), (.ptr 2006 0), (.ptr 2007 0)])])), (2007, (.box [(.vs 106)])), (111, (.vec 1 (List.map Z11 v21))), (110, (.vec 1 (List.map Z11 v20))), (108, (.vec 1 (List.map Z11 v19))), (107, (.vec 1 (List.map e_bool v18))), (106, (.vec 1 (List.map Z1c v17)))], (.tup []), [(2000, (.box [(.int .i64 v74.1)])), (2001, (.box [(.vs 111)])), (2002, (.box [(.vs 110)])), (2003, (.box [(.vs 108)])), (2004, (.box [(.vs 107)])), (2005, (.box [(.sl 1 (v74.2.1.map Z1c) false)])), (2006, (.box [(.clo 129 [(.ptr 2000 0), (.ptr 2001 0), (.ptr 2002 0), (.ptr 2003 0), (.ptr 2004 0), (.ptr 2005 0), (.ptr 2006 0), (.ptr 2007 0)])])), (2007, (.box [(.vs 106)])), (111, (.vec 1 (List.map Z11 v74.2.2.1))), (110, (.vec 1 (List.map Z11 v74.2.2.2.1))), (108, (.vec 1 (List.map Z11 v74.2.2.2.2.1))), (107, (.vec 1 (List.map e_bool v74.2.2.2.2.2.1))), (106, (.vec 1 (List.map Z1c v74.2.2.2.2.2.2)))], [111, 110, 108, 107, 106]⟩) (ar := [(.int .i64 ((a2.getD a0.toNat []).getD v16.toNat 0))]) (caps := [(.ptr 2000 0), (.ptr 2001 0), (.ptr 2002 0), (.ptr 2003 0), (.ptr 2004 0), (.ptr 2005 0), (.ptr 2006 0), (.ptr 2007 0)]) (news := []) (forg := [111, 110, 108, 107, 106]) Tryz.call129 (IH ((a2.getD a0.toNat []).getD v16.toNat 0) v22 v23 v21 v20 v19 v18 v17 v74 hv74) I I ⟨rfl, trivial⟩ I ⟨rfl, rfl, rfl, rfl, rfl, rfl, rfl, rfl, rfl, rfl, rfl, rfl, rfl, trivial⟩ I) I <| Zf <| Zg <| Z1u mixed <| Z8 0 I (st_loadPC (cs := [(.vs 110)]) (v := (.vs 110)) I o65 I I I) <| Z8 1 I (Zi (v := (.int .i64 a0)) I I) <| Z8 2 I (st_loadPC (cs := [(.vs 110)]) (v := (.vs 110)) I o65 I I I) <| Z8 3 I (Zi (v := (.int .i64 a0)) I I) ?_
       have ⟨hg75, h⟩ := Zv h
       refine Z8 4 I (st_indexV (k := .i64) (v := (.vs 110)) (n := 110) (off := 0) (len := v74.2.2.2.1.length) (es := (List.map Z11 v74.2.2.2.1)) (j := a0) (m := a0.toNat) I s65 I I (vecR_map _ _ _) I hg75 (Nat.zero_add _)) ?_
       have ⟨hg76, h⟩ := Zv h
       refine Z8 5 I (st_loadV (l := v74.2.2.2.1) (enc := Z11) (z := 0) (v := (.int .i64 (v74.2.2.2.1.getD a0.toNat 0))) I o3 I I hg76 I) <| Z8 6 I (st_loadPC (cs := [(.vs 110)]) (v := (.vs 110)) I o65 I I I) <| Z8 7 I (Zi (v := (.int .i64 ((a2.getD a0.toNat []).getD v16.toNat 0))) I I) ?_
       have ⟨hg77, h⟩ := Zv h
       refine Z8 8 I (st_indexV (k := .i64) (v := (.vs 110)) (n := 110) (off := 0) (len := v74.2.2.2.1.length) (es := (List.map Z11 v74.2.2.2.1)) (j := ((a2.getD a0.toNat []).getD v16.toNat 0)) (m := ((a2.getD a0.toNat []).getD v16.toNat 0).toNat) I s65 I I (vecR_map _ _ _) I hg77 (Nat.zero_add _)) ?_
       have ⟨hg78, h⟩ := Zv h
       refine Z8 9 I (st_loadV (l := v74.2.2.2.1) (enc := Z11) (z := 0) (v := (.int .i64 (v74.2.2.2.1.getD ((a2.getD a0.toNat []).getD v16.toNat 0).toNat 0))) I o3 I I hg78 I) <| Z8 10 I (st_min (k := .i64) (a := (v74.2.2.2.1.getD a0.toNat 0)) (b := (v74.2.2.2.1.getD ((a2.getD a0.toNat []).getD v16.toNat 0).toNat 0)) I I I) ?_
       have ⟨hg79, h⟩ := Zv h
       refine Z8 11 I (st_indexV (k := .i64) (v := (.vs 110)) (n := 110) (off := 0) (len := v74.2.2.2.1.length) (es := (List.map Z11 v74.2.2.2.1)) (j := a0) (m := a0.toNat) I s65 I I (vecR_map _ _ _) I hg79 (Nat.zero_add _)) ?_
       have ⟨hg80, h⟩ := Zv h
       refine Z8 12 I (st_storeV (l := v74.2.2.2.1) (enc := Z11) (z := 0) (a := (if (v74.2.2.2.1.getD ((a2.getD a0.toNat []).getD v16.toNat 0).toNat 0) < (v74.2.2.2.1.getD a0.toNat 0) then (v74.2.2.2.1.getD ((a2.getD a0.toNat []).getD v16.toNat 0).toNat 0) else (v74.2.2.2.1.getD a0.toNat 0))) (v := (.int .i64 (if (v74.2.2.2.1.getD ((a2.getD a0.toNat []).getD v16.toNat 0).toNat 0) < (v74.2.2.2.1.getD a0.toNat 0) then (v74.2.2.2.1.getD ((a2.getD a0.toNat []).getD v16.toNat 0).toNat 0) else (v74.2.2.2.1.getD a0.toNat 0)))) sz3 I I hg80 I els_i64 I I I I) <| AOpsD.nil (by kernel_rfl) I ?_
       exact Zx (st' := ⟨[(0, (.int .i64 a0)), (2, (.ptr 2001 0)), (3, (.ptr 2002 0)), (4, (.ptr 2003 0)), (5, (.ptr 2004 0)), (7, (.ptr 2006 0)), (8, (.ptr 2007 0)), (36, (.sl 1 ((a2.getD a0.toNat []).map Z11) false)), (37, (.int .i64 ((a2.getD a0.toNat []).length : Int))), (38, (.int .i64 v16))], [(106, (.vec 1 (List.map Z1c v74.2.2.2.2.2.2))), (107, (.vec 1 (List.map e_bool v74.2.2.2.2.2.1))), (108, (.vec 1 (List.map Z11 v74.2.2.2.2.1))), (110, (.vec 1 (List.map Z11 (v74.2.2.2.1.set a0.toNat (if (v74.2.2.2.1.getD ((a2.getD a0.toNat []).getD v16.toNat 0).toNat 0) < (v74.2.2.2.1.getD a0.toNat 0) then (v74.2.2.2.1.getD ((a2.getD a0.toNat []).getD v16.toNat 0).toNat 0) else (v74.2.2.2.1.getD a0.toNat 0)))))), (111, (.vec 1 (List.map Z11 v74.2.2.1))), (2000, (.box [(.int .i64 v74.1)])), (2001, (.box [(.vs 111)])), (2002, (.box [(.vs 110)])), (2003, (.box [(.vs 108)])), (2004, (.box [(.vs 107)])), (2005, (.box [(.sl 1 (v74.2.1.map Z1c) false)])), (2006, (.box [(.clo 129 [(.ptr 2000 0), (.ptr 2001 0), (.ptr 2002 0), (.ptr 2003 0), (.ptr 2004 0), (.ptr 2005 0), (.ptr 2006 0), (.ptr 2007 0)])])), (2007, (.box [(.vs 106)]))]⟩) ⟨rfl, rfl, rfl, rfl, rfl, rfl, rfl, rfl, rfl, rfl, trivial⟩ ⟨rfl, rfl, rfl, rfl, rfl, rfl, rfl, rfl, rfl, rfl, rfl, rfl, rfl, trivial⟩ (J72 (v74.2.2.2.2.2.2, v74.2.2.2.2.2.1, v74.2.2.2.2.1, (v74.2.2.2.1.set a0.toNat (if (v74.2.2.2.1.getD ((a2.getD a0.toNat []).getD v16.toNat 0).toNat 0) < (v74.2.2.2.1.getD a0.toNat 0) then (v74.2.2.2.1.getD ((a2.getD a0.toNat []).getD v16.toNat 0).toNat 0) else (v74.2.2.2.1.getD a0.toNat 0))), v74.2.2.1, v74.1, v74.2.1) h)
      ·have h := hif.2 hc
       refine Zh <| Za <| Z1 I (Zs (cs := [(.vs 107)]) (v := (.vs 107)) I o207 I I I) I <| Z1 I (Zi (v := (.int .i64 ((a2.getD a0.toNat []).getD v16.toNat 0))) I I) I ?_
       have ⟨hg81, h⟩ := Zv h
       refine Z1 I (st_indexV (k := .i64) (v := (.vs 107)) (n := 107) (off := 0) (len := v18.length) (es := (List.map e_bool v18)) (j := ((a2.getD a0.toNat []).getD v16.toNat 0)) (m := ((a2.getD a0.toNat []).getD v16.toNat 0).toNat) I s207 I I (vecR_map _ _ _) I hg81 (Nat.zero_add _)) I ?_
       have ⟨hg82, h⟩ := Zv h
       refine Z1 I (st_loadV (l := v18) (enc := e_bool) (z := false) (v := (.bool (v18.getD ((a2.getD a0.toNat []).getD v16.toNat 0).toNat false))) I o4 I I hg82 I) I <| Zf <| Zg ?_
       have hif := of_if h
       refine Z15 I (fun hc => ?_) (fun hc => ?_)
       ·have h := hif.1 hc
        refine Z1u mixed <| Z8 0 I (st_loadPC (cs := [(.vs 110)]) (v := (.vs 110)) I o65 I I I) <| Z8 1 I (Zi (v := (.int .i64 a0)) I I) <| Z8 2 I (st_loadPC (cs := [(.vs 110)]) (v := (.vs 110)) I o65 I I I) <| Z8 3 I (Zi (v := (.int .i64 a0)) I I) ?_
        have ⟨hg83, h⟩ := Zv h
        refine Z8 4 I (st_indexV (k := .i64) (v := (.vs 110)) (n := 110) (off := 0) (len := v20.length) (es := (List.map Z11 v20)) (j := a0) (m := a0.toNat) I s65 I I (vecR_map _ _ _) I hg83 (Nat.zero_add _)) ?_
        have ⟨hg84, h⟩ := Zv h
        refine Z8 5 I (st_loadV (l := v20) (enc := Z11) (z := 0) (v := (.int .i64 (v20.getD a0.toNat 0))) I o3 I I hg84 I) <| Z8 6 I (st_loadPC (cs := [(.vs 111)]) (v := (.vs 111)) I o65 I I I) <| Z8 7 I (Zi (v := (.int .i64 ((a2.getD a0.toNat []).getD v16.toNat 0))) I I) ?_
        have ⟨hg85, h⟩ := Zv h
        refine Z8 8 I (st_indexV (k := .i64) (v := (.vs 111)) (n := 111) (off := 0) (len := v21.length) (es := (List.map Z11 v21)) (j := ((a2.getD a0.toNat []).getD v16.toNat 0)) (m := ((a2.getD a0.toNat []).getD v16.toNat 0).toNat) I s65 I I (vecR_map _ _ _) I hg85 (Nat.zero_add _)) ?_
        have ⟨hg86, h⟩ := Zv h
        refine Z8 9 I (st_loadV (l := v21) (enc := Z11) (z := 0) (v := (.int .i64 (v21.getD ((a2.getD a0.toNat []).getD v16.toNat 0).toNat 0))) I o3 I I hg86 I) <| Z8 10 I (st_min (k := .i64) (a := (v20.getD a0.toNat 0)) (b := (v21.getD ((a2.getD a0.toNat []).getD v16.toNat 0).toNat 0)) I I I) ?_
        have ⟨hg87, h⟩ := Zv h
        refine Z8 11 I (st_indexV (k := .i64) (v := (.vs 110)) (n := 110) (off := 0) (len := v20.length) (es := (List.map Z11 v20)) (j := a0) (m := a0.toNat) I s65 I I (vecR_map _ _ _) I hg87 (Nat.zero_add _)) ?_
        have ⟨hg88, h⟩ := Zv h
        refine Z8 12 I (st_storeV (l := v20) (enc := Z11) (z := 0) (a := (if (v21.getD ((a2.getD a0.toNat []).getD v16.toNat 0).toNat 0) < (v20.getD a0.toNat 0) then (v21.getD ((a2.getD a0.toNat []).getD v16.toNat 0).toNat 0) else (v20.getD a0.toNat 0))) (v := (.int .i64 (if (v21.getD ((a2.getD a0.toNat []).getD v16.toNat 0).toNat 0) < (v20.getD a0.toNat 0) then (v21.getD ((a2.getD a0.toNat []).getD v16.toNat 0).toNat 0) else (v20.getD a0.toNat 0)))) sz3 I I hg88 I els_i64 I I I I) <| AOpsD.nil (by kernel_rfl) I ?_
        exact Zx (st' := ⟨[(0, (.int .i64 a0)), (2, (.ptr 2001 0)), (3, (.ptr 2002 0)), (4, (.ptr 2003 0)), (5, (.ptr 2004 0)), (7, (.ptr 2006 0)), (8, (.ptr 2007 0)), (36, (.sl 1 ((a2.getD a0.toNat []).map Z11) false)), (37, (.int .i64 ((a2.getD a0.toNat []).length : Int))), (38, (.int .i64 v16))], [(106, (.vec 1 (List.map Z1c v17))), (107, (.vec 1 (List.map e_bool v18))), (108, (.vec 1 (List.map Z11 v19))), (110, (.vec 1 (List.map Z11 (v20.set a0.toNat (if (v21.getD ((a2.getD a0.toNat []).getD v16.toNat 0).toNat 0) < (v20.getD a0.toNat 0) then (v21.getD ((a2.getD a0.toNat []).getD v16.toNat 0).toNat 0) else (v20.getD a0.toNat 0)))))), (111, (.vec 1 (List.map Z11 v21))), (2000, (.box [(.int .i64 v22)])), (2001, (.box [(.vs 111)])), (2002, (.box [(.vs 110)])), (2003, (.box [(.vs 108)])), (2004, (.box [(.vs 107)])), (2005, (.box [(.sl 1 (v23.map Z1c) false)])), (2006, (.box [(.clo 129 [(.ptr 2000 0), (.ptr 2001 0), (.ptr 2002 0), (.ptr 2003 0), (.ptr 2004 0), (.ptr 2005 0), (.ptr 2006 0), (.ptr 2007 0)])])), (2007, (.box [(.vs 106)]))]⟩) ⟨rfl, rfl, rfl, rfl, rfl, rfl, rfl, rfl, rfl, rfl, trivial⟩ ⟨rfl, rfl, rfl, rfl, rfl, rfl, rfl, rfl, rfl, rfl, rfl, rfl, rfl, trivial⟩ (J72 (v17, v18, v19, (v20.set a0.toNat (if (v21.getD ((a2.getD a0.toNat []).getD v16.toNat 0).toNat 0) < (v20.getD a0.toNat 0) then (v21.getD ((a2.getD a0.toNat []).getD v16.toNat 0).toNat 0) else (v20.getD a0.toNat 0))), v21, v22, v23) h)
       ·have h := hif.2 hc
        refine Z18 ?_
        exact Zx (st' := ⟨[(0, (.int .i64 a0)), (2, (.ptr 2001 0)), (3, (.ptr 2002 0)), (4, (.ptr 2003 0)), (5, (.ptr 2004 0)), (7, (.ptr 2006 0)), (8, (.ptr 2007 0)), (36, (.sl 1 ((a2.getD a0.toNat []).map Z11) false)), (37, (.int .i64 ((a2.getD a0.toNat []).length : Int))), (38, (.int .i64 v16))], [(106, (.vec 1 (List.map Z1c v17))), (107, (.vec 1 (List.map e_bool v18))), (108, (.vec 1 (List.map Z11 v19))), (110, (.vec 1 (List.map Z11 v20))), (111, (.vec 1 (List.map Z11 v21))), (2000, (.box [(.int .i64 v22)])), (2001, (.box [(.vs 111)])), (2002, (.box [(.vs 110)])), (2003, (.box [(.vs 108)])), (2004, (.box [(.vs 107)])), (2005, (.box [(.sl 1 (v23.map Z1c) false)])), (2006, (.box [(.clo 129 [(.ptr 2000 0), (.ptr 2001 0), (.ptr 2002 0), (.ptr 2003 0), (.ptr 2004 0), (.ptr 2005 0), (.ptr 2006 0), (.ptr 2007 0)])])), (2007, (.box [(.vs 106)]))]⟩) ⟨rfl, rfl, rfl, rfl, rfl, rfl, rfl, rfl, rfl, rfl, trivial⟩ ⟨rfl, rfl, rfl, rfl, rfl, rfl, rfl, rfl, rfl, rfl, rfl, rfl, rfl, trivial⟩ (J72 (v17, v18, v19, v20, v21, v22, v23) h)
    ·have h := hif.2 hc
     refine AWp.exit <| At.thru ?_
     exact Zx (st' := ⟨[(0, (.int .i64 a0)), (2, (.ptr 2001 0)), (3, (.ptr 2002 0)), (4, (.ptr 2003 0)), (5, (.ptr 2004 0)), (8, (.ptr 2007 0))], [(106, (.vec 1 (List.map Z1c v17))), (107, (.vec 1 (List.map e_bool v18))), (108, (.vec 1 (List.map Z11 v19))), (110, (.vec 1 (List.map Z11 v20))), (111, (.vec 1 (List.map Z11 v21))), (2000, (.box [(.int .i64 v22)])), (2001, (.box [(.vs 111)])), (2002, (.box [(.vs 110)])), (2003, (.box [(.vs 108)])), (2004, (.box [(.vs 107)])), (2005, (.box [(.sl 1 (v23.map Z1c) false)])), (2006, (.box [(.clo 129 [(.ptr 2000 0), (.ptr 2001 0), (.ptr 2002 0), (.ptr 2003 0), (.ptr 2004 0), (.ptr 2005 0), (.ptr 2006 0), (.ptr 2007 0)])])), (2007, (.box [(.vs 106)]))]⟩) ⟨rfl, rfl, rfl, rfl, rfl, rfl, trivial⟩ ⟨rfl, rfl, rfl, rfl, rfl, rfl, rfl, rfl, rfl, rfl, rfl, rfl, rfl, trivial⟩ (J24 (v17, v18, v19, v20, v21, v22, v23) h)
def F133 (K : Nat) (a0 : (List Int)) (a1 : (List Int)) : Option (Int) :=
 if (0 : Int) ≤ 0 ∧ (0 : Int) < a0.length then
  if (0 : Int) ≤ 0 ∧ (0 : Int) < a1.length then
   some (IntKind.i64.wrap ((a0.getD (0 : Int).toNat 0) - (a1.getD (0 : Int).toNat 0)))
  else none
 else none
theorem F133_ok (K : Nat) (a0 : (List Int)) (a1 : (List Int)) (r : Int) (h : F133 K a0 a1 = some r) : ACall P 133 ⟨[(.sl 1 (a0.map Z11) false), (.sl 1 (a1.map Z11) false)], [], (.int .i64 r), [], []⟩ := by
 refine Z1r Tryz.func133 Tryz.results133 rfl Tryz.ntmps133 rfl rfl rfl ?_
 intro E Q hP hN hro hret
 obtain ⟨P', nt', w0, F0, p0, S0, β0, ro0⟩ := E
 simp only at hP hN
 subst hP hN
 dsimp only [argT]
 unfold F133 at h
 refine Zh <| Za <| Z1 I (Zj (v := (.int .i64 0)) I I) I <| Zf <| Zg <| Zh <| Z1u mixed <| Z8 0 I (Zi (v := (.sl 1 (a0.map Z11) false)) I I) ?_
 have ⟨hg1, h⟩ := Zv h
 refine Z8 1 I (Z1y (k := .i64) (l := a0) (enc := Z11) (z := 0) (n := 0) (cs := [(.int .i64 (a0.getD (0 : Int).toNat 0))]) (full := false) I s65 I I hg1 I) <| Z8 2 I (st_loadI (cs := [(.int .i64 (a0.getD (0 : Int).toNat 0))]) (v := (.int .i64 (a0.getD (0 : Int).toNat 0))) I o3 I I) <| Z8 3 I (Zi (v := (.sl 1 (a1.map Z11) false)) I I) ?_
 have ⟨hg2, h⟩ := Zv h
 refine Z8 4 I (Z1y (k := .i64) (l := a1) (enc := Z11) (z := 0) (n := 0) (cs := [(.int .i64 (a1.getD (0 : Int).toNat 0))]) (full := false) I s65 I I hg2 I) <| Z8 5 I (st_loadI (cs := [(.int .i64 (a1.getD (0 : Int).toNat 0))]) (v := (.int .i64 (a1.getD (0 : Int).toNat 0))) I o3 I I) <| Z8 6 I (Z1s (k := .i64) (a := (a0.getD (0 : Int).toNat 0)) (b := (a1.getD (0 : Int).toNat 0)) (c := (IntKind.i64.wrap ((a0.getD (0 : Int).toNat 0) - (a1.getD (0 : Int).toNat 0)))) I I I I) <| Z8 7 I (Zj (v := (.int .i64 (IntKind.i64.wrap ((a0.getD (0 : Int).toNat 0) - (a1.getD (0 : Int).toNat 0))))) I I) <| AOpsD.nil (by kernel_rfl) I <| Zg <| Z1d ?_
 have h := Option.some.inj h
 subst h
 refine (hret _ ?_).1
 exact ⟨[(.int .i64 (IntKind.i64.wrap ((a0.getD (0 : Int).toNat 0) - (a1.getD (0 : Int).toNat 0))))], ⟨rfl, trivial⟩, rfl, trivial⟩
def F88_c16 (K : Nat) (v15 : (List (List Int))) : Option ((List (List Int))) :=
 (sortF (fun a b => F133 K a b) v15).bind fun v19 =>
  some v19
def F88_j30 (K : Nat) (b20 : Int → (List Int) → (List (List Int)) → (List (List Int)) → Int → (List Int) → (List Bool) → (List Int) → Option ((List (List Int)))) (v6 : Int) (v23 : (List Int)) (v24 : (List (List Int))) (v25 : (List (List Int))) (v26 : Int) (v27 : (List Int)) (v28 : (List Bool)) (v29 : (List Int)) : Option ((List (List Int))) :=
 b20 (IntKind.i64.wrap (v6 + 1)) v23 v24 v25 v26 v27 v28 v29
def F88_l14 (K : Nat) (a0 : Z1k) (c17 : (List (List Int)) → Option ((List (List Int)))) : Nat → Int → (List Int) → (List (List Int)) → (List (List Int)) → Int → (List Int) → (List Bool) → (List Int) → Option ((List (List Int)))
 | 0, _, _, _, _, _, _, _, _ => none
 | k14 + 1, v6, v7, v8, v9, v10, v11, v12, v13 =>
  if (decide (v6 < a0.Count)) = true then
   if (0 : Int) ≤ v6 ∧ v6 < (v7.length : Nat) then
    if v6.toNat < v7.length then
     if ((v7.getD v6.toNat 0) == 0) = true then
      (F129 K v6 v10 v9 v7 v11 v13 v12 v8).bind fun v32 =>
       F88_j30 K (F88_l14 K a0 c17 k14) v6 v32.2.2.1 v32.2.2.2.2.2.2 v32.2.1 v32.1 v32.2.2.2.1 v32.2.2.2.2.2.1 v32.2.2.2.2.1
     else
      F88_j30 K (F88_l14 K a0 c17 k14) v6 v7 v8 v9 v10 v11 v12 v13
    else none
   else none
  else
   c17 v8
def F88 (K : Nat) (a0 : Z1k) : Option ((List (List Int))) :=
 (F113 K a0).bind fun v2 =>
  if (0 : Int) ≤ a0.Count ∧ a0.Count ≤ a0.Count ∧ a0.Count ≤ 1073741824 then
   if (0 : Int) ≤ a0.Count ∧ a0.Count ≤ a0.Count ∧ a0.Count ≤ 1073741824 then
    if (0 : Int) ≤ a0.Count ∧ a0.Count ≤ a0.Count ∧ a0.Count ≤ 1073741824 then
     F88_l14 K a0 (F88_c16 K) K 0 (List.replicate a0.Count.toNat (0 : Int)) [] v2 0 (List.replicate a0.Count.toNat (0 : Int)) (List.replicate a0.Count.toNat (false : Bool)) []
    else none
   else none
  else none
theorem F88_ok (K : Nat) (a0 : Z1k) (r : (List (List Int))) (h : F88 K a0 = some r) : ACall P 88 ⟨[(Z1n a0)], [], (.sl 1 (r.map Z1c) false), [], []⟩ := by
 refine Z1r Tryz.func88 Tryz.results88 rfl Tryz.ntmps88 rfl rfl rfl ?_
 intro E Q hP hN hro hret
 obtain ⟨P', nt', w0, F0, p0, S0, β0, ro0⟩ := E
 simp only at hP hN
 subst hP hN
 dsimp only [argT]
 unfold F88 at h
 refine Zh <| Za <| Z1 I (st_box (v := (Z1n a0)) (cs := (Z1n a0).cells) I I I I I) I <| Z1 I (Zj (v := (.sl 1 [] false)) I I) I <| Zf <| Zg <| Zh <| Za ?_
 refine Z1 I (st_loadPA (cs := (Z1n a0).cells) (vs := (Z1n a0).cells) I a83 I I I I) I ?_
 have ⟨v2, hv2, h⟩ := Z1g h
 refine Z1 I (Z1p (ar := [(Z1n a0)]) (caps := []) Tryz.call113 (F113_ok K a0 v2 hv2) I I ⟨rfl, trivial⟩ I) I <| Z1 I (st_alloc (cs := [(.sl 1 [] true)]) I z168f I I I) I <| Z1 I (Z1h (cs := [(.sl 1 [] true)]) (vs := [(.sl 1 (v2.map Z1c) false)]) (ds := [(.sl 1 (v2.map Z1c) false)]) (v := (.sl 1 (v2.map Z1c) false)) sz168 I I I I I I I I) I <| Zf <| Zg <| Zh <| Z1u mixed <| Z8 0 I (Zq (m := 1) (o := 0) I f83_0 I I) ?_
 refine Z8 1 I (Zs (cs := (Z1n a0).cells) (v := (.int .i64 a0.Count)) I o3 I I I) ?_
 have ⟨hg3, h⟩ := Zv h
 refine Z8 2 I (st_makeSlice (kx := .i64) (ky := .i64) (a := a0.Count) (c := a0.Count) (n := a0.Count.toNat) I el65 I ze3 els_i64 I I I hg3 I) <| Z8 3 I (Zq (m := 1) (o := 0) I f83_0 I I) <| Z8 4 I (Zs (cs := (Z1n a0).cells) (v := (.int .i64 a0.Count)) I o3 I I I) ?_
 have ⟨hg4, h⟩ := Zv h
 refine Z8 5 I (st_makeSlice (kx := .i64) (ky := .i64) (a := a0.Count) (c := a0.Count) (n := a0.Count.toNat) I el65 I ze3 els_i64 I I I hg4 I) <| Z8 6 I (st_alloc (cs := [(.sl 1 [] true)]) I z65f I I I) <| Z8 7 I (st_alloc (cs := [(.sl 1 [] true)]) I z65f I I I) <| Z8 8 I (Z1h (cs := [(.sl 1 [] true)]) (vs := [(.vs 16)]) (ds := [(.vs 16)]) (v := (.vs 16)) sz65 I I I I I I I I) <| Z8 9 I (Z1h (cs := [(.sl 1 [] true)]) (vs := [(.vs 19)]) (ds := [(.vs 19)]) (v := (.vs 19)) sz65 I I I I I I I I) <| AOpsD.nil (by kernel_rfl) I <| Zg <| Zh ?_
 refine Za <| Z1 I (Zq (m := 1) (o := 0) I f83_0 I I) I <| Z1 I (Zs (cs := (Z1n a0).cells) (v := (.int .i64 a0.Count)) I o3 I I I) I ?_
 have ⟨hg5, h⟩ := Zv h
 refine Z1 I (st_makeSlice (kx := .i64) (ky := .i64) (a := a0.Count) (c := a0.Count) (n := a0.Count.toNat) I el207 I ze4 els_bool I I I hg5 I) I <| Z1 I (st_alloc (cs := [(.sl 1 [] true)]) I z207f I I I) I <| Z1 I (Z1h (cs := [(.sl 1 [] true)]) (vs := [(.vs 22)]) (ds := [(.vs 22)]) (v := (.vs 22)) sz207 I I I I I I I I) I <| Zf <| Zg <| Zh <| Za <| Z1 I (st_alloc (cs := [(.sl 1 [] true)]) I z65f I I I) I ?_
 refine Zf <| Zg <| Zh <| Za <| Z1 I (st_alloc (cs := [(.sl 1 [] true)]) I z168f I I I) I <| Zf <| Zg <| Zh ?_
 refine Za <| Z1 I (st_alloc (cs := [(.int .i64 0)]) I z3 I I I) I <| Z1 I (Z1h (cs := [(.int .i64 0)]) (vs := [(.int .i64 0)]) (ds := [(.int .i64 0)]) (v := (.int .i64 0)) sz3 I I I I I I I I) I <| Zf <| Zg <| Zh <| Za <| Z1 I (st_alloc (cs := [.nilf]) I z213 I I I) I ?_
 refine Zf <| Zg <| Zh <| Za <| Z1 I (stx_makeFunc (vs := [(.ptr 9 0), (.ptr 4 0), (.ptr 5 0), (.ptr 7 0), (.ptr 6 0), (.ptr 3 0), (.ptr 10 0), (.ptr 8 0)]) I ⟨rfl, rfl, rfl, rfl, rfl, rfl, rfl, rfl, trivial⟩) I <| Z1 I (Z1h (cs := [.nilf]) (vs := [(.clo 129 [(.ptr 9 0), (.ptr 4 0), (.ptr 5 0), (.ptr 7 0), (.ptr 6 0), (.ptr 3 0), (.ptr 10 0), (.ptr 8 0)])]) (ds := [(.clo 129 [(.ptr 9 0), (.ptr 4 0), (.ptr 5 0), (.ptr 7 0), (.ptr 6 0), (.ptr 3 0), (.ptr 10 0), (.ptr 8 0)])]) (v := (.clo 129 [(.ptr 9 0), (.ptr 4 0), (.ptr 5 0), (.ptr 7 0), (.ptr 6 0), (.ptr 3 0), (.ptr 10 0), (.ptr 8 0)])) sz213 I I I I I I I I) I <| Zf <| Zg ?_
 refine Zh <| Zh <| Za <| Z1 I (Zq (m := 1) (o := 0) I f83_0 I I) I <| Z1 I (Zs (cs := (Z1n a0).cells) (v := (.int .i64 a0.Count)) I o3 I I I) I <| Z1 I (Zi (v := (.int .i64 0)) I I) I <| Zf <| Zg ?_
 refine AWp.ghost (st' := ⟨[(4, (.ptr 4 0)), (8, (.ptr 8 0)), (10, (.ptr 10 0)), (25, (.int .i64 a0.Count)), (26, (.int .i64 0))], [(3, (.box [(.sl 1 (v2.map Z1c) false)])), (4, (.box [(.vs 40)])), (5, (.box [(.vs 38)])), (6, (.box [(.vs 37)])), (7, (.box [(.vs 35)])), (8, (.box [(.vs 34)])), (9, (.box [(.int .i64 0)])), (10, (.box [(.clo 129 [(.ptr 9 0), (.ptr 4 0), (.ptr 5 0), (.ptr 7 0), (.ptr 6 0), (.ptr 3 0), (.ptr 10 0), (.ptr 8 0)])])), (34, (.vec 1 (List.map Z1c ([] : List (List Int))))), (35, (.vec 1 (List.map Z11 ([] : List Int)))), (37, (.vec 1 (List.map e_bool (List.replicate a0.Count.toNat (false : Bool))))), (38, (.vec 1 (List.map Z11 (List.replicate a0.Count.toNat (0 : Int))))), (40, (.vec 1 (List.map Z11 (List.replicate a0.Count.toNat (0 : Int)))))]⟩) (fun a w h => (Z17 ⟨[(4, (.ptr 4 0)), (8, (.ptr 8 0)), (10, (.ptr 10 0)), (25, (.int .i64 a0.Count)), (26, (.int .i64 0))], [(3, (.box [(.sl 1 (v2.map Z1c) false)])), (4, (.box [(.vs 40)])), (5, (.box [(.vs 38)])), (6, (.box [(.vs 37)])), (7, (.box [(.vs 35)])), (8, (.box [(.vs 34)])), (9, (.box [(.int .i64 0)])), (10, (.box [(.clo 129 [(.ptr 9 0), (.ptr 4 0), (.ptr 5 0), (.ptr 7 0), (.ptr 6 0), (.ptr 3 0), (.ptr 10 0), (.ptr 8 0)])])), (34, (.vec 1 (List.map Z1c ([] : List (List Int))))), (35, (.vec 1 (List.map Z11 ([] : List Int)))), (37, (.vec 1 (List.map e_bool (List.replicate a0.Count.toNat (false : Bool))))), (38, (.vec 1 (List.map Z11 (List.replicate a0.Count.toNat (0 : Int))))), (40, (.vec 1 (List.map Z11 (List.replicate a0.Count.toNat (0 : Int)))))]⟩ (ghost_sw (a := 22) (b := 37) I I a w (Z17 ⟨[(4, (.ptr 4 0)), (8, (.ptr 8 0)), (10, (.ptr 10 0)), (25, (.int .i64 a0.Count)), (26, (.int .i64 0))], [(3, (.box [(.sl 1 (v2.map Z1c) false)])), (4, (.box [(.vs 40)])), (5, (.box [(.vs 38)])), (6, (.box [(.vs 22)])), (7, (.box [(.vs 35)])), (8, (.box [(.vs 34)])), (9, (.box [(.int .i64 0)])), (10, (.box [(.clo 129 [(.ptr 9 0), (.ptr 4 0), (.ptr 5 0), (.ptr 7 0), (.ptr 6 0), (.ptr 3 0), (.ptr 10 0), (.ptr 8 0)])])), (22, (.vec 1 (List.map e_bool (List.replicate a0.Count.toNat (false : Bool))))), (34, (.vec 1 (List.map Z1c ([] : List (List Int))))), (35, (.vec 1 (List.map Z11 ([] : List Int)))), (38, (.vec 1 (List.map Z11 (List.replicate a0.Count.toNat (0 : Int))))), (40, (.vec 1 (List.map Z11 (List.replicate a0.Count.toNat (0 : Int)))))]⟩ (Z17 ⟨[(4, (.ptr 4 0)), (8, (.ptr 8 0)), (10, (.ptr 10 0)), (25, (.int .i64 a0.Count)), (26, (.int .i64 0))], [(3, (.box [(.sl 1 (v2.map Z1c) false)])), (4, (.box [(.vs 40)])), (5, (.box [(.vs 38)])), (6, (.box [(.vs 22)])), (7, (.box [(.vs 35)])), (8, (.box [(.vs 34)])), (9, (.box [(.int .i64 0)])), (10, (.box [(.clo 129 [(.ptr 9 0), (.ptr 4 0), (.ptr 5 0), (.ptr 7 0), (.ptr 6 0), (.ptr 3 0), (.ptr 10 0), (.ptr 8 0)])])), (22, (.vec 1 (List.map e_bool (List.replicate a0.Count.toNat (false : Bool))))), (34, (.vec 1 (List.map Z1c ([] : List (List Int))))), (35, (.vec 1 (List.map Z11 ([] : List Int)))), (38, (.vec 1 (List.map Z11 (List.replicate a0.Count.toNat (0 : Int))))), (40, (.vec 1 (List.map Z11 (List.replicate a0.Count.toNat (0 : Int)))))]⟩ (ghost_sw (a := 19) (b := 38) I I a w (Z17 ⟨[(4, (.ptr 4 0)), (8, (.ptr 8 0)), (10, (.ptr 10 0)), (25, (.int .i64 a0.Count)), (26, (.int .i64 0))], [(3, (.box [(.sl 1 (v2.map Z1c) false)])), (4, (.box [(.vs 40)])), (5, (.box [(.vs 19)])), (6, (.box [(.vs 22)])), (7, (.box [(.vs 35)])), (8, (.box [(.vs 34)])), (9, (.box [(.int .i64 0)])), (10, (.box [(.clo 129 [(.ptr 9 0), (.ptr 4 0), (.ptr 5 0), (.ptr 7 0), (.ptr 6 0), (.ptr 3 0), (.ptr 10 0), (.ptr 8 0)])])), (19, (.vec 1 (List.map Z11 (List.replicate a0.Count.toNat (0 : Int))))), (22, (.vec 1 (List.map e_bool (List.replicate a0.Count.toNat (false : Bool))))), (34, (.vec 1 (List.map Z1c ([] : List (List Int))))), (35, (.vec 1 (List.map Z11 ([] : List Int)))), (40, (.vec 1 (List.map Z11 (List.replicate a0.Count.toNat (0 : Int)))))]⟩ (Z17 ⟨[(4, (.ptr 4 0)), (8, (.ptr 8 0)), (10, (.ptr 10 0)), (25, (.int .i64 a0.Count)), (26, (.int .i64 0))], [(3, (.box [(.sl 1 (v2.map Z1c) false)])), (4, (.box [(.vs 40)])), (5, (.box [(.vs 19)])), (6, (.box [(.vs 22)])), (7, (.box [(.vs 35)])), (8, (.box [(.vs 34)])), (9, (.box [(.int .i64 0)])), (10, (.box [(.clo 129 [(.ptr 9 0), (.ptr 4 0), (.ptr 5 0), (.ptr 7 0), (.ptr 6 0), (.ptr 3 0), (.ptr 10 0), (.ptr 8 0)])])), (19, (.vec 1 (List.map Z11 (List.replicate a0.Count.toNat (0 : Int))))), (22, (.vec 1 (List.map e_bool (List.replicate a0.Count.toNat (false : Bool))))), (34, (.vec 1 (List.map Z1c ([] : List (List Int))))), (35, (.vec 1 (List.map Z11 ([] : List Int)))), (40, (.vec 1 (List.map Z11 (List.replicate a0.Count.toNat (0 : Int)))))]⟩ (ghost_sw (a := 16) (b := 40) I I a w (Z17 ⟨[(4, (.ptr 4 0)), (8, (.ptr 8 0)), (10, (.ptr 10 0)), (25, (.int .i64 a0.Count)), (26, (.int .i64 0))], [(3, (.box [(.sl 1 (v2.map Z1c) false)])), (4, (.box [(.vs 16)])), (5, (.box [(.vs 19)])), (6, (.box [(.vs 22)])), (7, (.box [(.vs 35)])), (8, (.box [(.vs 34)])), (9, (.box [(.int .i64 0)])), (10, (.box [(.clo 129 [(.ptr 9 0), (.ptr 4 0), (.ptr 5 0), (.ptr 7 0), (.ptr 6 0), (.ptr 3 0), (.ptr 10 0), (.ptr 8 0)])])), (16, (.vec 1 (List.map Z11 (List.replicate a0.Count.toNat (0 : Int))))), (19, (.vec 1 (List.map Z11 (List.replicate a0.Count.toNat (0 : Int))))), (22, (.vec 1 (List.map e_bool (List.replicate a0.Count.toNat (false : Bool))))), (34, (.vec 1 (List.map Z1c ([] : List (List Int))))), (35, (.vec 1 (List.map Z11 ([] : List Int))))]⟩ (Z17 ⟨[(4, (.ptr 4 0)), (8, (.ptr 8 0)), (10, (.ptr 10 0)), (25, (.int .i64 a0.Count)), (26, (.int .i64 0))], [(3, (.box [(.sl 1 (v2.map Z1c) false)])), (4, (.box [(.vs 16)])), (5, (.box [(.vs 19)])), (6, (.box [(.vs 22)])), (7, (.box [(.vs 35)])), (8, (.box [(.vs 34)])), (9, (.box [(.int .i64 0)])), (10, (.box [(.clo 129 [(.ptr 9 0), (.ptr 4 0), (.ptr 5 0), (.ptr 7 0), (.ptr 6 0), (.ptr 3 0), (.ptr 10 0), (.ptr 8 0)])])), (16, (.vec 1 (List.map Z11 (List.replicate a0.Count.toNat (0 : Int))))), (19, (.vec 1 (List.map Z11 (List.replicate a0.Count.toNat (0 : Int))))), (22, (.vec 1 (List.map e_bool (List.replicate a0.Count.toNat (false : Bool))))), (34, (.vec 1 (List.map Z1c ([] : List (List Int))))), (35, (.vec 1 (List.map Z11 ([] : List Int))))]⟩ (ghost_ownB (n := 8) (m := 34) (sz := 1) (j := 0) I I I a w (Z17 ⟨[(4, (.ptr 4 0)), (8, (.ptr 8 0)), (10, (.ptr 10 0)), (25, (.int .i64 a0.Count)), (26, (.int .i64 0))], [(8, (.box [(.sl 1 [] true)])), (3, (.box [(.sl 1 (v2.map Z1c) false)])), (4, (.box [(.vs 16)])), (5, (.box [(.vs 19)])), (6, (.box [(.vs 22)])), (7, (.box [(.vs 35)])), (9, (.box [(.int .i64 0)])), (10, (.box [(.clo 129 [(.ptr 9 0), (.ptr 4 0), (.ptr 5 0), (.ptr 7 0), (.ptr 6 0), (.ptr 3 0), (.ptr 10 0), (.ptr 8 0)])])), (16, (.vec 1 (List.map Z11 (List.replicate a0.Count.toNat (0 : Int))))), (19, (.vec 1 (List.map Z11 (List.replicate a0.Count.toNat (0 : Int))))), (22, (.vec 1 (List.map e_bool (List.replicate a0.Count.toNat (false : Bool))))), (35, (.vec 1 (List.map Z11 ([] : List Int))))]⟩ (Z17 ⟨[(4, (.ptr 4 0)), (8, (.ptr 8 0)), (10, (.ptr 10 0)), (25, (.int .i64 a0.Count)), (26, (.int .i64 0))], [(3, (.box [(.sl 1 (v2.map Z1c) false)])), (4, (.box [(.vs 16)])), (5, (.box [(.vs 19)])), (6, (.box [(.vs 22)])), (7, (.box [(.vs 35)])), (8, (.box [(.sl 1 [] true)])), (9, (.box [(.int .i64 0)])), (10, (.box [(.clo 129 [(.ptr 9 0), (.ptr 4 0), (.ptr 5 0), (.ptr 7 0), (.ptr 6 0), (.ptr 3 0), (.ptr 10 0), (.ptr 8 0)])])), (16, (.vec 1 (List.map Z11 (List.replicate a0.Count.toNat (0 : Int))))), (19, (.vec 1 (List.map Z11 (List.replicate a0.Count.toNat (0 : Int))))), (22, (.vec 1 (List.map e_bool (List.replicate a0.Count.toNat (false : Bool))))), (35, (.vec 1 (List.map Z11 ([] : List Int))))]⟩ (ghost_ownB (n := 7) (m := 35) (sz := 1) (j := 0) I I I a w (Z17 ⟨[(4, (.ptr 4 0)), (8, (.ptr 8 0)), (10, (.ptr 10 0)), (25, (.int .i64 a0.Count)), (26, (.int .i64 0))], [(7, (.box [(.sl 1 [] true)])), (3, (.box [(.sl 1 (v2.map Z1c) false)])), (4, (.box [(.vs 16)])), (5, (.box [(.vs 19)])), (6, (.box [(.vs 22)])), (8, (.box [(.sl 1 [] true)])), (9, (.box [(.int .i64 0)])), (10, (.box [(.clo 129 [(.ptr 9 0), (.ptr 4 0), (.ptr 5 0), (.ptr 7 0), (.ptr 6 0), (.ptr 3 0), (.ptr 10 0), (.ptr 8 0)])])), (16, (.vec 1 (List.map Z11 (List.replicate a0.Count.toNat (0 : Int))))), (19, (.vec 1 (List.map Z11 (List.replicate a0.Count.toNat (0 : Int))))), (22, (.vec 1 (List.map e_bool (List.replicate a0.Count.toNat (false : Bool)))))]⟩ h ⟨rfl, rfl, rfl, rfl, rfl, trivial⟩ ⟨rfl, rfl, rfl, rfl, rfl, rfl, rfl, rfl, rfl, rfl, rfl, trivial⟩)) ⟨rfl, rfl, rfl, rfl, rfl, trivial⟩ ⟨rfl, rfl, rfl, rfl, rfl, rfl, rfl, rfl, rfl, rfl, rfl, rfl, trivial⟩) ⟨rfl, rfl, rfl, rfl, rfl, trivial⟩ ⟨rfl, rfl, rfl, rfl, rfl, rfl, rfl, rfl, rfl, rfl, rfl, rfl, trivial⟩)) ⟨rfl, rfl, rfl, rfl, rfl, trivial⟩ ⟨rfl, rfl, rfl, rfl, rfl, rfl, rfl, rfl, rfl, rfl, rfl, rfl, rfl, trivial⟩) ⟨rfl, rfl, rfl, rfl, rfl, trivial⟩ ⟨rfl, rfl, rfl, rfl, rfl, rfl, rfl, rfl, rfl, rfl, rfl, rfl, rfl, trivial⟩)) ⟨rfl, rfl, rfl, rfl, rfl, trivial⟩ ⟨rfl, rfl, rfl, rfl, rfl, rfl, rfl, rfl, rfl, rfl, rfl, rfl, rfl, trivial⟩) ⟨rfl, rfl, rfl, rfl, rfl, trivial⟩ ⟨rfl, rfl, rfl, rfl, rfl, rfl, rfl, rfl, rfl, rfl, rfl, rfl, rfl, trivial⟩)) ⟨rfl, rfl, rfl, rfl, rfl, trivial⟩ ⟨rfl, rfl, rfl, rfl, rfl, rfl, rfl, rfl, rfl, rfl, rfl, rfl, rfl, trivial⟩) ⟨rfl, rfl, rfl, rfl, rfl, trivial⟩ ⟨rfl, rfl, rfl, rfl, rfl, rfl, rfl, rfl, rfl, rfl, rfl, rfl, rfl, trivial⟩)) ⟨rfl, rfl, rfl, rfl, rfl, trivial⟩ ⟨rfl, rfl, rfl, rfl, rfl, rfl, rfl, rfl, rfl, rfl, rfl, rfl, rfl, trivial⟩)) <| Z1w (st' := ⟨[(4, (.ptr 4 0)), (8, (.ptr 8 0)), (10, (.ptr 10 0)), (25, (.int .i64 a0.Count)), (26, (.int .i64 0))], [(3, (.box [(.sl 1 (v2.map Z1c) false)])), (4, (.box [(.vs 40)])), (5, (.box [(.vs 38)])), (6, (.box [(.vs 37)])), (7, (.box [(.vs 35)])), (8, (.box [(.vs 34)])), (9, (.box [(.int .i64 0)])), (10, (.box [(.clo 129 [(.ptr 9 0), (.ptr 4 0), (.ptr 5 0), (.ptr 7 0), (.ptr 6 0), (.ptr 3 0), (.ptr 10 0), (.ptr 8 0)])])), (34, (.vec 1 (List.map Z1c []))), (35, (.vec 1 (List.map Z11 []))), (37, (.vec 1 (List.map e_bool (List.replicate a0.Count.toNat (false : Bool))))), (38, (.vec 1 (List.map Z11 (List.replicate a0.Count.toNat (0 : Int))))), (40, (.vec 1 (List.map Z11 (List.replicate a0.Count.toNat (0 : Int)))))]⟩) ⟨rfl, rfl, rfl, rfl, rfl, trivial⟩ ⟨rfl, rfl, rfl, rfl, rfl, rfl, rfl, rfl, rfl, rfl, rfl, rfl, rfl, trivial⟩ ?_
 refine Z1j (V := Int × (List Int) × (List (List Int)) × (List (List Int)) × Int × (List Int) × (List Bool) × (List Int)) (X := (List (List Int))) (lp := fun k v => F88_l14 K a0 (F88_c16 K) k v.1 v.2.1 v.2.2.1 v.2.2.2.1 v.2.2.2.2.1 v.2.2.2.2.2.1 v.2.2.2.2.2.2.1 v.2.2.2.2.2.2.2 = some r) (sh := fun v => ⟨[(4, (.ptr 4 0)), (8, (.ptr 8 0)), (10, (.ptr 10 0)), (25, (.int .i64 a0.Count)), (26, (.int .i64 v.1))], [(3, (.box [(.sl 1 (v.2.2.2.1.map Z1c) false)])), (4, (.box [(.vs 40)])), (5, (.box [(.vs 38)])), (6, (.box [(.vs 37)])), (7, (.box [(.vs 35)])), (8, (.box [(.vs 34)])), (9, (.box [(.int .i64 v.2.2.2.2.1)])), (10, (.box [(.clo 129 [(.ptr 9 0), (.ptr 4 0), (.ptr 5 0), (.ptr 7 0), (.ptr 6 0), (.ptr 3 0), (.ptr 10 0), (.ptr 8 0)])])), (34, (.vec 1 (List.map Z1c v.2.2.1))), (35, (.vec 1 (List.map Z11 v.2.2.2.2.2.2.2))), (37, (.vec 1 (List.map e_bool v.2.2.2.2.2.2.1))), (38, (.vec 1 (List.map Z11 v.2.2.2.2.2.1))), (40, (.vec 1 (List.map Z11 v.2.1)))]⟩) (x := fun v => F88_c16 K v = some r) (shx := fun v => ⟨[(8, (.ptr 8 0))], [(8, (.box [(.vs 34)])), (34, (.vec 1 (List.map Z1c v)))]⟩) (k := K) (v := (0, (List.replicate a0.Count.toNat (0 : Int)), [], v2, 0, (List.replicate a0.Count.toNat (0 : Int)), (List.replicate a0.Count.toNat (false : Bool)), [])) h ?_ ?_
 ·intro v h
  revert h
  revert v
  intro v15 h
  try dsimp only at h ⊢
  unfold F88_c16 at h
  refine Zg <| Zh <| Za <| Z1 I (Zs (cs := [(.vs 34)]) (v := (.vs 34)) I o168 I I I) I ?_
  have ⟨v19, hv19, h⟩ := Z1g h
  refine Z1 I (st_call (d := some 39) (c := ⟨[(.vs 34), (.clo 133 [])], [(34, (.vec 1 (List.map Z1c v15)))], .tup [], [(34, .vec 1 (List.map Z1c v19))], []⟩) (ar := [(.vs 34), (.clo 133 [])]) (caps := []) (news := []) (forg := []) Tryz.call132 (sort_ok1 (n := 34) (enc := Z1c) (l := v15) (caps := []) (c := (fun a b => F133 K a b)) sortC132 Tryz.call133 els_l_i64 (fun _ => I) (fun a b m hm => F133_ok K a b m hm) hv19) I I ⟨rfl, rfl, trivial⟩ I ⟨rfl, trivial⟩ I) I <| Zf <| Zg <| Zh <| Za <| Z1 I (Zs (cs := [(.vs 34)]) (v := (.vs 34)) I o168 I I I) I <| Z1 I (Zj (v := (.vs 34)) I I) I <| Zf ?_
  refine Zg <| Z1d <| At.ghost (st' := ⟨[(2, (.sl 1 (v19.map Z1c) false))], []⟩) (fun a w h => (Z17 ⟨[(2, (.sl 1 (v19.map Z1c) false))], []⟩ (ghost_freeze (m := 34) (sz := 1) (es := (List.map Z1c v19)) a w (Z17 ⟨[(2, (.vs 34))], [(34, (.vec 1 (List.map Z1c v19)))]⟩ h ⟨rfl, trivial⟩ ⟨rfl, trivial⟩)) ⟨rfl, trivial⟩ trivial)) ?_
  have h := Option.some.inj h
  subst h
  refine (hret _ ?_).1
  exact ⟨[(.sl 1 (v19.map Z1c) false)], ⟨rfl, trivial⟩, rfl, trivial⟩
 ·intro N k14 v h IH14 J14
  obtain ⟨v6, v7, v8, v9, v10, v11, v12, v13⟩ := v
  try dsimp only at h IH14 J14 ⊢
  cases k14 with
  | zero => cases h
  | succ k14 =>
   rw [F88_l14] at h
   refine Zh <| Za <| Z1 I (st_cmp (k := .i64) (a := v6) (b := a0.Count) (c := (decide (v6 < a0.Count))) I I I I) I <| Zf <| Zg <| Zh ?_
   have hif := of_if h
   refine Z15 I (fun hc => ?_) (fun hc => ?_)
   ·have h := hif.1 hc
    refine Z18 <| Zg <| Zh <| AWp.block <| Zh <| Za <| Z1 I (Zi (v := (.int .i64 v6)) I I) I <| Z1 I (Zj (v := (.int .i64 v6)) I I) I ?_
    refine Zf <| Zg <| Zh <| Za <| Z1 I (Zs (cs := [(.vs 40)]) (v := (.vs 40)) I o65 I I I) I <| Z1 I (Zi (v := (.int .i64 v6)) I I) I ?_
    have ⟨hg21, h⟩ := Zv h
    refine Z1 I (st_indexV (k := .i64) (v := (.vs 40)) (n := 40) (off := 0) (len := v7.length) (es := (List.map Z11 v7)) (j := v6) (m := v6.toNat) I s65 I I (vecR_map _ _ _) I hg21 (Nat.zero_add _)) I ?_
    have ⟨hg22, h⟩ := Zv h
    refine Z1 I (st_loadV (l := v7) (enc := Z11) (z := 0) (v := (.int .i64 (v7.getD v6.toNat 0))) I o3 I I hg22 I) I <| Z1 I (st_cmp (k := .i64) (a := (v7.getD v6.toNat 0)) (b := 0) (c := ((v7.getD v6.toNat 0) == 0)) I I I I) I <| Zf <| Zg ?_
    refine AWp.join (V := (List Int) × (List (List Int)) × (List (List Int)) × Int × (List Int) × (List Bool) × (List Int)) (lp := fun v => F88_j30 K (F88_l14 K a0 (F88_c16 K) k14) v6 v.1 v.2.1 v.2.2.1 v.2.2.2.1 v.2.2.2.2.1 v.2.2.2.2.2.1 v.2.2.2.2.2.2 = some r) (sh := fun v => ⟨[(4, (.ptr 4 0)), (8, (.ptr 8 0)), (10, (.ptr 10 0)), (25, (.int .i64 a0.Count)), (26, (.int .i64 v6))], [(3, (.box [(.sl 1 (v.2.2.1.map Z1c) false)])), (4, (.box [(.vs 40)])), (5, (.box [(.vs 38)])), (6, (.box [(.vs 37)])), (7, (.box [(.vs 35)])), (8, (.box [(.vs 34)])), (9, (.box [(.int .i64 v.2.2.2.1)])), (10, (.box [(.clo 129 [(.ptr 9 0), (.ptr 4 0), (.ptr 5 0), (.ptr 7 0), (.ptr 6 0), (.ptr 3 0), (.ptr 10 0), (.ptr 8 0)])])), (34, (.vec 1 (List.map Z1c v.2.1))), (35, (.vec 1 (List.map Z11 v.2.2.2.2.2.2))), (37, (.vec 1 (List.map e_bool v.2.2.2.2.2.1))), (38, (.vec 1 (List.map Z11 v.2.2.2.2.1))), (40, (.vec 1 (List.map Z11 v.1)))]⟩) ?_ ?_
    ·intro v h
     obtain ⟨v23, v24, v25, v26, v27, v28, v29⟩ := v
     try dsimp only at h ⊢
     unfold F88_j30 at h
     refine At.end <| Zg <| Za <| Z1 I (Z1s (k := .i64) (a := v6) (b := 1) (c := (IntKind.i64.wrap (v6 + 1))) I I I I) I <| Z1 I (Zi (v := (.int .i64 (IntKind.i64.wrap (v6 + 1)))) I I) I <| Zf ?_
     exact Zx (st' := ⟨[(4, (.ptr 4 0)), (8, (.ptr 8 0)), (10, (.ptr 10 0)), (25, (.int .i64 a0.Count)), (26, (.int .i64 (IntKind.i64.wrap (v6 + 1))))], [(3, (.box [(.sl 1 (v25.map Z1c) false)])), (4, (.box [(.vs 40)])), (5, (.box [(.vs 38)])), (6, (.box [(.vs 37)])), (7, (.box [(.vs 35)])), (8, (.box [(.vs 34)])), (9, (.box [(.int .i64 v26)])), (10, (.box [(.clo 129 [(.ptr 9 0), (.ptr 4 0), (.ptr 5 0), (.ptr 7 0), (.ptr 6 0), (.ptr 3 0), (.ptr 10 0), (.ptr 8 0)])])), (34, (.vec 1 (List.map Z1c v24))), (35, (.vec 1 (List.map Z11 v29))), (37, (.vec 1 (List.map e_bool v28))), (38, (.vec 1 (List.map Z11 v27))), (40, (.vec 1 (List.map Z11 v23)))]⟩) ⟨rfl, rfl, rfl, rfl, rfl, trivial⟩ ⟨rfl, rfl, rfl, rfl, rfl, rfl, rfl, rfl, rfl, rfl, rfl, rfl, rfl, trivial⟩ (IH14 _ ((IntKind.i64.wrap (v6 + 1)), v23, v24, v25, v26, v27, v28, v29) (Nat.lt_succ_self _) h)
    ·intro J30
     have hif := of_if h
     refine Z15 I (fun hc => ?_) (fun hc => ?_)
     ·have h := hif.1 hc
      refine Za <| Z1 I (Zs (cs := [(.clo 129 [(.ptr 9 0), (.ptr 4 0), (.ptr 5 0), (.ptr 7 0), (.ptr 6 0), (.ptr 3 0), (.ptr 10 0), (.ptr 8 0)])]) (v := (.clo 129 [(.ptr 9 0), (.ptr 4 0), (.ptr 5 0), (.ptr 7 0), (.ptr 6 0), (.ptr 3 0), (.ptr 10 0), (.ptr 8 0)])) I o213 I I I) I <| Z1 I (Zi (v := (.int .i64 v6)) I I) I ?_
      have ⟨v32, hv32, h⟩ := Z1g h
      refine Z1 I (st_call (d := some 36) (c := ⟨[(.int .i64 v6)] ++ [(.ptr 9 0), (.ptr 4 0), (.ptr 5 0), (.ptr 7 0), (.ptr 6 0), (.ptr 3 0), (.ptr 10 0), (.ptr 8 0)], [(9, (.box [(.int .i64 v10)])), (4, (.box [(.vs 40)])), (5, (.box [(.vs 38)])), (7, (.box [(.vs 35)])), (6, (.box [(.vs 37)])), (3, (.box [(.sl 1 (v9.map Z1c) false)])), (10, (.box [(.clo 129 [(.ptr 9 0), (.ptr 4 0), (.ptr 5 0), (.ptr 7 0), (.ptr 6 0), (.ptr 3 0), (.ptr 10 0), (.ptr 8 0)])])), (8, (.box [(.vs 34)])), (40, (.vec 1 (List.map Z11 v7))), (38, (.vec 1 (List.map Z11 v11))), (35, (.vec 1 (List.map Z11 v13))), (37, (.vec 1 (List.map e_bool v12))), (34, (.vec 1 (List.map Z1c v8)))], (.tup []), [(9, (.box [(.int .i64 v32.1)])), (4, (.box [(.vs 40)])), (5, (.box [(.vs 38)])), (7, (.box [(.vs 35)])), (6, (.box [(.vs 37)])), (3, (.box [(.sl 1 (v32.2.1.map Z1c) false)])), (10, (.box [(.clo 129 [(.ptr 9 0), (.ptr 4 0), (.ptr 5 0), (.ptr 7 0), (.ptr 6 0), (.ptr 3 0), (.ptr 10 0), (.ptr 8 0)])])), (8, (.box [(.vs 34)])), (40, (.vec 1 (List.map Z11 v32.2.2.1))), (38, (.vec 1 (List.map Z11 v32.2.2.2.1))), (35, (.vec 1 (List.map Z11 v32.2.2.2.2.1))), (37, (.vec 1 (List.map e_bool v32.2.2.2.2.2.1))), (34, (.vec 1 (List.map Z1c v32.2.2.2.2.2.2)))], [40, 38, 35, 37, 34]⟩) (ar := [(.int .i64 v6)]) (caps := [(.ptr 9 0), (.ptr 4 0), (.ptr 5 0), (.ptr 7 0), (.ptr 6 0), (.ptr 3 0), (.ptr 10 0), (.ptr 8 0)]) (news := []) (forg := [40, 38, 35, 37, 34]) Tryz.call129 ((((((((((((((F129_ok K v6 v10 v9 v7 v11 v13 v12 v8 v32 hv32).sw 2000 9).sw 2001 4).sw 2002 5).sw 2003 7).sw 2004 6).sw 2005 3).sw 2006 10).sw 2007 8).sw 111 40).sw 110 38).sw 108 35).sw 107 37).sw 106 34) I I ⟨rfl, trivial⟩ I ⟨rfl, rfl, rfl, rfl, rfl, rfl, rfl, rfl, rfl, rfl, rfl, rfl, rfl, trivial⟩ I) I <| Zf ?_
      exact Zx (st' := ⟨[(4, (.ptr 4 0)), (8, (.ptr 8 0)), (10, (.ptr 10 0)), (25, (.int .i64 a0.Count)), (26, (.int .i64 v6))], [(3, (.box [(.sl 1 (v32.2.1.map Z1c) false)])), (4, (.box [(.vs 40)])), (5, (.box [(.vs 38)])), (6, (.box [(.vs 37)])), (7, (.box [(.vs 35)])), (8, (.box [(.vs 34)])), (9, (.box [(.int .i64 v32.1)])), (10, (.box [(.clo 129 [(.ptr 9 0), (.ptr 4 0), (.ptr 5 0), (.ptr 7 0), (.ptr 6 0), (.ptr 3 0), (.ptr 10 0), (.ptr 8 0)])])), (34, (.vec 1 (List.map Z1c v32.2.2.2.2.2.2))), (35, (.vec 1 (List.map Z11 v32.2.2.2.2.1))), (37, (.vec 1 (List.map e_bool v32.2.2.2.2.2.1))), (38, (.vec 1 (List.map Z11 v32.2.2.2.1))), (40, (.vec 1 (List.map Z11 v32.2.2.1)))]⟩) ⟨rfl, rfl, rfl, rfl, rfl, trivial⟩ ⟨rfl, rfl, rfl, rfl, rfl, rfl, rfl, rfl, rfl, rfl, rfl, rfl, rfl, trivial⟩ (J30 (v32.2.2.1, v32.2.2.2.2.2.2, v32.2.1, v32.1, v32.2.2.2.1, v32.2.2.2.2.2.1, v32.2.2.2.2.1) h)
     ·have h := hif.2 hc
      refine Z18 ?_
      exact Zx (st' := ⟨[(4, (.ptr 4 0)), (8, (.ptr 8 0)), (10, (.ptr 10 0)), (25, (.int .i64 a0.Count)), (26, (.int .i64 v6))], [(3, (.box [(.sl 1 (v9.map Z1c) false)])), (4, (.box [(.vs 40)])), (5, (.box [(.vs 38)])), (6, (.box [(.vs 37)])), (7, (.box [(.vs 35)])), (8, (.box [(.vs 34)])), (9, (.box [(.int .i64 v10)])), (10, (.box [(.clo 129 [(.ptr 9 0), (.ptr 4 0), (.ptr 5 0), (.ptr 7 0), (.ptr 6 0), (.ptr 3 0), (.ptr 10 0), (.ptr 8 0)])])), (34, (.vec 1 (List.map Z1c v8))), (35, (.vec 1 (List.map Z11 v13))), (37, (.vec 1 (List.map e_bool v12))), (38, (.vec 1 (List.map Z11 v11))), (40, (.vec 1 (List.map Z11 v7)))]⟩) ⟨rfl, rfl, rfl, rfl, rfl, trivial⟩ ⟨rfl, rfl, rfl, rfl, rfl, rfl, rfl, rfl, rfl, rfl, rfl, rfl, rfl, trivial⟩ (J30 (v7, v8, v9, v10, v11, v12, v13) h)
   ·have h := hif.2 hc
    refine AWp.exit <| At.thru ?_
    exact Zx (st' := ⟨[(8, (.ptr 8 0))], [(8, (.box [(.vs 34)])), (34, (.vec 1 (List.map Z1c v8)))]⟩) ⟨rfl, trivial⟩ ⟨rfl, rfl, trivial⟩ (J14 v8 h)
def F43_c9 (K : Nat) (v8 : (List (List Str))) : Option ((List (List Str))) :=
 some v8
def F43_j14 (K : Nat) (b11 : Int → (List (List Str)) → Option ((List (List Str)))) (v5 : Int) (v13 : (List (List Str))) : Option ((List (List Str))) :=
 b11 (IntKind.i64.wrap (v5 + 1)) v13
def F43_l7 (K : Nat) (v4 : (List (List Int))) (a0 : Zb) (c10 : (List (List Str)) → Option ((List (List Str)))) : Nat → Int → (List (List Str)) → Option ((List (List Str)))
 | 0, _, _ => none
 | k7 + 1, v5, v6 =>
  if (decide (v5 < (v4.length : Int))) = true then
   if (0 : Int) ≤ v5 ∧ v5 < v4.length then
    if (decide (((v4.getD v5.toNat []).length : Int) > 1)) = true then
     (F75 K a0 (v4.getD v5.toNat [])).bind fun v16 =>
      if v6.length + [v16].length ≤ 1073741824 then
       F43_j14 K (F43_l7 K v4 a0 c10 k7) v5 (v6 ++ [v16])
      else none
    else
     F43_j14 K (F43_l7 K v4 a0 c10 k7) v5 v6
   else none
  else
   c10 v6
def F43 (K : Nat) (a0 : Zb) : Option ((List (List Str))) :=
 (F33 K a0).bind fun v2 =>
  (F88 K v2).bind fun v4 =>
   F43_l7 K v4 a0 (F43_c9 K) K 0 []
theorem F43_ok (K : Nat) (a0 : Zb) (r : (List (List Str))) (h : F43 K a0 = some r) : ACall P 43 ⟨[(Z5 a0)], [], (.sl 1 (r.map Z1t) false), [], []⟩ := by
 refine Z1r Tryz.func43 Tryz.results43 rfl Tryz.ntmps43 rfl rfl rfl ?_
 intro E Q hP hN hro hret
 obtain ⟨P', nt', w0, F0, p0, S0, β0, ro0⟩ := E
 simp only at hP hN
 subst hP hN
 dsimp only [argT]
 unfold F43 at h
 refine Zh <| Za <| Z1 I (st_box (v := (Z5 a0)) (cs := (Z5 a0).cells) I I I I I) I <| Z1 I (Zj (v := (.sl 1 [] false)) I I) I <| Zf <| Zg <| Zh <| Za ?_
 refine Z1 I (Zj (v := (.sl 1 [] true)) I I) I <| Zf <| Zg <| Zh <| Zh <| Za <| Z1 I (st_loadPA (cs := (Z5 a0).cells) (vs := (Z5 a0).cells) I a44 I I I I) I ?_
 have ⟨v2, hv2, h⟩ := Z1g h
 refine Z1 I (Z1p (ar := [(Z5 a0)]) (caps := []) Tryz.call33 (F33_ok K a0 v2 hv2) I I ⟨rfl, trivial⟩ I) I ?_
 have ⟨v4, hv4, h⟩ := Z1g h
 refine Z1 I (Z1p (ar := [(Z1n v2)]) (caps := []) Tryz.call88 (F88_ok K v2 v4 hv4) I I ⟨rfl, trivial⟩ I) I <| Z1 I (stx_len (l := v4) (enc := Z1c) I s168 I) I <| Z1 I (Zi (v := (.int .i64 0)) I I) I <| Zf <| Zg <| AWp.ghost (st' := ⟨[(1, (.ptr 1 0)), (3, (.vs 3)), (8, (.sl 1 (v4.map Z1c) false)), (9, (.int .i64 (v4.length : Int))), (10, (.int .i64 0))], [(1, (.box (Z5 a0).cells)), (3, (.vec 1 (List.map Z1t ([] : List (List Str)))))]⟩) (fun a w h => (Z17 ⟨[(1, (.ptr 1 0)), (3, (.vs 3)), (8, (.sl 1 (v4.map Z1c) false)), (9, (.int .i64 (v4.length : Int))), (10, (.int .i64 0))], [(1, (.box (Z5 a0).cells)), (3, (.vec 1 (List.map Z1t ([] : List (List Str)))))]⟩ (ghost_own (k := 3) (m := 3) (sz := 1) I I a w (Z17 ⟨[(3, (.sl 1 [] true)), (1, (.ptr 1 0)), (8, (.sl 1 (v4.map Z1c) false)), (9, (.int .i64 (v4.length : Int))), (10, (.int .i64 0))], [(1, (.box (Z5 a0).cells))]⟩ h ⟨rfl, rfl, rfl, rfl, rfl, trivial⟩ ⟨rfl, trivial⟩)) ⟨rfl, rfl, rfl, rfl, rfl, trivial⟩ ⟨rfl, rfl, trivial⟩)) <| Z1w (st' := ⟨[(1, (.ptr 1 0)), (3, (.vs 3)), (8, (.sl 1 (v4.map Z1c) false)), (9, (.int .i64 (v4.length : Int))), (10, (.int .i64 0))], [(1, (.box (Z5 a0).cells)), (3, (.vec 1 (List.map Z1t [])))]⟩) ⟨rfl, rfl, rfl, rfl, rfl, trivial⟩ ⟨rfl, rfl, trivial⟩ ?_
 refine Z1j (V := Int × (List (List Str))) (X := (List (List Str))) (lp := fun k v => F43_l7 K v4 a0 (F43_c9 K) k v.1 v.2 = some r) (sh := fun v => ⟨[(1, (.ptr 1 0)), (3, (.vs 3)), (8, (.sl 1 (v4.map Z1c) false)), (9, (.int .i64 (v4.length : Int))), (10, (.int .i64 v.1))], [(1, (.box (Z5 a0).cells)), (3, (.vec 1 (List.map Z1t v.2)))]⟩) (x := fun v => F43_c9 K v = some r) (shx := fun v => ⟨[(3, (.vs 3))], [(3, (.vec 1 (List.map Z1t v)))]⟩) (k := K) (v := (0, [])) h ?_ ?_
 ·intro v h
  revert h
  revert v
  intro v8 h
  try dsimp only at h ⊢
  unfold F43_c9 at h
  refine Zg <| Zh <| Za <| Z1 I (Zi (v := (.vs 3)) I I) I <| Z1 I (Zj (v := (.vs 3)) I I) I <| Zf <| Zg <| Z1d ?_
  refine At.ghost (st' := ⟨[(2, (.sl 1 (v8.map Z1t) false))], []⟩) (fun a w h => (Z17 ⟨[(2, (.sl 1 (v8.map Z1t) false))], []⟩ (ghost_freeze (m := 3) (sz := 1) (es := (List.map Z1t v8)) a w (Z17 ⟨[(2, (.vs 3))], [(3, (.vec 1 (List.map Z1t v8)))]⟩ h ⟨rfl, trivial⟩ ⟨rfl, trivial⟩)) ⟨rfl, trivial⟩ trivial)) ?_
  have h := Option.some.inj h
  subst h
  refine (hret _ ?_).1
  exact ⟨[(.sl 1 (v8.map Z1t) false)], ⟨rfl, trivial⟩, rfl, trivial⟩
 ·intro N k7 v h IH7 J7
  obtain ⟨v5, v6⟩ := v
  try dsimp only at h IH7 J7 ⊢
  cases k7 with
  | zero => cases h
  | succ k7 =>
   rw [F43_l7] at h
   refine Zh <| Za <| Z1 I (st_cmp (k := .i64) (a := v5) (b := (v4.length : Int)) (c := (decide (v5 < (v4.length : Int)))) I I I I) I <| Zf <| Zg <| Zh ?_
   have hif := of_if h
   refine Z15 I (fun hc => ?_) (fun hc => ?_)
   ·have h := hif.1 hc
    refine Z18 <| Zg <| Zh <| AWp.block <| Zh <| Za ?_
    have ⟨hg12, h⟩ := Zv h
    refine Z1 I (Z1y (k := .i64) (l := v4) (enc := Z1c) (z := []) (n := v5) (cs := [(.sl 1 ((v4.getD v5.toNat []).map Z11) false)]) (full := false) I s168 I I hg12 I) I <| Z1 I (st_loadI (cs := [(.sl 1 ((v4.getD v5.toNat []).map Z11) false)]) (v := (.sl 1 ((v4.getD v5.toNat []).map Z11) false)) I o65 I I) I <| Z1 I (Zj (v := (.sl 1 ((v4.getD v5.toNat []).map Z11) false)) I I) I <| Zf <| Zg <| Zh <| Za <| Z1 I (Zi (v := (.sl 1 ((v4.getD v5.toNat []).map Z11) false)) I I) I ?_
    refine Z1 I (stx_len (l := (v4.getD v5.toNat [])) (enc := Z11) I s65 I) I <| Z1 I (st_cmp (k := .i64) (a := ((v4.getD v5.toNat []).length : Int)) (b := 1) (c := (decide (((v4.getD v5.toNat []).length : Int) > 1))) I I I I) I <| Zf <| Zg ?_
    refine AWp.join (V := (List (List Str))) (lp := fun v => F43_j14 K (F43_l7 K v4 a0 (F43_c9 K) k7) v5 v = some r) (sh := fun v => ⟨[(1, (.ptr 1 0)), (3, (.vs 3)), (8, (.sl 1 (v4.map Z1c) false)), (9, (.int .i64 (v4.length : Int))), (10, (.int .i64 v5))], [(1, (.box (Z5 a0).cells)), (3, (.vec 1 (List.map Z1t v)))]⟩) ?_ ?_
    ·intro v h
     revert h
     revert v
     intro v13 h
     try dsimp only at h ⊢
     unfold F43_j14 at h
     refine At.end <| Zg <| Za <| Z1 I (Z1s (k := .i64) (a := v5) (b := 1) (c := (IntKind.i64.wrap (v5 + 1))) I I I I) I <| Z1 I (Zi (v := (.int .i64 (IntKind.i64.wrap (v5 + 1)))) I I) I <| Zf ?_
     exact Zx (st' := ⟨[(1, (.ptr 1 0)), (3, (.vs 3)), (8, (.sl 1 (v4.map Z1c) false)), (9, (.int .i64 (v4.length : Int))), (10, (.int .i64 (IntKind.i64.wrap (v5 + 1))))], [(1, (.box (Z5 a0).cells)), (3, (.vec 1 (List.map Z1t v13)))]⟩) ⟨rfl, rfl, rfl, rfl, rfl, trivial⟩ ⟨rfl, rfl, trivial⟩ (IH7 _ ((IntKind.i64.wrap (v5 + 1)), v13) (Nat.lt_succ_self _) h)
    ·intro J14
     have hif := of_if h
     refine Z15 I (fun hc => ?_) (fun hc => ?_)
     ·have h := hif.1 hc
      refine Za <| Z1 I (Zi (v := (.vs 3)) I I) I <| Z1 I (st_loadPA (cs := (Z5 a0).cells) (vs := (Z5 a0).cells) I a44 I I I I) I <| Z1 I (Zi (v := (.sl 1 ((v4.getD v5.toNat []).map Z11) false)) I I) I ?_
      have ⟨v16, hv16, h⟩ := Z1g h
      refine Z1 I (Z1p (ar := [(Z5 a0), (.sl 1 ((v4.getD v5.toNat []).map Z11) false)]) (caps := []) Tryz.call75 (F75_ok K a0 (v4.getD v5.toNat []) v16 hv16) I I ⟨rfl, rfl, trivial⟩ I) I <| Z1 I (Z1i (vs := [(.sl 1 (v16.map Z14) false)]) (enc := Z1t) (l := [v16]) I el100 I I ⟨rfl, trivial⟩ I els_l_str I I I I) I ?_
      have ⟨hg17, h⟩ := Zv h
      refine Z1 I (st_append (m := 3) (enc := Z1t) (l := v6) (l' := [v16]) (src := (.vs 21)) (rd := [(21, (.vec 1 (List.map Z1t [v16])))]) I I el100 I u100 I I I I (oneRead I) els_l_str hg17) I <| Z1 I (Zj (v := (.vs 3)) I I) I <| Zf ?_
      exact Zx (st' := ⟨[(1, (.ptr 1 0)), (3, (.vs 3)), (8, (.sl 1 (v4.map Z1c) false)), (9, (.int .i64 (v4.length : Int))), (10, (.int .i64 v5))], [(1, (.box (Z5 a0).cells)), (3, (.vec 1 (List.map Z1t (v6 ++ [v16]))))]⟩) ⟨rfl, rfl, rfl, rfl, rfl, trivial⟩ ⟨rfl, rfl, trivial⟩ (J14 (v6 ++ [v16]) h)
     ·have h := hif.2 hc
      refine Z18 ?_
      exact Zx (st' := ⟨[(1, (.ptr 1 0)), (3, (.vs 3)), (8, (.sl 1 (v4.map Z1c) false)), (9, (.int .i64 (v4.length : Int))), (10, (.int .i64 v5))], [(1, (.box (Z5 a0).cells)), (3, (.vec 1 (List.map Z1t v6)))]⟩) ⟨rfl, rfl, rfl, rfl, rfl, trivial⟩ ⟨rfl, rfl, trivial⟩ (J14 v6 h)
   ·have h := hif.2 hc
    refine AWp.exit <| At.thru ?_
    exact Zx (st' := ⟨[(3, (.vs 3))], [(3, (.vec 1 (List.map Z1t v6)))]⟩) ⟨rfl, trivial⟩ ⟨rfl, trivial⟩ (J7 v6 h)
def F44_c6 (K : Nat) (v5 : (List (List Str))) : Option ((List (List Str))) :=
 some v5
def F44_j11 (K : Nat) (b8 : Int → (List (List Str)) → (List Str) → Option ((List (List Str)))) (v1 : Int) (v9 : (List (List Str))) (v10 : (List Str)) : Option ((List (List Str))) :=
 b8 (IntKind.i64.wrap (v1 + 1)) v9 v10
def F44_j27 (K : Nat) (b8 : Int → (List (List Str)) → (List Str) → Option ((List (List Str)))) (v1 : Int) (v3 : (List Str)) (v22 : (List Str)) (v26 : (List (List Str))) : Option ((List (List Str))) :=
 F44_j11 K b8 v1 v26 (v3 ++ v22)
def F44_c23 (K : Nat) (v3 : (List Str)) (v2 : (List (List Str))) (b8 : Int → (List (List Str)) → (List Str) → Option ((List (List Str)))) (v1 : Int) (v22 : (List Str)) : Option ((List (List Str))) :=
 if v3.length + v22.length ≤ 1073741824 then
  if (decide ((v22.length : Int) > 1)) = true then
   if v2.length + [v22].length ≤ 1073741824 then
    F44_j27 K b8 v1 v3 v22 (v2 ++ [v22])
   else none
  else
   F44_j27 K b8 v1 v3 v22 v2
 else none
def F44_j31 (K : Nat) (b29 : Int → (List Str) → Option ((List (List Str)))) (v19 : Int) (v30 : (List Str)) : Option ((List (List Str))) :=
 b29 (IntKind.i64.wrap (v19 + 1)) v30
def F44_j38 (K : Nat) (b29 : Int → (List Str) → Option ((List (List Str)))) (v19 : Int) (v37 : (List Str)) : Option ((List (List Str))) :=
 F44_j31 K b29 v19 v37
def F44_l21 (K : Nat) (a0 : Zb) (v16 : (List Str)) (v18 : (List Str)) (c24 : (List Str) → Option ((List (List Str)))) : Nat → Int → (List Str) → Option ((List (List Str)))
 | 0, _, _ => none
 | k21 + 1, v19, v20 =>
  if (decide (v19 < (a0.Services.length : Int))) = true then
   if (0 : Int) ≤ v19 ∧ v19 < a0.Services.length then
    (F38 K v16 (a0.Services.getD v19.toNat Z4).Name).bind fun v34 =>
     if v34 = true then
      (F38 K v18 (a0.Services.getD v19.toNat Z4).Name).bind fun v36 =>
       if v36 = true then
        if v20.length + [(a0.Services.getD v19.toNat Z4).Name].length ≤ 1073741824 then
         F44_j38 K (F44_l21 K a0 v16 v18 c24 k21) v19 (v20 ++ [(a0.Services.getD v19.toNat Z4).Name])
        else none
       else
        F44_j38 K (F44_l21 K a0 v16 v18 c24 k21) v19 v20
     else
      F44_j31 K (F44_l21 K a0 v16 v18 c24 k21) v19 v20
   else none
  else
   c24 v20
def F44_l4 (K : Nat) (a0 : Zb) (c7 : (List (List Str)) → Option ((List (List Str)))) : Nat → Int → (List (List Str)) → (List Str) → Option ((List (List Str)))
 | 0, _, _, _ => none
 | k4 + 1, v1, v2, v3 =>
  if (decide (v1 < (a0.Services.length : Int))) = true then
   if (0 : Int) ≤ v1 ∧ v1 < a0.Services.length then
    (F38 K v3 (a0.Services.getD v1.toNat Z4).Name).bind fun v14 =>
     if v14 = true then
      F44_j11 K (F44_l4 K a0 c7 k4) v1 v2 v3
     else
      (F37 K a0 (a0.Services.getD v1.toNat Z4).Name false).bind fun v16 =>
       (F37 K a0 (a0.Services.getD v1.toNat Z4).Name true).bind fun v18 =>
        F44_l21 K a0 v16 v18 (F44_c23 K v3 v2 (F44_l4 K a0 c7 k4) v1) K (IntKind.i64.wrap (v1 + 1)) [(a0.Services.getD v1.toNat Z4).Name]
   else none
  else
   c7 v2
def F44 (K : Nat) (a0 : Zb) : Option ((List (List Str))) :=
 F44_l4 K a0 (F44_c6 K) K 0 [] []
theorem F44_ok (K : Nat) (a0 : Zb) (r : (List (List Str))) (h : F44 K a0 = some r) : ACall P 44 ⟨[(Z5 a0)], [], (.sl 1 (r.map Z1t) false), [], []⟩ := by
 refine Z1r Tryz.func44 Tryz.results44 rfl Tryz.ntmps44 rfl rfl rfl ?_
 intro E Q hP hN hro hret
 obtain ⟨P', nt', w0, F0, p0, S0, β0, ro0⟩ := E
 simp only at hP hN
 subst hP hN
 dsimp only [argT]
 unfold F44 at h
 refine Zh <| Za <| Z1 I (st_box (v := (Z5 a0)) (cs := (Z5 a0).cells) I I I I I) I <| Z1 I (Zj (v := (.sl 1 [] false)) I I) I <| Zf <| Zg <| Zh <| Za ?_
 refine Z1 I (Zj (v := (.sl 1 [] true)) I I) I <| Zf <| Zg <| Zh <| Za <| Z1 I (Zj (v := (.sl 1 [] true)) I I) I <| Zf <| Zg ?_
 refine Zh <| Zh <| Za <| Z1 I (Zj (v := (.int .i64 0)) I I) I <| Zf <| Zg <| AWp.ghost (st' := ⟨[(1, (.ptr 1 0)), (3, (.vs 3)), (4, (.vs 4)), (5, (.int .i64 0))], [(1, (.box (Z5 a0).cells)), (3, (.vec 1 (List.map Z1t ([] : List (List Str))))), (4, (.vec 1 (List.map Z14 ([] : List Str))))]⟩) (fun a w h => (Z17 ⟨[(1, (.ptr 1 0)), (3, (.vs 3)), (4, (.vs 4)), (5, (.int .i64 0))], [(1, (.box (Z5 a0).cells)), (3, (.vec 1 (List.map Z1t ([] : List (List Str))))), (4, (.vec 1 (List.map Z14 ([] : List Str))))]⟩ (ghost_own (k := 4) (m := 4) (sz := 1) I I a w (Z17 ⟨[(4, (.sl 1 [] true)), (1, (.ptr 1 0)), (3, (.vs 3)), (5, (.int .i64 0))], [(1, (.box (Z5 a0).cells)), (3, (.vec 1 (List.map Z1t ([] : List (List Str)))))]⟩ (Z17 ⟨[(1, (.ptr 1 0)), (3, (.vs 3)), (4, (.sl 1 [] true)), (5, (.int .i64 0))], [(1, (.box (Z5 a0).cells)), (3, (.vec 1 (List.map Z1t ([] : List (List Str)))))]⟩ (ghost_own (k := 3) (m := 3) (sz := 1) I I a w (Z17 ⟨[(3, (.sl 1 [] true)), (1, (.ptr 1 0)), (4, (.sl 1 [] true)), (5, (.int .i64 0))], [(1, (.box (Z5 a0).cells))]⟩ h ⟨rfl, rfl, rfl, rfl, trivial⟩ ⟨rfl, trivial⟩)) ⟨rfl, rfl, rfl, rfl, trivial⟩ ⟨rfl, rfl, trivial⟩) ⟨rfl, rfl, rfl, rfl, trivial⟩ ⟨rfl, rfl, trivial⟩)) ⟨rfl, rfl, rfl, rfl, trivial⟩ ⟨rfl, rfl, rfl, trivial⟩)) <| Z1w (st' := ⟨[(1, (.ptr 1 0)), (3, (.vs 3)), (4, (.vs 4)), (5, (.int .i64 0))], [(1, (.box (Z5 a0).cells)), (3, (.vec 1 (List.map Z1t []))), (4, (.vec 1 (List.map Z14 [])))]⟩) ⟨rfl, rfl, rfl, rfl, trivial⟩ ⟨rfl, rfl, rfl, trivial⟩ ?_
 refine Z1j (V := Int × (List (List Str)) × (List Str)) (X := (List (List Str))) (lp := fun k v => F44_l4 K a0 (F44_c6 K) k v.1 v.2.1 v.2.2 = some r) (sh := fun v => ⟨[(1, (.ptr 1 0)), (3, (.vs 3)), (4, (.vs 4)), (5, (.int .i64 v.1))], [(1, (.box (Z5 a0).cells)), (3, (.vec 1 (List.map Z1t v.2.1))), (4, (.vec 1 (List.map Z14 v.2.2)))]⟩) (x := fun v => F44_c6 K v = some r) (shx := fun v => ⟨[(3, (.vs 3))], [(3, (.vec 1 (List.map Z1t v)))]⟩) (k := K) (v := (0, [], [])) h ?_ ?_
 ·intro v h
  revert h
  revert v
  intro v5 h
  try dsimp only at h ⊢
  unfold F44_c6 at h
  refine Zg <| Zh <| Za <| Z1 I (Zi (v := (.vs 3)) I I) I <| Z1 I (Zj (v := (.vs 3)) I I) I <| Zf <| Zg <| Z1d ?_
  refine At.ghost (st' := ⟨[(2, (.sl 1 (v5.map Z1t) false))], []⟩) (fun a w h => (Z17 ⟨[(2, (.sl 1 (v5.map Z1t) false))], []⟩ (ghost_freeze (m := 3) (sz := 1) (es := (List.map Z1t v5)) a w (Z17 ⟨[(2, (.vs 3))], [(3, (.vec 1 (List.map Z1t v5)))]⟩ h ⟨rfl, trivial⟩ ⟨rfl, trivial⟩)) ⟨rfl, trivial⟩ trivial)) ?_
  have h := Option.some.inj h
  subst h
  refine (hret _ ?_).1
  exact ⟨[(.sl 1 (v5.map Z1t) false)], ⟨rfl, trivial⟩, rfl, trivial⟩
 ·intro N k4 v h IH4 J4
  obtain ⟨v1, v2, v3⟩ := v
  try dsimp only at h IH4 J4 ⊢
  cases k4 with
  | zero => cases h
  | succ k4 =>
   rw [F44_l4] at h
   refine Zh <| Zh <| Za <| Z1 I (Zi (v := (.int .i64 v1)) I I) I <| Z1 I (Zq (m := 1) (o := 0) I f44_0 I I) I <| Z1 I (Zs (cs := (Z5 a0).cells) (v := (.sl 4 (a0.Services.map Z2) false)) I o41 I I I) I <| Z1 I (stx_len (l := a0.Services) (enc := Z2) I s41 I) I <| Z1 I (st_cmp (k := .i64) (a := v1) (b := (a0.Services.length : Int)) (c := (decide (v1 < (a0.Services.length : Int)))) I I I I) I ?_
   refine Zf <| Zg ?_
   have hif := of_if h
   refine Z15 I (fun hc => ?_) (fun hc => ?_)
   ·have h := hif.1 hc
    refine Z18 <| Zg <| Zh ?_
    refine AWp.blockJoin (V := (List (List Str)) × (List Str)) (lp := fun v => F44_j11 K (F44_l4 K a0 (F44_c6 K) k4) v1 v.1 v.2 = some r) (sh := fun v => ⟨[(1, (.ptr 1 0)), (3, (.vs 3)), (4, (.vs 4)), (5, (.int .i64 v1))], [(1, (.box (Z5 a0).cells)), (3, (.vec 1 (List.map Z1t v.1))), (4, (.vec 1 (List.map Z14 v.2)))]⟩) ?_ ?_
    ·intro v h
     obtain ⟨v9, v10⟩ := v
     try dsimp only at h ⊢
     unfold F44_j11 at h
     refine Zg <| Za <| Z1 I (Zi (v := (.int .i64 v1)) I I) I <| Z1 I (Z1s (k := .i64) (a := v1) (b := 1) (c := (IntKind.i64.wrap (v1 + 1))) I I I I) I <| Z1 I (Zj (v := (.int .i64 (IntKind.i64.wrap (v1 + 1)))) I I) I <| Zf ?_
     exact Zx (st' := ⟨[(1, (.ptr 1 0)), (3, (.vs 3)), (4, (.vs 4)), (5, (.int .i64 (IntKind.i64.wrap (v1 + 1))))], [(1, (.box (Z5 a0).cells)), (3, (.vec 1 (List.map Z1t v9))), (4, (.vec 1 (List.map Z14 v10)))]⟩) ⟨rfl, rfl, rfl, rfl, trivial⟩ ⟨rfl, rfl, rfl, trivial⟩ (IH4 _ ((IntKind.i64.wrap (v1 + 1)), v9, v10) (Nat.lt_succ_self _) h)
    ·intro J11
     refine Zh <| Za <| Z1 I (Zq (m := 1) (o := 0) I f44_0 I I) I <| Z1 I (Zs (cs := (Z5 a0).cells) (v := (.sl 4 (a0.Services.map Z2) false)) I o41 I I I) I <| Z1 I (Zi (v := (.int .i64 v1)) I I) I ?_
     have ⟨hg12, h⟩ := Zv h
     refine Z1 I (Z1y (k := .i64) (l := a0.Services) (enc := Z2) (z := Z4) (n := v1) (cs := (Z2 (a0.Services.getD v1.toNat Z4)).cells) (full := false) I s41 I I hg12 I) I <| Z1 I (st_fieldI (cs := (Z2 (a0.Services.getD v1.toNat Z4)).cells) (ds := (Z2 (a0.Services.getD v1.toNat Z4)).cells) I f68_0 I I I) I <| Z1 I (st_loadI (cs := (Z2 (a0.Services.getD v1.toNat Z4)).cells) (v := (.str (a0.Services.getD v1.toNat Z4).Name)) I o9 I I) I <| Z1 I (Zj (v := (.str (a0.Services.getD v1.toNat Z4).Name)) I I) I <| Zf <| Zg <| Zh <| Zh ?_
     refine Za <| Z1 I (Zi (v := (.vs 4)) I I) I <| Z1 I (Zi (v := (.str (a0.Services.getD v1.toNat Z4).Name)) I I) I ?_
     have ⟨v14, hv14, h⟩ := Z1g h
     refine Z1 I (st_callB (rd := [(4, (.vec 1 (List.map Z14 v3)))]) (ar := [(.vs 4), (.str (a0.Services.getD v1.toNat Z4).Name)]) (caps := []) Tryz.call38 (F38_ok K v3 (a0.Services.getD v1.toNat Z4).Name v14 hv14) I I ⟨rfl, rfl, trivial⟩ (subS_mem ⟨rfl, trivial⟩) I I I) I <| Zf <| Zg ?_
     have hif := of_if h
     refine Z15 I (fun hc => ?_) (fun hc => ?_)
     ·have h := hif.1 hc
      refine AWp.exit <| At.thru <| At.out ?_
      exact Zx (st' := ⟨[(1, (.ptr 1 0)), (3, (.vs 3)), (4, (.vs 4)), (5, (.int .i64 v1))], [(1, (.box (Z5 a0).cells)), (3, (.vec 1 (List.map Z1t v2))), (4, (.vec 1 (List.map Z14 v3)))]⟩) ⟨rfl, rfl, rfl, rfl, trivial⟩ ⟨rfl, rfl, rfl, trivial⟩ (J11 (v2, v3) h)
     ·have h := hif.2 hc
      refine Z18 <| Zg <| Zh <| Za <| Z1 I (Zi (v := (.str (a0.Services.getD v1.toNat Z4).Name)) I I) I <| Z1 I (Z1i (vs := [(.str (a0.Services.getD v1.toNat Z4).Name)]) (enc := Z14) (l := [(a0.Services.getD v1.toNat Z4).Name]) I el73 I I ⟨rfl, trivial⟩ I els_str I I I I) I <| Z1 I (Zj (v := (.vs 29)) I I) I <| Zf ?_
      refine Zg <| Zh <| Za <| Z1 I (st_loadPA (cs := (Z5 a0).cells) (vs := (Z5 a0).cells) I a44 I I I I) I <| Z1 I (Zi (v := (.str (a0.Services.getD v1.toNat Z4).Name)) I I) I ?_
      have ⟨v16, hv16, h⟩ := Z1g h
      refine Z1 I (Z1p (ar := [(Z5 a0), (.str (a0.Services.getD v1.toNat Z4).Name), (.bool false)]) (caps := []) Tryz.call37 (F37_ok K a0 (a0.Services.getD v1.toNat Z4).Name false v16 hv16) I I ⟨rfl, rfl, rfl, trivial⟩ I) I <| Z1 I (Zj (v := (.sl 1 (v16.map Z14) false)) I I) I <| Zf <| Zg <| Zh <| Za <| Z1 I (st_loadPA (cs := (Z5 a0).cells) (vs := (Z5 a0).cells) I a44 I I I I) I <| Z1 I (Zi (v := (.str (a0.Services.getD v1.toNat Z4).Name)) I I) I ?_
      have ⟨v18, hv18, h⟩ := Z1g h
      refine Z1 I (Z1p (ar := [(Z5 a0), (.str (a0.Services.getD v1.toNat Z4).Name), (.bool true)]) (caps := []) Tryz.call37 (F37_ok K a0 (a0.Services.getD v1.toNat Z4).Name true v18 hv18) I I ⟨rfl, rfl, rfl, trivial⟩ I) I <| Z1 I (Zj (v := (.sl 1 (v18.map Z14) false)) I I) I <| Zf <| Zg <| Zh <| Zh <| Za <| Z1 I (Zi (v := (.int .i64 v1)) I I) I ?_
      refine Z1 I (Z1s (k := .i64) (a := v1) (b := 1) (c := (IntKind.i64.wrap (v1 + 1))) I I I I) I <| Z1 I (Zj (v := (.int .i64 (IntKind.i64.wrap (v1 + 1)))) I I) I <| Zf <| Zg <| AWp.ghost (st' := ⟨[(1, (.ptr 1 0)), (3, (.vs 3)), (4, (.vs 4)), (5, (.int .i64 v1)), (7, (.vs 7)), (8, (.sl 1 (v16.map Z14) false)), (9, (.sl 1 (v18.map Z14) false)), (10, (.int .i64 (IntKind.i64.wrap (v1 + 1))))], [(1, (.box (Z5 a0).cells)), (3, (.vec 1 (List.map Z1t v2))), (4, (.vec 1 (List.map Z14 v3))), (7, (.vec 1 (List.map Z14 [(a0.Services.getD v1.toNat Z4).Name])))]⟩) (fun a w h => (Z17 ⟨[(1, (.ptr 1 0)), (3, (.vs 3)), (4, (.vs 4)), (5, (.int .i64 v1)), (7, (.vs 7)), (8, (.sl 1 (v16.map Z14) false)), (9, (.sl 1 (v18.map Z14) false)), (10, (.int .i64 (IntKind.i64.wrap (v1 + 1))))], [(1, (.box (Z5 a0).cells)), (3, (.vec 1 (List.map Z1t v2))), (4, (.vec 1 (List.map Z14 v3))), (7, (.vec 1 (List.map Z14 [(a0.Services.getD v1.toNat Z4).Name])))]⟩ (ghost_sw (a := 29) (b := 7) I I a w (Z17 ⟨[(1, (.ptr 1 0)), (3, (.vs 3)), (4, (.vs 4)), (5, (.int .i64 v1)), (7, (.vs 29)), (8, (.sl 1 (v16.map Z14) false)), (9, (.sl 1 (v18.map Z14) false)), (10, (.int .i64 (IntKind.i64.wrap (v1 + 1))))], [(1, (.box (Z5 a0).cells)), (3, (.vec 1 (List.map Z1t v2))), (4, (.vec 1 (List.map Z14 v3))), (29, (.vec 1 (List.map Z14 [(a0.Services.getD v1.toNat Z4).Name])))]⟩ h ⟨rfl, rfl, rfl, rfl, rfl, rfl, rfl, rfl, trivial⟩ ⟨rfl, rfl, rfl, rfl, trivial⟩)) ⟨rfl, rfl, rfl, rfl, rfl, rfl, rfl, rfl, trivial⟩ ⟨rfl, rfl, rfl, rfl, trivial⟩)) <| Z1w (st' := ⟨[(1, (.ptr 1 0)), (3, (.vs 3)), (4, (.vs 4)), (5, (.int .i64 v1)), (7, (.vs 7)), (8, (.sl 1 (v16.map Z14) false)), (9, (.sl 1 (v18.map Z14) false)), (10, (.int .i64 (IntKind.i64.wrap (v1 + 1))))], [(1, (.box (Z5 a0).cells)), (3, (.vec 1 (List.map Z1t v2))), (4, (.vec 1 (List.map Z14 v3))), (7, (.vec 1 (List.map Z14 [(a0.Services.getD v1.toNat Z4).Name])))]⟩) ⟨rfl, rfl, rfl, rfl, rfl, rfl, rfl, rfl, trivial⟩ ⟨rfl, rfl, rfl, rfl, trivial⟩ ?_
      refine Z1j (V := Int × (List Str)) (X := (List Str)) (lp := fun k v => F44_l21 K a0 v16 v18 (F44_c23 K v3 v2 (F44_l4 K a0 (F44_c6 K) k4) v1) k v.1 v.2 = some r) (sh := fun v => ⟨[(1, (.ptr 1 0)), (3, (.vs 3)), (4, (.vs 4)), (5, (.int .i64 v1)), (7, (.vs 7)), (8, (.sl 1 (v16.map Z14) false)), (9, (.sl 1 (v18.map Z14) false)), (10, (.int .i64 v.1))], [(1, (.box (Z5 a0).cells)), (3, (.vec 1 (List.map Z1t v2))), (4, (.vec 1 (List.map Z14 v3))), (7, (.vec 1 (List.map Z14 v.2)))]⟩) (x := fun v => F44_c23 K v3 v2 (F44_l4 K a0 (F44_c6 K) k4) v1 v = some r) (shx := fun v => ⟨[(1, (.ptr 1 0)), (3, (.vs 3)), (4, (.vs 4)), (5, (.int .i64 v1)), (7, (.vs 7))], [(1, (.box (Z5 a0).cells)), (3, (.vec 1 (List.map Z1t v2))), (4, (.vec 1 (List.map Z14 v3))), (7, (.vec 1 (List.map Z14 v)))]⟩) (k := K) (v := ((IntKind.i64.wrap (v1 + 1)), [(a0.Services.getD v1.toNat Z4).Name])) h ?_ ?_
      ·intro v h
       revert h
       revert v
       intro v22 h
       try dsimp only at h ⊢
       unfold F44_c23 at h
       refine Zg <| Zh <| Za <| Z1 I (Zi (v := (.vs 4)) I I) I <| Z1 I (Zi (v := (.vs 7)) I I) I ?_
       have ⟨hg25, h⟩ := Zv h
       refine Z1 I (st_append (m := 4) (enc := Z14) (l := v3) (l' := v22) (src := (.vs 7)) (rd := [(7, (.vec 1 (List.map Z14 v22)))]) I I el73 I u73 I I I I (oneRead I) els_str hg25) I <| Z1 I (Zj (v := (.vs 4)) I I) I <| Zf <| Zg <| Zh <| Za <| Z1 I (Zi (v := (.vs 7)) I I) I <| Z1 I (stx_lenV (l := v22) (enc := Z14) I u73 I I) I ?_
       refine Z1 I (st_cmp (k := .i64) (a := (v22.length : Int)) (b := 1) (c := (decide ((v22.length : Int) > 1))) I I I I) I <| Zf <| Zg ?_
       refine AWp.join (V := (List (List Str))) (lp := fun v => F44_j27 K (F44_l4 K a0 (F44_c6 K) k4) v1 v3 v22 v = some r) (sh := fun v => ⟨[(1, (.ptr 1 0)), (3, (.vs 3)), (4, (.vs 4)), (5, (.int .i64 v1))], [(1, (.box (Z5 a0).cells)), (3, (.vec 1 (List.map Z1t v))), (4, (.vec 1 (List.map Z14 (v3 ++ v22))))]⟩) ?_ ?_
       ·intro v h
        revert h
        revert v
        intro v26 h
        try dsimp only at h ⊢
        unfold F44_j27 at h
        refine At.end ?_
        exact Zx (st' := ⟨[(1, (.ptr 1 0)), (3, (.vs 3)), (4, (.vs 4)), (5, (.int .i64 v1))], [(1, (.box (Z5 a0).cells)), (3, (.vec 1 (List.map Z1t v26))), (4, (.vec 1 (List.map Z14 (v3 ++ v22))))]⟩) ⟨rfl, rfl, rfl, rfl, trivial⟩ ⟨rfl, rfl, rfl, trivial⟩ (J11 (v26, (v3 ++ v22)) h)
       ·intro J27
        have hif := of_if h
        refine Z15 I (fun hc => ?_) (fun hc => ?_)
        ·have h := hif.1 hc
         refine Za <| Z1 I (Zi (v := (.vs 3)) I I) I <| Z1 I (Zi (v := (.vs 7)) I I) I <| AOps.ghost (st' := ⟨[(1, (.ptr 1 0)), (3, (.vs 3)), (4, (.vs 4)), (5, (.int .i64 v1)), (69, (.vs 3)), (70, (.sl 1 (v22.map Z14) false))], [(1, (.box (Z5 a0).cells)), (3, (.vec 1 (List.map Z1t v2))), (4, (.vec 1 (List.map Z14 (v3 ++ v22))))]⟩) (fun a w h => (Z17 ⟨[(1, (.ptr 1 0)), (3, (.vs 3)), (4, (.vs 4)), (5, (.int .i64 v1)), (69, (.vs 3)), (70, (.sl 1 (v22.map Z14) false))], [(1, (.box (Z5 a0).cells)), (3, (.vec 1 (List.map Z1t v2))), (4, (.vec 1 (List.map Z14 (v3 ++ v22))))]⟩ (ghost_freeze (m := 7) (sz := 1) (es := (List.map Z14 v22)) a w (Z17 ⟨[(1, (.ptr 1 0)), (3, (.vs 3)), (4, (.vs 4)), (5, (.int .i64 v1)), (69, (.vs 3)), (70, (.vs 7))], [(7, (.vec 1 (List.map Z14 v22))), (1, (.box (Z5 a0).cells)), (3, (.vec 1 (List.map Z1t v2))), (4, (.vec 1 (List.map Z14 (v3 ++ v22))))]⟩ h ⟨rfl, rfl, rfl, rfl, rfl, rfl, trivial⟩ ⟨rfl, rfl, rfl, rfl, trivial⟩)) ⟨rfl, rfl, rfl, rfl, rfl, rfl, trivial⟩ ⟨rfl, rfl, rfl, trivial⟩)) <| Z1 I (Z1i (vs := [(.sl 1 (v22.map Z14) false)]) (enc := Z1t) (l := [v22]) I el100 I I ⟨rfl, trivial⟩ I els_l_str I I I I) I ?_
         have ⟨hg28, h⟩ := Zv h
         refine Z1 I (st_append (m := 3) (enc := Z1t) (l := v2) (l' := [v22]) (src := (.vs 71)) (rd := [(71, (.vec 1 (List.map Z1t [v22])))]) I I el100 I u100 I I I I (oneRead I) els_l_str hg28) I <| Z1 I (Zj (v := (.vs 3)) I I) I <| Zf ?_
         exact Zx (st' := ⟨[(1, (.ptr 1 0)), (3, (.vs 3)), (4, (.vs 4)), (5, (.int .i64 v1))], [(1, (.box (Z5 a0).cells)), (3, (.vec 1 (List.map Z1t (v2 ++ [v22])))), (4, (.vec 1 (List.map Z14 (v3 ++ v22))))]⟩) ⟨rfl, rfl, rfl, rfl, trivial⟩ ⟨rfl, rfl, rfl, trivial⟩ (J27 (v2 ++ [v22]) h)
        ·have h := hif.2 hc
         refine Z18 ?_
         exact Zx (st' := ⟨[(1, (.ptr 1 0)), (3, (.vs 3)), (4, (.vs 4)), (5, (.int .i64 v1))], [(1, (.box (Z5 a0).cells)), (3, (.vec 1 (List.map Z1t v2))), (4, (.vec 1 (List.map Z14 (v3 ++ v22))))]⟩) ⟨rfl, rfl, rfl, rfl, trivial⟩ ⟨rfl, rfl, rfl, trivial⟩ (J27 v2 h)
      ·intro N k21 v h IH21 J21
       obtain ⟨v19, v20⟩ := v
       try dsimp only at h IH21 J21 ⊢
       cases k21 with
       | zero => cases h
       | succ k21 =>
        rw [F44_l21] at h
        refine Zh <| Zh <| Za <| Z1 I (Zi (v := (.int .i64 v19)) I I) I <| Z1 I (Zq (m := 1) (o := 0) I f44_0 I I) I <| Z1 I (Zs (cs := (Z5 a0).cells) (v := (.sl 4 (a0.Services.map Z2) false)) I o41 I I I) I <| Z1 I (stx_len (l := a0.Services) (enc := Z2) I s41 I) I <| Z1 I (st_cmp (k := .i64) (a := v19) (b := (a0.Services.length : Int)) (c := (decide (v19 < (a0.Services.length : Int)))) I I I I) I ?_
        refine Zf <| Zg ?_
        have hif := of_if h
        refine Z15 I (fun hc => ?_) (fun hc => ?_)
        ·have h := hif.1 hc
         refine Z18 <| Zg <| Zh ?_
         refine AWp.blockJoin (V := (List Str)) (lp := fun v => F44_j31 K (F44_l21 K a0 v16 v18 (F44_c23 K v3 v2 (F44_l4 K a0 (F44_c6 K) k4) v1) k21) v19 v = some r) (sh := fun v => ⟨[(1, (.ptr 1 0)), (3, (.vs 3)), (4, (.vs 4)), (5, (.int .i64 v1)), (7, (.vs 7)), (8, (.sl 1 (v16.map Z14) false)), (9, (.sl 1 (v18.map Z14) false)), (10, (.int .i64 v19))], [(1, (.box (Z5 a0).cells)), (3, (.vec 1 (List.map Z1t v2))), (4, (.vec 1 (List.map Z14 v3))), (7, (.vec 1 (List.map Z14 v)))]⟩) ?_ ?_
         ·intro v h
          revert h
          revert v
          intro v30 h
          try dsimp only at h ⊢
          unfold F44_j31 at h
          refine Zg <| Za <| Z1 I (Zi (v := (.int .i64 v19)) I I) I <| Z1 I (Z1s (k := .i64) (a := v19) (b := 1) (c := (IntKind.i64.wrap (v19 + 1))) I I I I) I <| Z1 I (Zj (v := (.int .i64 (IntKind.i64.wrap (v19 + 1)))) I I) I <| Zf ?_
          exact Zx (st' := ⟨[(1, (.ptr 1 0)), (3, (.vs 3)), (4, (.vs 4)), (5, (.int .i64 v1)), (7, (.vs 7)), (8, (.sl 1 (v16.map Z14) false)), (9, (.sl 1 (v18.map Z14) false)), (10, (.int .i64 (IntKind.i64.wrap (v19 + 1))))], [(1, (.box (Z5 a0).cells)), (3, (.vec 1 (List.map Z1t v2))), (4, (.vec 1 (List.map Z14 v3))), (7, (.vec 1 (List.map Z14 v30)))]⟩) ⟨rfl, rfl, rfl, rfl, rfl, rfl, rfl, rfl, trivial⟩ ⟨rfl, rfl, rfl, rfl, trivial⟩ (IH21 _ ((IntKind.i64.wrap (v19 + 1)), v30) (Nat.lt_succ_self _) h)
         ·intro J31
          refine Zh <| Za <| Z1 I (Zq (m := 1) (o := 0) I f44_0 I I) I <| Z1 I (Zs (cs := (Z5 a0).cells) (v := (.sl 4 (a0.Services.map Z2) false)) I o41 I I I) I <| Z1 I (Zi (v := (.int .i64 v19)) I I) I ?_
          have ⟨hg32, h⟩ := Zv h
          refine Z1 I (Z1y (k := .i64) (l := a0.Services) (enc := Z2) (z := Z4) (n := v19) (cs := (Z2 (a0.Services.getD v19.toNat Z4)).cells) (full := false) I s41 I I hg32 I) I <| Z1 I (st_fieldI (cs := (Z2 (a0.Services.getD v19.toNat Z4)).cells) (ds := (Z2 (a0.Services.getD v19.toNat Z4)).cells) I f68_0 I I I) I <| Z1 I (st_loadI (cs := (Z2 (a0.Services.getD v19.toNat Z4)).cells) (v := (.str (a0.Services.getD v19.toNat Z4).Name)) I o9 I I) I <| Z1 I (Zj (v := (.str (a0.Services.getD v19.toNat Z4).Name)) I I) I <| Zf <| Zg <| Zh <| Za ?_
          refine Z1 I (Zi (v := (.sl 1 (v16.map Z14) false)) I I) I <| Z1 I (Zi (v := (.str (a0.Services.getD v19.toNat Z4).Name)) I I) I ?_
          have ⟨v34, hv34, h⟩ := Z1g h
          refine Z1 I (Z1p (ar := [(.sl 1 (v16.map Z14) false), (.str (a0.Services.getD v19.toNat Z4).Name)]) (caps := []) Tryz.call38 (F38_ok K v16 (a0.Services.getD v19.toNat Z4).Name v34 hv34) I I ⟨rfl, rfl, trivial⟩ I) I <| Z1 I (Zi (v := (.bool v34)) I I) I ?_
          have hif := of_if h
          refine AOps.split (fun hc => ?_) (fun hc => ?_)
          ·have h := hif.1 hc
           refine Z1b I I I I (Zi (v := (.sl 1 (v18.map Z14) false)) I I) I <| Z1b I I I I (Zi (v := (.str (a0.Services.getD v19.toNat Z4).Name)) I I) I ?_
           have ⟨v36, hv36, h⟩ := Z1g h
           refine Z1b I I I I (Z1p (ar := [(.sl 1 (v18.map Z14) false), (.str (a0.Services.getD v19.toNat Z4).Name)]) (caps := []) Tryz.call38 (F38_ok K v18 (a0.Services.getD v19.toNat Z4).Name v36 hv36) I I ⟨rfl, rfl, trivial⟩ I) I <| Z1 I (st_pickT (v := (.bool v36)) I I I) I <| Zf <| Zg ?_
           refine AWp.join (V := (List Str)) (lp := fun v => F44_j38 K (F44_l21 K a0 v16 v18 (F44_c23 K v3 v2 (F44_l4 K a0 (F44_c6 K) k4) v1) k21) v19 v = some r) (sh := fun v => ⟨[(1, (.ptr 1 0)), (3, (.vs 3)), (4, (.vs 4)), (5, (.int .i64 v1)), (7, (.vs 7)), (8, (.sl 1 (v16.map Z14) false)), (9, (.sl 1 (v18.map Z14) false)), (10, (.int .i64 v19))], [(1, (.box (Z5 a0).cells)), (3, (.vec 1 (List.map Z1t v2))), (4, (.vec 1 (List.map Z14 v3))), (7, (.vec 1 (List.map Z14 v)))]⟩) ?_ ?_
           ·intro v h
            revert h
            revert v
            intro v37 h
            try dsimp only at h ⊢
            unfold F44_j38 at h
            refine At.end ?_
            exact Zx (st' := ⟨[(1, (.ptr 1 0)), (3, (.vs 3)), (4, (.vs 4)), (5, (.int .i64 v1)), (7, (.vs 7)), (8, (.sl 1 (v16.map Z14) false)), (9, (.sl 1 (v18.map Z14) false)), (10, (.int .i64 v19))], [(1, (.box (Z5 a0).cells)), (3, (.vec 1 (List.map Z1t v2))), (4, (.vec 1 (List.map Z14 v3))), (7, (.vec 1 (List.map Z14 v37)))]⟩) ⟨rfl, rfl, rfl, rfl, rfl, rfl, rfl, rfl, trivial⟩ ⟨rfl, rfl, rfl, rfl, trivial⟩ (J31 v37 h)
           ·intro J38
            have hif := of_if h
            refine Z15 I (fun hc => ?_) (fun hc => ?_)
            ·have h := hif.1 hc
             refine Za <| Z1 I (Zi (v := (.vs 7)) I I) I <| Z1 I (Zi (v := (.str (a0.Services.getD v19.toNat Z4).Name)) I I) I <| Z1 I (Z1i (vs := [(.str (a0.Services.getD v19.toNat Z4).Name)]) (enc := Z14) (l := [(a0.Services.getD v19.toNat Z4).Name]) I el73 I I ⟨rfl, trivial⟩ I els_str I I I I) I ?_
             have ⟨hg39, h⟩ := Zv h
             refine Z1 I (st_append (m := 7) (enc := Z14) (l := v20) (l' := [(a0.Services.getD v19.toNat Z4).Name]) (src := (.vs 61)) (rd := [(61, (.vec 1 (List.map Z14 [(a0.Services.getD v19.toNat Z4).Name])))]) I I el73 I u73 I I I I (oneRead I) els_str hg39) I <| Z1 I (Zj (v := (.vs 7)) I I) I <| Zf ?_
             exact Zx (st' := ⟨[(1, (.ptr 1 0)), (3, (.vs 3)), (4, (.vs 4)), (5, (.int .i64 v1)), (7, (.vs 7)), (8, (.sl 1 (v16.map Z14) false)), (9, (.sl 1 (v18.map Z14) false)), (10, (.int .i64 v19))], [(1, (.box (Z5 a0).cells)), (3, (.vec 1 (List.map Z1t v2))), (4, (.vec 1 (List.map Z14 v3))), (7, (.vec 1 (List.map Z14 (v20 ++ [(a0.Services.getD v19.toNat Z4).Name]))))]⟩) ⟨rfl, rfl, rfl, rfl, rfl, rfl, rfl, rfl, trivial⟩ ⟨rfl, rfl, rfl, rfl, trivial⟩ (J38 (v20 ++ [(a0.Services.getD v19.toNat Z4).Name]) h)
            ·have h := hif.2 hc
             refine Z18 ?_
             exact Zx (st' := ⟨[(1, (.ptr 1 0)), (3, (.vs 3)), (4, (.vs 4)), (5, (.int .i64 v1)), (7, (.vs 7)), (8, (.sl 1 (v16.map Z14) false)), (9, (.sl 1 (v18.map Z14) false)), (10, (.int .i64 v19))], [(1, (.box (Z5 a0).cells)), (3, (.vec 1 (List.map Z1t v2))), (4, (.vec 1 (List.map Z14 v3))), (7, (.vec 1 (List.map Z14 v20)))]⟩) ⟨rfl, rfl, rfl, rfl, rfl, rfl, rfl, rfl, trivial⟩ ⟨rfl, rfl, rfl, rfl, trivial⟩ (J38 v20 h)
          ·have h := hif.2 hc
           refine Z16 I I I I I I I <| Z16 I I I I I I I <| Z16 I I I I I I I <| Z1 I (st_pickF (v := (.bool false)) I I I) I <| Zf <| Zg ?_
           refine Z15 (b := false) I (fun hc => ?_) (fun hc => ?_)
           ·cases hc
           refine Z18 <| At.end ?_
           exact Zx (st' := ⟨[(1, (.ptr 1 0)), (3, (.vs 3)), (4, (.vs 4)), (5, (.int .i64 v1)), (7, (.vs 7)), (8, (.sl 1 (v16.map Z14) false)), (9, (.sl 1 (v18.map Z14) false)), (10, (.int .i64 v19))], [(1, (.box (Z5 a0).cells)), (3, (.vec 1 (List.map Z1t v2))), (4, (.vec 1 (List.map Z14 v3))), (7, (.vec 1 (List.map Z14 v20)))]⟩) ⟨rfl, rfl, rfl, rfl, rfl, rfl, rfl, rfl, trivial⟩ ⟨rfl, rfl, rfl, rfl, trivial⟩ (J31 v20 h)
        ·have h := hif.2 hc
         refine AWp.exit <| At.thru ?_
         exact Zx (st' := ⟨[(1, (.ptr 1 0)), (3, (.vs 3)), (4, (.vs 4)), (5, (.int .i64 v1)), (7, (.vs 7))], [(1, (.box (Z5 a0).cells)), (3, (.vec 1 (List.map Z1t v2))), (4, (.vec 1 (List.map Z14 v3))), (7, (.vec 1 (List.map Z14 v20)))]⟩) ⟨rfl, rfl, rfl, rfl, rfl, trivial⟩ ⟨rfl, rfl, rfl, rfl, trivial⟩ (J21 v20 h)
   ·have h := hif.2 hc
    refine AWp.exit <| At.thru ?_
    exact Zx (st' := ⟨[(3, (.vs 3))], [(3, (.vec 1 (List.map Z1t v2)))]⟩) ⟨rfl, trivial⟩ ⟨rfl, trivial⟩ (J4 v2 h)
def F10_c13 (K : Nat) : Option (Bool) :=
 some true
def F10_l12 (K : Nat) (v6 : (List (List Str))) (v10 : (List (List Str))) (c14 : Option (Bool)) : Nat → Int → Option (Bool)
 | 0, _ => none
 | k12 + 1, v11 =>
  if (decide (v11 < (v6.length : Int))) = true then
   if (0 : Int) ≤ v11 ∧ v11 < v6.length then
    if (0 : Int) ≤ v11 ∧ v11 < v10.length then
     (F32 K (v6.getD v11.toNat []) (v10.getD v11.toNat [])).bind fun v19 =>
      if (!v19) = true then
       some false
      else
       (F10_l12 K v6 v10 c14 k12) (IntKind.i64.wrap (v11 + 1))
    else none
   else none
  else
   c14
noncomputable def F10 (K : Nat) (a0 : (List Z1m)) : Option (Bool) :=
 (F11 K).bind fun v2 =>
  if (!v2) = true then
   some false
  else
   (F22 K a0).bind fun v4 =>
    (F43 K v4).bind fun v6 =>
     (F22 K a0).bind fun v8 =>
      (F44 K v8).bind fun v10 =>
       if ((v6.length : Int) != (v10.length : Int)) = true then
        some false
       else
        F10_l12 K v6 v10 (F10_c13 K) K 0
theorem F10_ok (K : Nat) (a0 : (List Z1m)) (r : Bool) (h : F10 K a0 = some r) : ACall P 10 ⟨[(.sl 3 (a0.map Z10) false)], [], (.bool r), [], []⟩ := by
 refine Z1r Tryz.func10 Tryz.results10 rfl Tryz.ntmps10 rfl rfl rfl ?_
 intro E Q hP hN hro hret
 obtain ⟨P', nt', w0, F0, p0, S0, β0, ro0⟩ := E
 simp only at hP hN
 subst hP hN
 dsimp only [argT]
 unfold F10 at h
 refine Zh <| Za <| Z1 I (Zj (v := (.bool false)) I I) I <| Zf <| Zg <| Zh <| Zh <| Za ?_
 have ⟨v2, hv2, h⟩ := Z1g h
 refine Z1 I (Z1p (ar := []) (caps := []) Tryz.call11 (F11_ok K v2 hv2) I I trivial I) I <| Z1 I (st_not (b := v2) I I) I <| Zf <| Zg ?_
 have hif := of_if h
 refine Z15 I (fun hc => ?_) (fun hc => ?_)
 ·have h := hif.1 hc
  refine Zh <| Za <| Z1 I (Zj (v := (.bool false)) I I) I <| Zf <| Zg <| Z1d <| Z1f ?_
  have h := Option.some.inj h
  subst h
  refine (hret _ ?_).1
  exact ⟨[(.bool false)], ⟨rfl, trivial⟩, rfl, trivial⟩
 ·have h := hif.2 hc
  refine Z18 <| Zg <| Zh <| Za <| Z1 I (Zi (v := (.sl 3 (a0.map Z10) false)) I I) I ?_
  have ⟨v4, hv4, h⟩ := Z1g h
  refine Z1 I (Z1p (ar := [(.sl 3 (a0.map Z10) false)]) (caps := []) Tryz.call22 (F22_ok K a0 v4 hv4) I I ⟨rfl, trivial⟩ I) I ?_
  have ⟨v6, hv6, h⟩ := Z1g h
  refine Z1 I (Z1p (ar := [(Z5 v4)]) (caps := []) Tryz.call43 (F43_ok K v4 v6 hv6) I I ⟨rfl, trivial⟩ I) I <| Z1 I (Zi (v := (.sl 3 (a0.map Z10) false)) I I) I ?_
  have ⟨v8, hv8, h⟩ := Z1g h
  refine Z1 I (Z1p (ar := [(.sl 3 (a0.map Z10) false)]) (caps := []) Tryz.call22 (F22_ok K a0 v8 hv8) I I ⟨rfl, trivial⟩ I) I ?_
  have ⟨v10, hv10, h⟩ := Z1g h
  refine Z1 I (Z1p (ar := [(Z5 v8)]) (caps := []) Tryz.call44 (F44_ok K v8 v10 hv10) I I ⟨rfl, trivial⟩ I) I <| Z1 I (Zj (v := (.sl 1 (v6.map Z1t) false)) I I) I <| Z1 I (Zj (v := (.sl 1 (v10.map Z1t) false)) I I) I <| Zf <| Zg <| Zh <| Zh <| Za ?_
  refine Z1 I (Zi (v := (.sl 1 (v6.map Z1t) false)) I I) I <| Z1 I (stx_len (l := v6) (enc := Z1t) I s100 I) I <| Z1 I (Zi (v := (.sl 1 (v10.map Z1t) false)) I I) I <| Z1 I (stx_len (l := v10) (enc := Z1t) I s100 I) I <| Z1 I (st_cmp (k := .i64) (a := (v6.length : Int)) (b := (v10.length : Int)) (c := ((v6.length : Int) != (v10.length : Int))) I I I I) I <| Zf <| Zg ?_
  have hif := of_if h
  refine Z15 I (fun hc => ?_) (fun hc => ?_)
  ·have h := hif.1 hc
   refine Zh <| Za <| Z1 I (Zj (v := (.bool false)) I I) I <| Zf <| Zg <| Z1d <| Z1f ?_
   have h := Option.some.inj h
   subst h
   refine (hret _ ?_).1
   exact ⟨[(.bool false)], ⟨rfl, trivial⟩, rfl, trivial⟩
  ·have h := hif.2 hc
   refine Z18 <| Zg <| Zh <| Zh <| Za <| Z1 I (Zj (v := (.int .i64 0)) I I) I <| Zf <| Zg ?_
   refine Z1w (st' := ⟨[(3, (.sl 1 (v6.map Z1t) false)), (4, (.sl 1 (v10.map Z1t) false)), (5, (.int .i64 0))], []⟩) ⟨rfl, rfl, rfl, trivial⟩ trivial ?_
   refine Z1j (V := Int) (X := Unit) (lp := fun k v => F10_l12 K v6 v10 (F10_c13 K) k v = some r) (sh := fun v => ⟨[(3, (.sl 1 (v6.map Z1t) false)), (4, (.sl 1 (v10.map Z1t) false)), (5, (.int .i64 v))], []⟩) (x := fun v => F10_c13 K = some r) (shx := fun v => ⟨[], []⟩) (k := K) (v := 0) h ?_ ?_
   ·intro v h
    try dsimp only at h ⊢
    unfold F10_c13 at h
    refine Zg <| Zh <| Za <| Z1 I (Zj (v := (.bool true)) I I) I <| Zf <| Zg <| Z1d ?_
    have h := Option.some.inj h
    subst h
    refine (hret _ ?_).1
    exact ⟨[(.bool true)], ⟨rfl, trivial⟩, rfl, trivial⟩
   ·intro N k12 v h IH12 J12
    revert h
    revert v
    intro v11 h
    try dsimp only at h IH12 J12 ⊢
    cases k12 with
    | zero => cases h
    | succ k12 =>
     rw [F10_l12] at h
     refine Zh <| Zh <| Za <| Z1 I (Zi (v := (.int .i64 v11)) I I) I <| Z1 I (Zi (v := (.sl 1 (v6.map Z1t) false)) I I) I <| Z1 I (stx_len (l := v6) (enc := Z1t) I s100 I) I <| Z1 I (st_cmp (k := .i64) (a := v11) (b := (v6.length : Int)) (c := (decide (v11 < (v6.length : Int)))) I I I I) I <| Zf ?_
     refine Zg ?_
     have hif := of_if h
     refine Z15 I (fun hc => ?_) (fun hc => ?_)
     ·have h := hif.1 hc
      refine Z18 <| Zg <| Zh <| AWp.block <| Zh <| Z1u mixed <| Z8 0 I (Zi (v := (.sl 1 (v6.map Z1t) false)) I I) <| Z8 1 I (Zi (v := (.int .i64 v11)) I I) ?_
      have ⟨hg16, h⟩ := Zv h
      refine Z8 2 I (Z1y (k := .i64) (l := v6) (enc := Z1t) (z := []) (n := v11) (cs := [(.sl 1 ((v6.getD v11.toNat []).map Z14) false)]) (full := false) I s100 I I hg16 I) <| Z8 3 I (st_loadI (cs := [(.sl 1 ((v6.getD v11.toNat []).map Z14) false)]) (v := (.sl 1 ((v6.getD v11.toNat []).map Z14) false)) I o73 I I) <| Z8 4 I (Zi (v := (.sl 1 (v10.map Z1t) false)) I I) <| Z8 5 I (Zi (v := (.int .i64 v11)) I I) ?_
      have ⟨hg17, h⟩ := Zv h
      refine Z8 6 I (Z1y (k := .i64) (l := v10) (enc := Z1t) (z := []) (n := v11) (cs := [(.sl 1 ((v10.getD v11.toNat []).map Z14) false)]) (full := false) I s100 I I hg17 I) <| Z8 7 I (st_loadI (cs := [(.sl 1 ((v10.getD v11.toNat []).map Z14) false)]) (v := (.sl 1 ((v10.getD v11.toNat []).map Z14) false)) I o73 I I) ?_
      have ⟨v19, hv19, h⟩ := Z1g h
      refine Z8 8 I (Z1p (ar := [(.sl 1 ((v6.getD v11.toNat []).map Z14) false), (.sl 1 ((v10.getD v11.toNat []).map Z14) false)]) (caps := []) Tryz.call32 (F32_ok K (v6.getD v11.toNat []) (v10.getD v11.toNat []) v19 hv19) I I ⟨rfl, rfl, trivial⟩ I) <| Z8 9 I (st_not (b := v19) I I) <| AOpsD.nil (by kernel_rfl) I <| Zg ?_
      have hif := of_if h
      refine Z15 I (fun hc => ?_) (fun hc => ?_)
      ·have h := hif.1 hc
       refine Zh <| Za <| Z1 I (Zj (v := (.bool false)) I I) I <| Zf <| Zg <| Z1d <| At.overR <| Z1f ?_
       refine Z1f (At.overR ?_)
       refine Z1f ?_
       have h := Option.some.inj h
       subst h
       refine (hret _ ?_).1
       exact ⟨[(.bool false)], ⟨rfl, trivial⟩, rfl, trivial⟩
      ·have h := hif.2 hc
       refine Z18 <| At.end <| Zg <| Za <| Z1 I (Zi (v := (.int .i64 v11)) I I) I <| Z1 I (Z1s (k := .i64) (a := v11) (b := 1) (c := (IntKind.i64.wrap (v11 + 1))) I I I I) I <| Z1 I (Zj (v := (.int .i64 (IntKind.i64.wrap (v11 + 1)))) I I) I <| Zf ?_
       exact Zx (st' := ⟨[(3, (.sl 1 (v6.map Z1t) false)), (4, (.sl 1 (v10.map Z1t) false)), (5, (.int .i64 (IntKind.i64.wrap (v11 + 1))))], []⟩) ⟨rfl, rfl, rfl, trivial⟩ trivial (IH12 _ (IntKind.i64.wrap (v11 + 1)) (Nat.lt_succ_self _) h)
     ·have h := hif.2 hc
      refine AWp.exit <| At.thru ?_
      exact Zx (st' := ⟨[], []⟩) trivial trivial (J12 () h)
end Go.AM.TopZ
