/- What these functions compute, each with its walk: F20_i1, F4. -/
import Derived.Test.YtkhbjnkckblkjaaGreatTopZT
import Derived.Test.YtkhbjnkckblkjaaGreatTopZG0
import Derived.Test.YtkhbjnkckblkjaaGreatTopZG1
import Derived.Test.YtkhbjnkckblkjaaGreatTopZG4
import Derived.Test.YtkhbjnkckblkjaaGreatTopZG5
namespace Go.AM.TopZ
open Go Go.AM Go.Proofs
set_option maxRecDepth 100000
set_option maxHeartbeats 2000000
def Z35 (K : Nat) (v5 : Ze) : Option (Ze) :=
 some v5
def Z34 (K : Nat) (b8 : Int → Ze → Option (Ze)) (v2 : Int) (v18 : Ze) : Option (Ze) :=
 b8 (IntKind.i64.wrap (v2 + 1)) v18
def Z3t (K : Nat) (b21 : Int → Ze → Option (Ze)) (v15 : Int) (v36 : Ze) : Option (Ze) :=
 b21 (IntKind.i64.wrap (v15 + 1)) v36
def Z3u (K : Nat) (b39 : Int → Ze → Option (Ze)) (v33 : Int) (v40 : Ze) : Option (Ze) :=
 b39 (IntKind.i64.wrap (v33 + 1)) v40
def Z4q (K : Nat) (v34 : Ze) (b39 : Int → Ze → Option (Ze)) (v33 : Int) (v54 : Zk) : Option (Ze) :=
 (F55 K v34 v54).bind fun v57 =>
  Z3u K b39 v33 v57
def Z2s (K : Nat) (v12 : (List Zg)) (v15 : Int) (a0 : (List Zu)) (v2 : Int) (c38 : Ze → Option (Ze)) : Nat → Int → Ze → Option (Ze)
 | 0, _, _ => none
 | k35 + 1, v33, v34 =>
  if (decide (v33 < (v12.length : Int))) = true then
   if (0 : Int) ≤ v33 ∧ v33 < v12.length then
    if (0 : Int) ≤ v15 ∧ v15 < v12.length then
     if ((v12.getD v33.toNat Z2).Id != (v12.getD v15.toNat Z2).Parent) = true then
      Z3u K (Z2s K v12 v15 a0 v2 c38 k35) v33 v34
     else
      if (0 : Int) ≤ v33 ∧ v33 < v12.length then
       if (0 : Int) ≤ v15 ∧ v15 < v12.length then
        if ((v12.getD v33.toNat Z2).Service == (v12.getD v15.toNat Z2).Service) = true then
         Z3u K (Z2s K v12 v15 a0 v2 c38 k35) v33 v34
        else
         if (0 : Int) ≤ v33 ∧ v33 < v12.length then
          if (0 : Int) ≤ v15 ∧ v15 < v12.length then
           (F54 K v34 (v12.getD v33.toNat Z2).Service (v12.getD v15.toNat Z2).Service).bind fun v49 =>
            if (0 : Int) ≤ v15 ∧ v15 < v12.length then
             (F51 K (v12.getD v15.toNat Z2)).bind fun v52 =>
              if (0 : Int) ≤ v15 ∧ v15 < v12.length then
               if (v12.getD v15.toNat Z2).Error = true then
                Z4q K v34 (Z2s K v12 v15 a0 v2 c38 k35) v33 (⟨v49.Caller, v49.Callee, (IntKind.i64.wrap (v49.Count + (a0.getD v2.toNat Z5).Weight)), (IntKind.i64.wrap (v49.Errors + (a0.getD v2.toNat Z5).Weight)), (IntKind.i64.wrap (v49.Time + (IntKind.i64.wrap ((a0.getD v2.toNat Z5).Weight * v52))))⟩ : Zk)
               else
                Z4q K v34 (Z2s K v12 v15 a0 v2 c38 k35) v33 (⟨v49.Caller, v49.Callee, (IntKind.i64.wrap (v49.Count + (a0.getD v2.toNat Z5).Weight)), v49.Errors, (IntKind.i64.wrap (v49.Time + (IntKind.i64.wrap ((a0.getD v2.toNat Z5).Weight * v52))))⟩ : Zk)
              else none
            else none
          else none
         else none
       else none
      else none
    else none
   else none
  else
   c38 v34
def Z4o (K : Nat) (v16 : Ze) (v12 : (List Zg)) (v15 : Int) (a0 : (List Zu)) (v2 : Int) (b21 : Int → Ze → Option (Ze)) (v29 : Zf) : Option (Ze) :=
 (F53 K v16 v29).bind fun v32 =>
  Z2s K v12 v15 a0 v2 (Z3t K b21 v15) K 0 v32
def Z5i (K : Nat) (v15 : Int) (v12 : (List Zg)) (v16 : Ze) (a0 : (List Zu)) (v2 : Int) (b21 : Int → Ze → Option (Ze)) (v26 : Zf) : Option (Ze) :=
 if (0 : Int) ≤ v15 ∧ v15 < v12.length then
  if ((v12.getD v15.toNat Z2).Parent == 0) = true then
   Z4o K v16 v12 v15 a0 v2 b21 (⟨v26.Name, v26.Spans, v26.Errors, (IntKind.i64.wrap (v26.Roots + (a0.getD v2.toNat Z5).Weight))⟩ : Zf)
  else
   Z4o K v16 v12 v15 a0 v2 b21 v26
 else none
def Z2x (K : Nat) (v12 : (List Zg)) (a0 : (List Zu)) (v2 : Int) (c20 : Ze → Option (Ze)) : Nat → Int → Ze → Option (Ze)
 | 0, _, _ => none
 | k17 + 1, v15, v16 =>
  if (decide (v15 < (v12.length : Int))) = true then
   if (0 : Int) ≤ v15 ∧ v15 < v12.length then
    (F31 K v16 (v12.getD v15.toNat Z2).Service).bind fun v24 =>
     if (0 : Int) ≤ v15 ∧ v15 < v12.length then
      if (v12.getD v15.toNat Z2).Error = true then
       Z5i K v15 v12 v16 a0 v2 (Z2x K v12 a0 v2 c20 k17) (⟨v24.Name, (IntKind.i64.wrap (v24.Spans + (a0.getD v2.toNat Z5).Weight)), (IntKind.i64.wrap (v24.Errors + (a0.getD v2.toNat Z5).Weight)), v24.Roots⟩ : Zf)
      else
       Z5i K v15 v12 v16 a0 v2 (Z2x K v12 a0 v2 c20 k17) (⟨v24.Name, (IntKind.i64.wrap (v24.Spans + (a0.getD v2.toNat Z5).Weight)), v24.Errors, v24.Roots⟩ : Zf)
     else none
   else none
  else
   c20 v16
def Z30 (K : Nat) (a0 : (List Zu)) (c7 : Ze → Option (Ze)) : Nat → Int → Ze → Option (Ze)
 | 0, _, _ => none
 | k4 + 1, v2, v3 =>
  if (decide (v2 < (a0.length : Int))) = true then
   if (0 : Int) ≤ v2 ∧ v2 < (a0.length : Nat) then
    if v2.toNat < a0.length then
     (F47 K (a0.getD v2.toNat Z5).Spans).bind fun v12 =>
      if (0 : Int) ≤ v2 ∧ v2 < (a0.length : Nat) then
       if v2.toNat < a0.length then
        Z2x K v12 a0 v2 (Z34 K (Z30 K a0 c7 k4) v2) K 0 v3
       else none
      else none
    else none
   else none
  else
   c7 v3
def Zd4 (K : Nat) (a0 : (List Zu)) : Option (Ze) :=
 Z30 K a0 (Z35 K) K 0 Z2b
theorem F20_i1_ok (K : Nat) (a0 : (List Zu)) (r : Ze) (h : Zd4 K a0 = some r) : ACall P 20 ⟨[(.vs 2000)], [(2000, (.vec 3 (List.map Zq a0)))], (Zc r), [(2000, (.vec 3 (List.map Zq a0)))], []⟩ := by
 refine Z1q Tryz.func20 Tryz.results20 rfl Tryz.ntmps20 rfl rfl rfl ?_
 intro E Q hP hN hro hret
 obtain ⟨P', nt', w0, F0, p0, S0, β0, ro0⟩ := E
 simp only at hP hN
 subst hP hN
 dsimp only [argT]
 unfold Zd4 at h
 refine Zj <| Zd <| Z1 I (Z21 (cs := [(.sl 4 [] false), (.sl 5 [] false)]) I z44 I I I) I <| Zh <| Zi <| Zj <| Zd <| Z1 I (Z21 (cs := [(.sl 4 [] false), (.sl 5 [] false)]) I z44 I I I) I ?_
 refine Zh <| Zi <| Zj <| Zj <| Zd <| Z1 I (Zm (v := (.int .i64 0)) I I) I <| Zh <| Zi ?_
 refine AWp.weaken (st' := ⟨[(0, (.vs 2000)), (2, (.ptr 2 0)), (3, (.ptr 3 0)), (4, (.int .i64 0))], [(2, (.box [(.sl 4 [] false), (.sl 5 [] false)])), (3, (.box (Zc Z2b).cells)), (2000, (.vec 3 (List.map Zq a0)))]⟩) ⟨rfl, rfl, rfl, rfl, trivial⟩ ⟨rfl, rfl, rfl, trivial⟩ ?_
 refine Z1o (V := Int × Ze) (X := Ze) (lp := fun k v => Z30 K a0 (Z35 K) k v.1 v.2 = some r) (sh := fun v => ⟨[(0, (.vs 2000)), (2, (.ptr 2 0)), (3, (.ptr 3 0)), (4, (.int .i64 v.1))], [(2, (.box [(.sl 4 [] false), (.sl 5 [] false)])), (3, (.box (Zc v.2).cells)), (2000, (.vec 3 (List.map Zq a0)))]⟩) (x := fun v => Z35 K v = some r) (shx := fun v => ⟨[(2, (.ptr 2 0)), (3, (.ptr 3 0))], [(2, (.box [(.sl 4 [] false), (.sl 5 [] false)])), (3, (.box (Zc v).cells)), (2000, (.vec 3 (List.map Zq a0)))]⟩) (k := K) (v := (0, Z2b)) h ?_ ?_
 ·intro v h
  revert h
  revert v
  intro v5 h
  try dsimp only at h ⊢
  unfold Z35 at h
  refine Zi <| Zj <| Zd <| Z1 I (Z1n (cs := (Zc v5).cells) (vs := (Zc v5).cells) I a44 I I I I) I <| Z1 I (Z1b (cs := [(.sl 4 [] false), (.sl 5 [] false)]) (vs := (Zc v5).cells) (ds := (Zc v5).cells) (v := (Zc v5)) sz44 I I I I I I I I) I <| Zh <| Zi <| Z1c ?_
  have h := Option.some.inj h
  subst h
  refine (hret _ ?_).1
  exact ⟨[(Zc v5)], ⟨⟨2, _, rfl, rfl, .inr ⟨_, a44, rfl, rfl⟩⟩, trivial⟩, rfl, ⟨rfl, trivial⟩⟩
 ·intro N k4 v h IH4 J4
  obtain ⟨v2, v3⟩ := v
  try dsimp only at h IH4 J4 ⊢
  cases k4 with
  | zero => cases h
  | succ k4 =>
   rw [Z30] at h
   refine Zj <| Zj <| Zd <| Z1 I (Zl (v := (.int .i64 v2)) I I) I <| Z1 I (Zl (v := (.vs 2000)) I I) I <| Z1 I (Z62 (l := a0) (enc := Zq) I u31 I I) I <| Z1 I (Z1x (k := .i64) (a := v2) (b := (a0.length : Int)) (c := (decide (v2 < (a0.length : Int)))) I I I I) I <| Zh ?_
   refine Zi ?_
   have hif := Z1w h
   refine Z16 I (fun hc => ?_) (fun hc => ?_)
   ·have h := hif.1 hc
    refine Z1a <| Zi <| Zj <| AWp.block <| Zj <| Zd <| Z1 I (Zl (v := (.vs 2000)) I I) I <| Z1 I (Zl (v := (.int .i64 v2)) I I) I ?_
    have ⟨hg9, h⟩ := Z14 h
    refine Z1 I (Z2r (k := .i64) (v := (.vs 2000)) (n := 2000) (off := 0) (len := a0.length) (es := (List.map Zq a0)) (j := v2) (m := v2.toNat) I s31 I I (Z2u _ _ _) I hg9 (Nat.zero_add _)) I <| Z1 I (Z4a I f39_2 I I) I ?_
    have ⟨hg10, h⟩ := Z14 h
    refine Z1 I (Z3p (l := a0) (enc := Zq) (z := Z5) (v := (.sl 14 ((a0.getD v2.toNat Z5).Spans.map Z8) false)) I o37 I I hg10 I) I ?_
    have ⟨v12, hv12, h⟩ := Z1d h
    refine Z1 I (Z1e (ar := [(.sl 14 ((a0.getD v2.toNat Z5).Spans.map Z8) false)]) (caps := []) Tryz.call47 (F47_ok K (a0.getD v2.toNat Z5).Spans v12 hv12) I I ⟨rfl, trivial⟩ I) I <| Z1 I (Zm (v := (.sl 14 (v12.map Z8) false)) I I) I <| Zh <| Zi <| Zj <| Zd <| Z1 I (Zl (v := (.vs 2000)) I I) I <| Z1 I (Zl (v := (.int .i64 v2)) I I) I ?_
    have ⟨hg13, h⟩ := Z14 h
    refine Z1 I (Z2r (k := .i64) (v := (.vs 2000)) (n := 2000) (off := 0) (len := a0.length) (es := (List.map Zq a0)) (j := v2) (m := v2.toNat) I s31 I I (Z2u _ _ _) I hg13 (Nat.zero_add _)) I <| Z1 I (Z4a I f39_1 I I) I ?_
    have ⟨hg14, h⟩ := Z14 h
    refine Z1 I (Z3p (l := a0) (enc := Zq) (z := Z5) (v := (.int .i64 (a0.getD v2.toNat Z5).Weight)) I o3 I I hg14 I) I <| Z1 I (Zm (v := (.int .i64 (a0.getD v2.toNat Z5).Weight)) I I) I <| Zh <| Zi <| Zj <| Zd <| Z1 I (Zm (v := (.int .i64 0)) I I) I <| Zh ?_
    refine Zi <| AWp.weaken (st' := ⟨[(0, (.vs 2000)), (2, (.ptr 2 0)), (3, (.ptr 3 0)), (4, (.int .i64 v2)), (5, (.sl 14 (v12.map Z8) false)), (6, (.int .i64 (a0.getD v2.toNat Z5).Weight)), (7, (.int .i64 0))], [(2, (.box [(.sl 4 [] false), (.sl 5 [] false)])), (3, (.box (Zc v3).cells)), (2000, (.vec 3 (List.map Zq a0)))]⟩) ⟨rfl, rfl, rfl, rfl, rfl, rfl, rfl, trivial⟩ ⟨rfl, rfl, rfl, trivial⟩ ?_
    refine Z1o (V := Int × Ze) (X := Ze) (lp := fun k v => Z2x K v12 a0 v2 (Z34 K (Z30 K a0 (Z35 K) k4) v2) k v.1 v.2 = some r) (sh := fun v => ⟨[(0, (.vs 2000)), (2, (.ptr 2 0)), (3, (.ptr 3 0)), (4, (.int .i64 v2)), (5, (.sl 14 (v12.map Z8) false)), (6, (.int .i64 (a0.getD v2.toNat Z5).Weight)), (7, (.int .i64 v.1))], [(2, (.box [(.sl 4 [] false), (.sl 5 [] false)])), (3, (.box (Zc v.2).cells)), (2000, (.vec 3 (List.map Zq a0)))]⟩) (x := fun v => Z34 K (Z30 K a0 (Z35 K) k4) v2 v = some r) (shx := fun v => ⟨[(0, (.vs 2000)), (2, (.ptr 2 0)), (3, (.ptr 3 0)), (4, (.int .i64 v2))], [(2, (.box [(.sl 4 [] false), (.sl 5 [] false)])), (3, (.box (Zc v).cells)), (2000, (.vec 3 (List.map Zq a0)))]⟩) (k := K) (v := (0, v3)) h ?_ ?_
    ·intro v h
     revert h
     revert v
     intro v18 h
     try dsimp only at h ⊢
     unfold Z34 at h
     refine At.end <| Zi <| Zd <| Z1 I (Zl (v := (.int .i64 v2)) I I) I <| Z1 I (Z1k (k := .i64) (a := v2) (b := 1) (c := (IntKind.i64.wrap (v2 + 1))) I I I I) I <| Z1 I (Zm (v := (.int .i64 (IntKind.i64.wrap (v2 + 1)))) I I) I <| Zh ?_
     exact Z13 (st' := ⟨[(0, (.vs 2000)), (2, (.ptr 2 0)), (3, (.ptr 3 0)), (4, (.int .i64 (IntKind.i64.wrap (v2 + 1))))], [(2, (.box [(.sl 4 [] false), (.sl 5 [] false)])), (3, (.box (Zc v18).cells)), (2000, (.vec 3 (List.map Zq a0)))]⟩) ⟨rfl, rfl, rfl, rfl, trivial⟩ ⟨rfl, rfl, rfl, trivial⟩ (IH4 _ ((IntKind.i64.wrap (v2 + 1)), v18) (Nat.lt_succ_self _) h)
    ·intro N k17 v h IH17 J17
     obtain ⟨v15, v16⟩ := v
     try dsimp only at h IH17 J17 ⊢
     cases k17 with
     | zero => cases h
     | succ k17 =>
      rw [Z2x] at h
      refine Zj <| Zj <| Zd <| Z1 I (Zl (v := (.int .i64 v15)) I I) I <| Z1 I (Zl (v := (.sl 14 (v12.map Z8) false)) I I) I <| Z1 I (Z2d (l := v12) (enc := Z8) I s37 I) I <| Z1 I (Z1x (k := .i64) (a := v15) (b := (v12.length : Int)) (c := (decide (v15 < (v12.length : Int)))) I I I I) I <| Zh ?_
      refine Zi ?_
      have hif := Z1w h
      refine Z16 I (fun hc => ?_) (fun hc => ?_)
      ·have h := hif.1 hc
       refine Z1a <| Zi <| Zj <| AWp.block <| Zj <| Z1r mixed <| Zb 0 I (Z1n (cs := (Zc v16).cells) (vs := (Zc v16).cells) I a44 I I I I) <| Zb 1 I (Zl (v := (.sl 14 (v12.map Z8) false)) I I) ?_
       refine Zb 2 I (Zl (v := (.int .i64 v15)) I I) ?_
       have ⟨hg22, h⟩ := Z14 h
       refine Zb 3 I (Z1s (k := .i64) (l := v12) (enc := Z8) (z := Z2) (n := v15) (cs := (Z8 (v12.getD v15.toNat Z2)).cells) (full := false) I s37 I I hg22 I) <| Zb 4 I (Z2f (cs := (Z8 (v12.getD v15.toNat Z2)).cells) (ds := [(.str (v12.getD v15.toNat Z2).Service), (.str (v12.getD v15.toNat Z2).Version), (.str (v12.getD v15.toNat Z2).Operation), (.int .i64 (v12.getD v15.toNat Z2).Start), (.int .i64 (v12.getD v15.toNat Z2).End), (.bool (v12.getD v15.toNat Z2).Error), (.sl 4 ((v12.getD v15.toNat Z2).Attrs.map Zv) false), (.sl 2 ((v12.getD v15.toNat Z2).Links.map Z11) false)]) I Z87 I I I) <| Zb 5 I (Z28 (cs := [(.str (v12.getD v15.toNat Z2).Service), (.str (v12.getD v15.toNat Z2).Version), (.str (v12.getD v15.toNat Z2).Operation), (.int .i64 (v12.getD v15.toNat Z2).Start), (.int .i64 (v12.getD v15.toNat Z2).End), (.bool (v12.getD v15.toNat Z2).Error), (.sl 4 ((v12.getD v15.toNat Z2).Attrs.map Zv) false), (.sl 2 ((v12.getD v15.toNat Z2).Links.map Z11) false)]) (v := (.str (v12.getD v15.toNat Z2).Service)) I o9 I I) ?_
       have ⟨v24, hv24, h⟩ := Z1d h
       refine Zb 6 I (Z1e (ar := [(Zc v16), (.str (v12.getD v15.toNat Z2).Service)]) (caps := []) Tryz.call31 (F31_ok K v16 (v12.getD v15.toNat Z2).Service v24 hv24) I I ⟨rfl, rfl, trivial⟩ I) <| Zb 7 I (Z21 (cs := [(.str []), (.int .i64 0), (.int .i64 0), (.int .i64 0)]) I z68 I I I) <| Zb 8 I (Z1b (cs := [(.str []), (.int .i64 0), (.int .i64 0), (.int .i64 0)]) (vs := (Z3 v24).cells) (ds := (Z3 v24).cells) (v := (Z3 v24)) sz68 I I I I I I I I) <| Z1t (by kernel_rfl) I <| Zi <| Zj <| Zd <| Z1 I (Zr (m := 8) (o := 0) I Zce I I) I ?_
       refine Z1 I (Zy (cs := (Z3 v24).cells) (v := (.int .i64 v24.Spans)) I o3 I I I) I <| Z1 I (Zl (v := (.int .i64 (a0.getD v2.toNat Z5).Weight)) I I) I <| Z1 I (Z1k (k := .i64) (a := v24.Spans) (b := (a0.getD v2.toNat Z5).Weight) (c := (IntKind.i64.wrap (v24.Spans + (a0.getD v2.toNat Z5).Weight))) I I I I) I <| Z1 I (Zr (m := 8) (o := 0) I Zce I I) I <| Z1 I (Z1b (cs := (Z3 v24).cells) (vs := [(.int .i64 (IntKind.i64.wrap (v24.Spans + (a0.getD v2.toNat Z5).Weight)))]) (ds := [(.str v24.Name), (.int .i64 (IntKind.i64.wrap (v24.Spans + (a0.getD v2.toNat Z5).Weight))), (.int .i64 v24.Errors), (.int .i64 v24.Roots)]) (v := (.int .i64 (IntKind.i64.wrap (v24.Spans + (a0.getD v2.toNat Z5).Weight)))) sz3 I I I I I I I I) I <| Zh <| Zi <| Zj ?_
       refine Zj <| Zd <| Z1 I (Zl (v := (.sl 14 (v12.map Z8) false)) I I) I <| Z1 I (Zl (v := (.int .i64 v15)) I I) I ?_
       have ⟨hg25, h⟩ := Z14 h
       refine Z1 I (Z1s (k := .i64) (l := v12) (enc := Z8) (z := Z2) (n := v15) (cs := (Z8 (v12.getD v15.toNat Z2)).cells) (full := false) I s37 I I hg25 I) I <| Z1 I (Z2f (cs := (Z8 (v12.getD v15.toNat Z2)).cells) (ds := [(.bool (v12.getD v15.toNat Z2).Error), (.sl 4 ((v12.getD v15.toNat Z2).Attrs.map Zv) false), (.sl 2 ((v12.getD v15.toNat Z2).Links.map Z11) false)]) I Zao I I I) I <| Z1 I (Z28 (cs := [(.bool (v12.getD v15.toNat Z2).Error), (.sl 4 ((v12.getD v15.toNat Z2).Attrs.map Zv) false), (.sl 2 ((v12.getD v15.toNat Z2).Links.map Z11) false)]) (v := (.bool (v12.getD v15.toNat Z2).Error)) I o4 I I) I <| Zh <| Zi ?_
       refine AWp.join (V := Zf) (lp := fun v => Z5i K v15 v12 v16 a0 v2 (Z2x K v12 a0 v2 (Z34 K (Z30 K a0 (Z35 K) k4) v2) k17) v = some r) (sh := fun v => ⟨[(0, (.vs 2000)), (2, (.ptr 2 0)), (3, (.ptr 3 0)), (4, (.int .i64 v2)), (5, (.sl 14 (v12.map Z8) false)), (6, (.int .i64 (a0.getD v2.toNat Z5).Weight)), (7, (.int .i64 v15)), (8, (.ptr 8 0))], [(2, (.box [(.sl 4 [] false), (.sl 5 [] false)])), (3, (.box (Zc v16).cells)), (8, (.box (Z3 v).cells)), (2000, (.vec 3 (List.map Zq a0)))]⟩) ?_ ?_
       ·intro v h
        revert h
        revert v
        intro v26 h
        try dsimp only at h ⊢
        unfold Z5i at h
        refine Zi <| Zj <| Zj <| Zd <| Z1 I (Zl (v := (.sl 14 (v12.map Z8) false)) I I) I <| Z1 I (Zl (v := (.int .i64 v15)) I I) I ?_
        have ⟨hg28, h⟩ := Z14 h
        refine Z1 I (Z1s (k := .i64) (l := v12) (enc := Z8) (z := Z2) (n := v15) (cs := (Z8 (v12.getD v15.toNat Z2)).cells) (full := false) I s37 I I hg28 I) I <| Z1 I (Z2f (cs := (Z8 (v12.getD v15.toNat Z2)).cells) (ds := [(.int .i64 (v12.getD v15.toNat Z2).Parent), (.int .i64 (v12.getD v15.toNat Z2).Revision), (.int .i64 (v12.getD v15.toNat Z2).Clock), (.int .i64 (v12.getD v15.toNat Z2).Kind), (.str (v12.getD v15.toNat Z2).Service), (.str (v12.getD v15.toNat Z2).Version), (.str (v12.getD v15.toNat Z2).Operation), (.int .i64 (v12.getD v15.toNat Z2).Start), (.int .i64 (v12.getD v15.toNat Z2).End), (.bool (v12.getD v15.toNat Z2).Error), (.sl 4 ((v12.getD v15.toNat Z2).Attrs.map Zv) false), (.sl 2 ((v12.getD v15.toNat Z2).Links.map Z11) false)]) I f56_2 I I I) I <| Z1 I (Z28 (cs := [(.int .i64 (v12.getD v15.toNat Z2).Parent), (.int .i64 (v12.getD v15.toNat Z2).Revision), (.int .i64 (v12.getD v15.toNat Z2).Clock), (.int .i64 (v12.getD v15.toNat Z2).Kind), (.str (v12.getD v15.toNat Z2).Service), (.str (v12.getD v15.toNat Z2).Version), (.str (v12.getD v15.toNat Z2).Operation), (.int .i64 (v12.getD v15.toNat Z2).Start), (.int .i64 (v12.getD v15.toNat Z2).End), (.bool (v12.getD v15.toNat Z2).Error), (.sl 4 ((v12.getD v15.toNat Z2).Attrs.map Zv) false), (.sl 2 ((v12.getD v15.toNat Z2).Links.map Z11) false)]) (v := (.int .i64 (v12.getD v15.toNat Z2).Parent)) I o3 I I) I <| Z1 I (Z1x (k := .i64) (a := (v12.getD v15.toNat Z2).Parent) (b := 0) (c := ((v12.getD v15.toNat Z2).Parent == 0)) I I I I) I <| Zh <| Zi ?_
        refine AWp.join (V := Zf) (lp := fun v => Z4o K v16 v12 v15 a0 v2 (Z2x K v12 a0 v2 (Z34 K (Z30 K a0 (Z35 K) k4) v2) k17) v = some r) (sh := fun v => ⟨[(0, (.vs 2000)), (2, (.ptr 2 0)), (3, (.ptr 3 0)), (4, (.int .i64 v2)), (5, (.sl 14 (v12.map Z8) false)), (6, (.int .i64 (a0.getD v2.toNat Z5).Weight)), (7, (.int .i64 v15)), (8, (.ptr 8 0))], [(2, (.box [(.sl 4 [] false), (.sl 5 [] false)])), (3, (.box (Zc v16).cells)), (8, (.box (Z3 v).cells)), (2000, (.vec 3 (List.map Zq a0)))]⟩) ?_ ?_
        ·intro v h
         revert h
         revert v
         intro v29 h
         try dsimp only at h ⊢
         unfold Z4o at h
         refine Zi <| Zj <| Zd <| Z1 I (Z1n (cs := (Zc v16).cells) (vs := (Zc v16).cells) I a44 I I I I) I <| Z1 I (Z1n (cs := (Z3 v29).cells) (vs := (Z3 v29).cells) I a68 I I I I) I ?_
         have ⟨v32, hv32, h⟩ := Z1d h
         refine Z1 I (Z1e (ar := [(Zc v16), (Z3 v29)]) (caps := []) Tryz.call53 (F53_ok K v16 v29 v32 hv32) I I ⟨rfl, rfl, trivial⟩ I) I <| Z1 I (Z1b (cs := (Zc v16).cells) (vs := (Zc v32).cells) (ds := (Zc v32).cells) (v := (Zc v32)) sz44 I I I I I I I I) I <| Zh <| Zi <| Zj <| Zd <| Z1 I (Zm (v := (.int .i64 0)) I I) I <| Zh ?_
         refine Zi <| AWp.weaken (st' := ⟨[(0, (.vs 2000)), (2, (.ptr 2 0)), (3, (.ptr 3 0)), (4, (.int .i64 v2)), (5, (.sl 14 (v12.map Z8) false)), (6, (.int .i64 (a0.getD v2.toNat Z5).Weight)), (7, (.int .i64 v15)), (9, (.int .i64 0))], [(2, (.box [(.sl 4 [] false), (.sl 5 [] false)])), (3, (.box (Zc v32).cells)), (2000, (.vec 3 (List.map Zq a0)))]⟩) ⟨rfl, rfl, rfl, rfl, rfl, rfl, rfl, rfl, trivial⟩ ⟨rfl, rfl, rfl, trivial⟩ ?_
         refine Z1o (V := Int × Ze) (X := Ze) (lp := fun k v => Z2s K v12 v15 a0 v2 (Z3t K (Z2x K v12 a0 v2 (Z34 K (Z30 K a0 (Z35 K) k4) v2) k17) v15) k v.1 v.2 = some r) (sh := fun v => ⟨[(0, (.vs 2000)), (2, (.ptr 2 0)), (3, (.ptr 3 0)), (4, (.int .i64 v2)), (5, (.sl 14 (v12.map Z8) false)), (6, (.int .i64 (a0.getD v2.toNat Z5).Weight)), (7, (.int .i64 v15)), (9, (.int .i64 v.1))], [(2, (.box [(.sl 4 [] false), (.sl 5 [] false)])), (3, (.box (Zc v.2).cells)), (2000, (.vec 3 (List.map Zq a0)))]⟩) (x := fun v => Z3t K (Z2x K v12 a0 v2 (Z34 K (Z30 K a0 (Z35 K) k4) v2) k17) v15 v = some r) (shx := fun v => ⟨[(0, (.vs 2000)), (2, (.ptr 2 0)), (3, (.ptr 3 0)), (4, (.int .i64 v2)), (5, (.sl 14 (v12.map Z8) false)), (6, (.int .i64 (a0.getD v2.toNat Z5).Weight)), (7, (.int .i64 v15))], [(2, (.box [(.sl 4 [] false), (.sl 5 [] false)])), (3, (.box (Zc v).cells)), (2000, (.vec 3 (List.map Zq a0)))]⟩) (k := K) (v := (0, v32)) h ?_ ?_
         ·intro v h
          revert h
          revert v
          intro v36 h
          try dsimp only at h ⊢
          unfold Z3t at h
          refine At.end <| Zi <| Zd <| Z1 I (Zl (v := (.int .i64 v15)) I I) I <| Z1 I (Z1k (k := .i64) (a := v15) (b := 1) (c := (IntKind.i64.wrap (v15 + 1))) I I I I) I <| Z1 I (Zm (v := (.int .i64 (IntKind.i64.wrap (v15 + 1)))) I I) I <| Zh ?_
          exact Z13 (st' := ⟨[(0, (.vs 2000)), (2, (.ptr 2 0)), (3, (.ptr 3 0)), (4, (.int .i64 v2)), (5, (.sl 14 (v12.map Z8) false)), (6, (.int .i64 (a0.getD v2.toNat Z5).Weight)), (7, (.int .i64 (IntKind.i64.wrap (v15 + 1))))], [(2, (.box [(.sl 4 [] false), (.sl 5 [] false)])), (3, (.box (Zc v36).cells)), (2000, (.vec 3 (List.map Zq a0)))]⟩) ⟨rfl, rfl, rfl, rfl, rfl, rfl, rfl, trivial⟩ ⟨rfl, rfl, rfl, trivial⟩ (IH17 _ ((IntKind.i64.wrap (v15 + 1)), v36) (Nat.lt_succ_self _) h)
         ·intro N k35 v h IH35 J35
          obtain ⟨v33, v34⟩ := v
          try dsimp only at h IH35 J35 ⊢
          cases k35 with
          | zero => cases h
          | succ k35 =>
           rw [Z2s] at h
           refine Zj <| Zj <| Zd <| Z1 I (Zl (v := (.int .i64 v33)) I I) I <| Z1 I (Zl (v := (.sl 14 (v12.map Z8) false)) I I) I <| Z1 I (Z2d (l := v12) (enc := Z8) I s37 I) I <| Z1 I (Z1x (k := .i64) (a := v33) (b := (v12.length : Int)) (c := (decide (v33 < (v12.length : Int)))) I I I I) I <| Zh ?_
           refine Zi ?_
           have hif := Z1w h
           refine Z16 I (fun hc => ?_) (fun hc => ?_)
           ·have h := hif.1 hc
            refine Z1a <| Zi <| Zj ?_
            refine AWp.blockJoin (V := Ze) (lp := fun v => Z3u K (Z2s K v12 v15 a0 v2 (Z3t K (Z2x K v12 a0 v2 (Z34 K (Z30 K a0 (Z35 K) k4) v2) k17) v15) k35) v33 v = some r) (sh := fun v => ⟨[(0, (.vs 2000)), (2, (.ptr 2 0)), (3, (.ptr 3 0)), (4, (.int .i64 v2)), (5, (.sl 14 (v12.map Z8) false)), (6, (.int .i64 (a0.getD v2.toNat Z5).Weight)), (7, (.int .i64 v15)), (9, (.int .i64 v33))], [(2, (.box [(.sl 4 [] false), (.sl 5 [] false)])), (3, (.box (Zc v).cells)), (2000, (.vec 3 (List.map Zq a0)))]⟩) ?_ ?_
            ·intro v h
             revert h
             revert v
             intro v40 h
             try dsimp only at h ⊢
             unfold Z3u at h
             refine Zi <| Zd <| Z1 I (Zl (v := (.int .i64 v33)) I I) I <| Z1 I (Z1k (k := .i64) (a := v33) (b := 1) (c := (IntKind.i64.wrap (v33 + 1))) I I I I) I <| Z1 I (Zm (v := (.int .i64 (IntKind.i64.wrap (v33 + 1)))) I I) I <| Zh ?_
             exact Z13 (st' := ⟨[(0, (.vs 2000)), (2, (.ptr 2 0)), (3, (.ptr 3 0)), (4, (.int .i64 v2)), (5, (.sl 14 (v12.map Z8) false)), (6, (.int .i64 (a0.getD v2.toNat Z5).Weight)), (7, (.int .i64 v15)), (9, (.int .i64 (IntKind.i64.wrap (v33 + 1))))], [(2, (.box [(.sl 4 [] false), (.sl 5 [] false)])), (3, (.box (Zc v40).cells)), (2000, (.vec 3 (List.map Zq a0)))]⟩) ⟨rfl, rfl, rfl, rfl, rfl, rfl, rfl, rfl, trivial⟩ ⟨rfl, rfl, rfl, trivial⟩ (IH35 _ ((IntKind.i64.wrap (v33 + 1)), v40) (Nat.lt_succ_self _) h)
            ·intro J41
             refine Zj <| Zj <| Z1r mixed <| Zb 0 I (Zl (v := (.sl 14 (v12.map Z8) false)) I I) <| Zb 1 I (Zl (v := (.int .i64 v33)) I I) ?_
             have ⟨hg42, h⟩ := Z14 h
             refine Zb 2 I (Z1s (k := .i64) (l := v12) (enc := Z8) (z := Z2) (n := v33) (cs := (Z8 (v12.getD v33.toNat Z2)).cells) (full := false) I s37 I I hg42 I) <| Zb 3 I (Z2f (cs := (Z8 (v12.getD v33.toNat Z2)).cells) (ds := [(.int .i64 (v12.getD v33.toNat Z2).Id), (.int .i64 (v12.getD v33.toNat Z2).Parent), (.int .i64 (v12.getD v33.toNat Z2).Revision), (.int .i64 (v12.getD v33.toNat Z2).Clock), (.int .i64 (v12.getD v33.toNat Z2).Kind), (.str (v12.getD v33.toNat Z2).Service), (.str (v12.getD v33.toNat Z2).Version), (.str (v12.getD v33.toNat Z2).Operation), (.int .i64 (v12.getD v33.toNat Z2).Start), (.int .i64 (v12.getD v33.toNat Z2).End), (.bool (v12.getD v33.toNat Z2).Error), (.sl 4 ((v12.getD v33.toNat Z2).Attrs.map Zv) false), (.sl 2 ((v12.getD v33.toNat Z2).Links.map Z11) false)]) I f56_1 I I I) <| Zb 4 I (Z28 (cs := [(.int .i64 (v12.getD v33.toNat Z2).Id), (.int .i64 (v12.getD v33.toNat Z2).Parent), (.int .i64 (v12.getD v33.toNat Z2).Revision), (.int .i64 (v12.getD v33.toNat Z2).Clock), (.int .i64 (v12.getD v33.toNat Z2).Kind), (.str (v12.getD v33.toNat Z2).Service), (.str (v12.getD v33.toNat Z2).Version), (.str (v12.getD v33.toNat Z2).Operation), (.int .i64 (v12.getD v33.toNat Z2).Start), (.int .i64 (v12.getD v33.toNat Z2).End), (.bool (v12.getD v33.toNat Z2).Error), (.sl 4 ((v12.getD v33.toNat Z2).Attrs.map Zv) false), (.sl 2 ((v12.getD v33.toNat Z2).Links.map Z11) false)]) (v := (.int .i64 (v12.getD v33.toNat Z2).Id)) I o3 I I) <| Zb 5 I (Zl (v := (.sl 14 (v12.map Z8) false)) I I) <| Zb 6 I (Zl (v := (.int .i64 v15)) I I) ?_
             have ⟨hg43, h⟩ := Z14 h
             refine Zb 7 I (Z1s (k := .i64) (l := v12) (enc := Z8) (z := Z2) (n := v15) (cs := (Z8 (v12.getD v15.toNat Z2)).cells) (full := false) I s37 I I hg43 I) <| Zb 8 I (Z2f (cs := (Z8 (v12.getD v15.toNat Z2)).cells) (ds := [(.int .i64 (v12.getD v15.toNat Z2).Parent), (.int .i64 (v12.getD v15.toNat Z2).Revision), (.int .i64 (v12.getD v15.toNat Z2).Clock), (.int .i64 (v12.getD v15.toNat Z2).Kind), (.str (v12.getD v15.toNat Z2).Service), (.str (v12.getD v15.toNat Z2).Version), (.str (v12.getD v15.toNat Z2).Operation), (.int .i64 (v12.getD v15.toNat Z2).Start), (.int .i64 (v12.getD v15.toNat Z2).End), (.bool (v12.getD v15.toNat Z2).Error), (.sl 4 ((v12.getD v15.toNat Z2).Attrs.map Zv) false), (.sl 2 ((v12.getD v15.toNat Z2).Links.map Z11) false)]) I f56_2 I I I) <| Zb 9 I (Z28 (cs := [(.int .i64 (v12.getD v15.toNat Z2).Parent), (.int .i64 (v12.getD v15.toNat Z2).Revision), (.int .i64 (v12.getD v15.toNat Z2).Clock), (.int .i64 (v12.getD v15.toNat Z2).Kind), (.str (v12.getD v15.toNat Z2).Service), (.str (v12.getD v15.toNat Z2).Version), (.str (v12.getD v15.toNat Z2).Operation), (.int .i64 (v12.getD v15.toNat Z2).Start), (.int .i64 (v12.getD v15.toNat Z2).End), (.bool (v12.getD v15.toNat Z2).Error), (.sl 4 ((v12.getD v15.toNat Z2).Attrs.map Zv) false), (.sl 2 ((v12.getD v15.toNat Z2).Links.map Z11) false)]) (v := (.int .i64 (v12.getD v15.toNat Z2).Parent)) I o3 I I) <| Zb 10 I (Z1x (k := .i64) (a := (v12.getD v33.toNat Z2).Id) (b := (v12.getD v15.toNat Z2).Parent) (c := ((v12.getD v33.toNat Z2).Id != (v12.getD v15.toNat Z2).Parent)) I I I I) <| Zb 11 I (Zl (v := (.bool ((v12.getD v33.toNat Z2).Id != (v12.getD v15.toNat Z2).Parent))) I I) ?_
             have hif := Z1w h
             refine AOpsD.split (fun hc => ?_) (fun hc => ?_)
             ·have h := hif.1 hc
              refine Zx 12 I I I I I I I <| Zx 13 I I I I I I I <| Zx 14 I I I I I I I <| Zx 15 I I I I I I I <| Zx 16 I I I I I I I <| Zx 17 I I I I I I I <| Zx 18 I I I I I I I <| Zx 19 I I I I I I I ?_
              refine Zx 20 I I I I I I I <| Zx 21 I I I I I I I <| Zx 22 I I I I I I I <| Zb 23 I (Z23 (v := (.bool true)) I I I) <| Z1t (by kernel_rfl) I <| Zi ?_
              refine Z16 (b := true) I (fun hc => ?_) (fun hc => ?_)
              rotate_left
              ·cases hc
              refine AWp.exit <| At.thru <| At.out ?_
              exact Z13 (st' := ⟨[(0, (.vs 2000)), (2, (.ptr 2 0)), (3, (.ptr 3 0)), (4, (.int .i64 v2)), (5, (.sl 14 (v12.map Z8) false)), (6, (.int .i64 (a0.getD v2.toNat Z5).Weight)), (7, (.int .i64 v15)), (9, (.int .i64 v33))], [(2, (.box [(.sl 4 [] false), (.sl 5 [] false)])), (3, (.box (Zc v34).cells)), (2000, (.vec 3 (List.map Zq a0)))]⟩) ⟨rfl, rfl, rfl, rfl, rfl, rfl, rfl, rfl, trivial⟩ ⟨rfl, rfl, rfl, trivial⟩ (J41 v34 h)
             ·have h := hif.2 hc
              refine Z12 12 I I I I (Zl (v := (.sl 14 (v12.map Z8) false)) I I) <| Z12 13 I I I I (Zl (v := (.int .i64 v33)) I I) ?_
              have ⟨hg44, h⟩ := Z14 h
              refine Z12 14 I I I I (Z1s (k := .i64) (l := v12) (enc := Z8) (z := Z2) (n := v33) (cs := (Z8 (v12.getD v33.toNat Z2)).cells) (full := false) I s37 I I hg44 I) <| Z12 15 I I I I (Z2f (cs := (Z8 (v12.getD v33.toNat Z2)).cells) (ds := [(.str (v12.getD v33.toNat Z2).Service), (.str (v12.getD v33.toNat Z2).Version), (.str (v12.getD v33.toNat Z2).Operation), (.int .i64 (v12.getD v33.toNat Z2).Start), (.int .i64 (v12.getD v33.toNat Z2).End), (.bool (v12.getD v33.toNat Z2).Error), (.sl 4 ((v12.getD v33.toNat Z2).Attrs.map Zv) false), (.sl 2 ((v12.getD v33.toNat Z2).Links.map Z11) false)]) I Z87 I I I) <| Z12 16 I I I I (Z28 (cs := [(.str (v12.getD v33.toNat Z2).Service), (.str (v12.getD v33.toNat Z2).Version), (.str (v12.getD v33.toNat Z2).Operation), (.int .i64 (v12.getD v33.toNat Z2).Start), (.int .i64 (v12.getD v33.toNat Z2).End), (.bool (v12.getD v33.toNat Z2).Error), (.sl 4 ((v12.getD v33.toNat Z2).Attrs.map Zv) false), (.sl 2 ((v12.getD v33.toNat Z2).Links.map Z11) false)]) (v := (.str (v12.getD v33.toNat Z2).Service)) I o9 I I) <| Z12 17 I I I I (Zl (v := (.sl 14 (v12.map Z8) false)) I I) <| Z12 18 I I I I (Zl (v := (.int .i64 v15)) I I) ?_
              have ⟨hg45, h⟩ := Z14 h
              refine Z12 19 I I I I (Z1s (k := .i64) (l := v12) (enc := Z8) (z := Z2) (n := v15) (cs := (Z8 (v12.getD v15.toNat Z2)).cells) (full := false) I s37 I I hg45 I) <| Z12 20 I I I I (Z2f (cs := (Z8 (v12.getD v15.toNat Z2)).cells) (ds := [(.str (v12.getD v15.toNat Z2).Service), (.str (v12.getD v15.toNat Z2).Version), (.str (v12.getD v15.toNat Z2).Operation), (.int .i64 (v12.getD v15.toNat Z2).Start), (.int .i64 (v12.getD v15.toNat Z2).End), (.bool (v12.getD v15.toNat Z2).Error), (.sl 4 ((v12.getD v15.toNat Z2).Attrs.map Zv) false), (.sl 2 ((v12.getD v15.toNat Z2).Links.map Z11) false)]) I Z87 I I I) <| Z12 21 I I I I (Z28 (cs := [(.str (v12.getD v15.toNat Z2).Service), (.str (v12.getD v15.toNat Z2).Version), (.str (v12.getD v15.toNat Z2).Operation), (.int .i64 (v12.getD v15.toNat Z2).Start), (.int .i64 (v12.getD v15.toNat Z2).End), (.bool (v12.getD v15.toNat Z2).Error), (.sl 4 ((v12.getD v15.toNat Z2).Attrs.map Zv) false), (.sl 2 ((v12.getD v15.toNat Z2).Links.map Z11) false)]) (v := (.str (v12.getD v15.toNat Z2).Service)) I o9 I I) <| Z12 22 I I I I (Z3d (a := (v12.getD v33.toNat Z2).Service) (b := (v12.getD v15.toNat Z2).Service) (c := ((v12.getD v33.toNat Z2).Service == (v12.getD v15.toNat Z2).Service)) I I I I) <| Zb 23 I (Z20 (v := (.bool ((v12.getD v33.toNat Z2).Service == (v12.getD v15.toNat Z2).Service))) I I I) <| Z1t (by kernel_rfl) I <| Zi ?_
              have hif := Z1w h
              refine Z16 I (fun hc => ?_) (fun hc => ?_)
              ·have h := hif.1 hc
               refine AWp.exit <| At.thru <| At.out ?_
               exact Z13 (st' := ⟨[(0, (.vs 2000)), (2, (.ptr 2 0)), (3, (.ptr 3 0)), (4, (.int .i64 v2)), (5, (.sl 14 (v12.map Z8) false)), (6, (.int .i64 (a0.getD v2.toNat Z5).Weight)), (7, (.int .i64 v15)), (9, (.int .i64 v33))], [(2, (.box [(.sl 4 [] false), (.sl 5 [] false)])), (3, (.box (Zc v34).cells)), (2000, (.vec 3 (List.map Zq a0)))]⟩) ⟨rfl, rfl, rfl, rfl, rfl, rfl, rfl, rfl, trivial⟩ ⟨rfl, rfl, rfl, trivial⟩ (J41 v34 h)
              ·have h := hif.2 hc
               refine Z1a <| Zi <| Zj <| Z1r mixed <| Zb 0 I (Z1n (cs := (Zc v34).cells) (vs := (Zc v34).cells) I a44 I I I I) <| Zb 1 I (Zl (v := (.sl 14 (v12.map Z8) false)) I I) <| Zb 2 I (Zl (v := (.int .i64 v33)) I I) ?_
               have ⟨hg46, h⟩ := Z14 h
               refine Zb 3 I (Z1s (k := .i64) (l := v12) (enc := Z8) (z := Z2) (n := v33) (cs := (Z8 (v12.getD v33.toNat Z2)).cells) (full := false) I s37 I I hg46 I) <| Zb 4 I (Z2f (cs := (Z8 (v12.getD v33.toNat Z2)).cells) (ds := [(.str (v12.getD v33.toNat Z2).Service), (.str (v12.getD v33.toNat Z2).Version), (.str (v12.getD v33.toNat Z2).Operation), (.int .i64 (v12.getD v33.toNat Z2).Start), (.int .i64 (v12.getD v33.toNat Z2).End), (.bool (v12.getD v33.toNat Z2).Error), (.sl 4 ((v12.getD v33.toNat Z2).Attrs.map Zv) false), (.sl 2 ((v12.getD v33.toNat Z2).Links.map Z11) false)]) I Z87 I I I) <| Zb 5 I (Z28 (cs := [(.str (v12.getD v33.toNat Z2).Service), (.str (v12.getD v33.toNat Z2).Version), (.str (v12.getD v33.toNat Z2).Operation), (.int .i64 (v12.getD v33.toNat Z2).Start), (.int .i64 (v12.getD v33.toNat Z2).End), (.bool (v12.getD v33.toNat Z2).Error), (.sl 4 ((v12.getD v33.toNat Z2).Attrs.map Zv) false), (.sl 2 ((v12.getD v33.toNat Z2).Links.map Z11) false)]) (v := (.str (v12.getD v33.toNat Z2).Service)) I o9 I I) <| Zb 6 I (Zl (v := (.sl 14 (v12.map Z8) false)) I I) <| Zb 7 I (Zl (v := (.int .i64 v15)) I I) ?_
               have ⟨hg47, h⟩ := Z14 h
               refine Zb 8 I (Z1s (k := .i64) (l := v12) (enc := Z8) (z := Z2) (n := v15) (cs := (Z8 (v12.getD v15.toNat Z2)).cells) (full := false) I s37 I I hg47 I) <| Zb 9 I (Z2f (cs := (Z8 (v12.getD v15.toNat Z2)).cells) (ds := [(.str (v12.getD v15.toNat Z2).Service), (.str (v12.getD v15.toNat Z2).Version), (.str (v12.getD v15.toNat Z2).Operation), (.int .i64 (v12.getD v15.toNat Z2).Start), (.int .i64 (v12.getD v15.toNat Z2).End), (.bool (v12.getD v15.toNat Z2).Error), (.sl 4 ((v12.getD v15.toNat Z2).Attrs.map Zv) false), (.sl 2 ((v12.getD v15.toNat Z2).Links.map Z11) false)]) I Z87 I I I) <| Zb 10 I (Z28 (cs := [(.str (v12.getD v15.toNat Z2).Service), (.str (v12.getD v15.toNat Z2).Version), (.str (v12.getD v15.toNat Z2).Operation), (.int .i64 (v12.getD v15.toNat Z2).Start), (.int .i64 (v12.getD v15.toNat Z2).End), (.bool (v12.getD v15.toNat Z2).Error), (.sl 4 ((v12.getD v15.toNat Z2).Attrs.map Zv) false), (.sl 2 ((v12.getD v15.toNat Z2).Links.map Z11) false)]) (v := (.str (v12.getD v15.toNat Z2).Service)) I o9 I I) ?_
               have ⟨v49, hv49, h⟩ := Z1d h
               refine Zb 11 I (Z1e (ar := [(Zc v34), (.str (v12.getD v33.toNat Z2).Service), (.str (v12.getD v15.toNat Z2).Service)]) (caps := []) Tryz.call54 (F54_ok K v34 (v12.getD v33.toNat Z2).Service (v12.getD v15.toNat Z2).Service v49 hv49) I I ⟨rfl, rfl, rfl, trivial⟩ I) <| Zb 12 I (Z21 (cs := [(.str []), (.str []), (.int .i64 0), (.int .i64 0), (.int .i64 0)]) I z88 I I I) <| Zb 13 I (Z1b (cs := [(.str []), (.str []), (.int .i64 0), (.int .i64 0), (.int .i64 0)]) (vs := (Z6 v49).cells) (ds := (Z6 v49).cells) (v := (Z6 v49)) sz88 I I I I I I I I) <| Z1t (by kernel_rfl) I <| Zi <| Zj <| Z1r mixed <| Zb 0 I (Zr (m := 10) (o := 0) I f88_2 I I) ?_
               refine Zb 1 I (Zy (cs := (Z6 v49).cells) (v := (.int .i64 v49.Count)) I o3 I I I) <| Zb 2 I (Zl (v := (.int .i64 (a0.getD v2.toNat Z5).Weight)) I I) <| Zb 3 I (Z1k (k := .i64) (a := v49.Count) (b := (a0.getD v2.toNat Z5).Weight) (c := (IntKind.i64.wrap (v49.Count + (a0.getD v2.toNat Z5).Weight))) I I I I) <| Zb 4 I (Zr (m := 10) (o := 0) I f88_4 I I) <| Zb 5 I (Zy (cs := (Z6 v49).cells) (v := (.int .i64 v49.Time)) I o3 I I I) <| Zb 6 I (Zl (v := (.int .i64 (a0.getD v2.toNat Z5).Weight)) I I) <| Zb 7 I (Zl (v := (.sl 14 (v12.map Z8) false)) I I) <| Zb 8 I (Zl (v := (.int .i64 v15)) I I) ?_
               have ⟨hg50, h⟩ := Z14 h
               refine Zb 9 I (Z1s (k := .i64) (l := v12) (enc := Z8) (z := Z2) (n := v15) (cs := (Z8 (v12.getD v15.toNat Z2)).cells) (full := false) I s37 I I hg50 I) <| Zb 10 I (Z2h (cs := (Z8 (v12.getD v15.toNat Z2)).cells) (vs := (Z8 (v12.getD v15.toNat Z2)).cells) I a56 I I I) ?_
               have ⟨v52, hv52, h⟩ := Z1d h
               refine Zb 11 I (Z1e (ar := [(Z8 (v12.getD v15.toNat Z2))]) (caps := []) Tryz.call51 (F51_ok K (v12.getD v15.toNat Z2) v52 hv52) I I ⟨rfl, trivial⟩ I) <| Zb 12 I (Z1k (k := .i64) (a := (a0.getD v2.toNat Z5).Weight) (b := v52) (c := (IntKind.i64.wrap ((a0.getD v2.toNat Z5).Weight * v52))) I I I I) <| Zb 13 I (Z1k (k := .i64) (a := v49.Time) (b := (IntKind.i64.wrap ((a0.getD v2.toNat Z5).Weight * v52))) (c := (IntKind.i64.wrap (v49.Time + (IntKind.i64.wrap ((a0.getD v2.toNat Z5).Weight * v52))))) I I I I) <| Zb 14 I (Zr (m := 10) (o := 0) I f88_2 I I) <| Zb 15 I (Z1b (cs := (Z6 v49).cells) (vs := [(.int .i64 (IntKind.i64.wrap (v49.Count + (a0.getD v2.toNat Z5).Weight)))]) (ds := [(.str v49.Caller), (.str v49.Callee), (.int .i64 (IntKind.i64.wrap (v49.Count + (a0.getD v2.toNat Z5).Weight))), (.int .i64 v49.Errors), (.int .i64 v49.Time)]) (v := (.int .i64 (IntKind.i64.wrap (v49.Count + (a0.getD v2.toNat Z5).Weight)))) sz3 I I I I I I I I) <| Zb 16 I (Zr (m := 10) (o := 0) I f88_4 I I) <| Zb 17 I (Z1b (cs := [(.str v49.Caller), (.str v49.Callee), (.int .i64 (IntKind.i64.wrap (v49.Count + (a0.getD v2.toNat Z5).Weight))), (.int .i64 v49.Errors), (.int .i64 v49.Time)]) (vs := [(.int .i64 (IntKind.i64.wrap (v49.Time + (IntKind.i64.wrap ((a0.getD v2.toNat Z5).Weight * v52)))))]) (ds := [(.str v49.Caller), (.str v49.Callee), (.int .i64 (IntKind.i64.wrap (v49.Count + (a0.getD v2.toNat Z5).Weight))), (.int .i64 v49.Errors), (.int .i64 (IntKind.i64.wrap (v49.Time + (IntKind.i64.wrap ((a0.getD v2.toNat Z5).Weight * v52)))))]) (v := (.int .i64 (IntKind.i64.wrap (v49.Time + (IntKind.i64.wrap ((a0.getD v2.toNat Z5).Weight * v52)))))) sz3 I I I I I I I I) <| Z1t (by kernel_rfl) I ?_
               refine Zi <| Zj <| Zj <| Zd <| Z1 I (Zl (v := (.sl 14 (v12.map Z8) false)) I I) I <| Z1 I (Zl (v := (.int .i64 v15)) I I) I ?_
               have ⟨hg53, h⟩ := Z14 h
               refine Z1 I (Z1s (k := .i64) (l := v12) (enc := Z8) (z := Z2) (n := v15) (cs := (Z8 (v12.getD v15.toNat Z2)).cells) (full := false) I s37 I I hg53 I) I <| Z1 I (Z2f (cs := (Z8 (v12.getD v15.toNat Z2)).cells) (ds := [(.bool (v12.getD v15.toNat Z2).Error), (.sl 4 ((v12.getD v15.toNat Z2).Attrs.map Zv) false), (.sl 2 ((v12.getD v15.toNat Z2).Links.map Z11) false)]) I Zao I I I) I <| Z1 I (Z28 (cs := [(.bool (v12.getD v15.toNat Z2).Error), (.sl 4 ((v12.getD v15.toNat Z2).Attrs.map Zv) false), (.sl 2 ((v12.getD v15.toNat Z2).Links.map Z11) false)]) (v := (.bool (v12.getD v15.toNat Z2).Error)) I o4 I I) I <| Zh <| Zi ?_
               refine AWp.join (V := Zk) (lp := fun v => Z4q K v34 (Z2s K v12 v15 a0 v2 (Z3t K (Z2x K v12 a0 v2 (Z34 K (Z30 K a0 (Z35 K) k4) v2) k17) v15) k35) v33 v = some r) (sh := fun v => ⟨[(0, (.vs 2000)), (2, (.ptr 2 0)), (3, (.ptr 3 0)), (4, (.int .i64 v2)), (5, (.sl 14 (v12.map Z8) false)), (6, (.int .i64 (a0.getD v2.toNat Z5).Weight)), (7, (.int .i64 v15)), (9, (.int .i64 v33)), (10, (.ptr 10 0))], [(2, (.box [(.sl 4 [] false), (.sl 5 [] false)])), (3, (.box (Zc v34).cells)), (10, (.box (Z6 v).cells)), (2000, (.vec 3 (List.map Zq a0)))]⟩) ?_ ?_
               ·intro v h
                revert h
                revert v
                intro v54 h
                try dsimp only at h ⊢
                unfold Z4q at h
                refine Zi <| Zd <| Z1 I (Z1n (cs := (Zc v34).cells) (vs := (Zc v34).cells) I a44 I I I I) I <| Z1 I (Z1n (cs := (Z6 v54).cells) (vs := (Z6 v54).cells) I a88 I I I I) I ?_
                have ⟨v57, hv57, h⟩ := Z1d h
                refine Z1 I (Z1e (ar := [(Zc v34), (Z6 v54)]) (caps := []) Tryz.call55 (F55_ok K v34 v54 v57 hv57) I I ⟨rfl, rfl, trivial⟩ I) I <| Z1 I (Z1b (cs := (Zc v34).cells) (vs := (Zc v57).cells) (ds := (Zc v57).cells) (v := (Zc v57)) sz44 I I I I I I I I) I <| Zh <| At.end ?_
                exact Z13 (st' := ⟨[(0, (.vs 2000)), (2, (.ptr 2 0)), (3, (.ptr 3 0)), (4, (.int .i64 v2)), (5, (.sl 14 (v12.map Z8) false)), (6, (.int .i64 (a0.getD v2.toNat Z5).Weight)), (7, (.int .i64 v15)), (9, (.int .i64 v33))], [(2, (.box [(.sl 4 [] false), (.sl 5 [] false)])), (3, (.box (Zc v57).cells)), (2000, (.vec 3 (List.map Zq a0)))]⟩) ⟨rfl, rfl, rfl, rfl, rfl, rfl, rfl, rfl, trivial⟩ ⟨rfl, rfl, rfl, trivial⟩ (J41 v57 h)
               ·intro J55
                have hif := Z1w h
                refine Z16 I (fun hc => ?_) (fun hc => ?_)
                ·have h := hif.1 hc
                 refine Zd <| Z1 I (Zr (m := 10) (o := 0) I f88_3 I I) I <| Z1 I (Zy (cs := [(.str v49.Caller), (.str v49.Callee), (.int .i64 (IntKind.i64.wrap (v49.Count + (a0.getD v2.toNat Z5).Weight))), (.int .i64 v49.Errors), (.int .i64 (IntKind.i64.wrap (v49.Time + (IntKind.i64.wrap ((a0.getD v2.toNat Z5).Weight * v52)))))]) (v := (.int .i64 v49.Errors)) I o3 I I I) I <| Z1 I (Zl (v := (.int .i64 (a0.getD v2.toNat Z5).Weight)) I I) I <| Z1 I (Z1k (k := .i64) (a := v49.Errors) (b := (a0.getD v2.toNat Z5).Weight) (c := (IntKind.i64.wrap (v49.Errors + (a0.getD v2.toNat Z5).Weight))) I I I I) I <| Z1 I (Zr (m := 10) (o := 0) I f88_3 I I) I <| Z1 I (Z1b (cs := [(.str v49.Caller), (.str v49.Callee), (.int .i64 (IntKind.i64.wrap (v49.Count + (a0.getD v2.toNat Z5).Weight))), (.int .i64 v49.Errors), (.int .i64 (IntKind.i64.wrap (v49.Time + (IntKind.i64.wrap ((a0.getD v2.toNat Z5).Weight * v52)))))]) (vs := [(.int .i64 (IntKind.i64.wrap (v49.Errors + (a0.getD v2.toNat Z5).Weight)))]) (ds := [(.str v49.Caller), (.str v49.Callee), (.int .i64 (IntKind.i64.wrap (v49.Count + (a0.getD v2.toNat Z5).Weight))), (.int .i64 (IntKind.i64.wrap (v49.Errors + (a0.getD v2.toNat Z5).Weight))), (.int .i64 (IntKind.i64.wrap (v49.Time + (IntKind.i64.wrap ((a0.getD v2.toNat Z5).Weight * v52)))))]) (v := (.int .i64 (IntKind.i64.wrap (v49.Errors + (a0.getD v2.toNat Z5).Weight)))) sz3 I I I I I I I I) I <| Zh ?_
                 exact Z13 (st' := ⟨[(0, (.vs 2000)), (2, (.ptr 2 0)), (3, (.ptr 3 0)), (4, (.int .i64 v2)), (5, (.sl 14 (v12.map Z8) false)), (6, (.int .i64 (a0.getD v2.toNat Z5).Weight)), (7, (.int .i64 v15)), (9, (.int .i64 v33)), (10, (.ptr 10 0))], [(2, (.box [(.sl 4 [] false), (.sl 5 [] false)])), (3, (.box (Zc v34).cells)), (10, (.box (Z6 (⟨v49.Caller, v49.Callee, (IntKind.i64.wrap (v49.Count + (a0.getD v2.toNat Z5).Weight)), (IntKind.i64.wrap (v49.Errors + (a0.getD v2.toNat Z5).Weight)), (IntKind.i64.wrap (v49.Time + (IntKind.i64.wrap ((a0.getD v2.toNat Z5).Weight * v52))))⟩ : Zk)).cells)), (2000, (.vec 3 (List.map Zq a0)))]⟩) ⟨rfl, rfl, rfl, rfl, rfl, rfl, rfl, rfl, rfl, trivial⟩ ⟨rfl, rfl, rfl, rfl, trivial⟩ (J55 (⟨v49.Caller, v49.Callee, (IntKind.i64.wrap (v49.Count + (a0.getD v2.toNat Z5).Weight)), (IntKind.i64.wrap (v49.Errors + (a0.getD v2.toNat Z5).Weight)), (IntKind.i64.wrap (v49.Time + (IntKind.i64.wrap ((a0.getD v2.toNat Z5).Weight * v52))))⟩ : Zk) h)
                ·have h := hif.2 hc
                 refine Z1a ?_
                 exact Z13 (st' := ⟨[(0, (.vs 2000)), (2, (.ptr 2 0)), (3, (.ptr 3 0)), (4, (.int .i64 v2)), (5, (.sl 14 (v12.map Z8) false)), (6, (.int .i64 (a0.getD v2.toNat Z5).Weight)), (7, (.int .i64 v15)), (9, (.int .i64 v33)), (10, (.ptr 10 0))], [(2, (.box [(.sl 4 [] false), (.sl 5 [] false)])), (3, (.box (Zc v34).cells)), (10, (.box (Z6 (⟨v49.Caller, v49.Callee, (IntKind.i64.wrap (v49.Count + (a0.getD v2.toNat Z5).Weight)), v49.Errors, (IntKind.i64.wrap (v49.Time + (IntKind.i64.wrap ((a0.getD v2.toNat Z5).Weight * v52))))⟩ : Zk)).cells)), (2000, (.vec 3 (List.map Zq a0)))]⟩) ⟨rfl, rfl, rfl, rfl, rfl, rfl, rfl, rfl, rfl, trivial⟩ ⟨rfl, rfl, rfl, rfl, trivial⟩ (J55 (⟨v49.Caller, v49.Callee, (IntKind.i64.wrap (v49.Count + (a0.getD v2.toNat Z5).Weight)), v49.Errors, (IntKind.i64.wrap (v49.Time + (IntKind.i64.wrap ((a0.getD v2.toNat Z5).Weight * v52))))⟩ : Zk) h)
           ·have h := hif.2 hc
            refine AWp.exit <| At.thru ?_
            exact Z13 (st' := ⟨[(0, (.vs 2000)), (2, (.ptr 2 0)), (3, (.ptr 3 0)), (4, (.int .i64 v2)), (5, (.sl 14 (v12.map Z8) false)), (6, (.int .i64 (a0.getD v2.toNat Z5).Weight)), (7, (.int .i64 v15))], [(2, (.box [(.sl 4 [] false), (.sl 5 [] false)])), (3, (.box (Zc v34).cells)), (2000, (.vec 3 (List.map Zq a0)))]⟩) ⟨rfl, rfl, rfl, rfl, rfl, rfl, rfl, trivial⟩ ⟨rfl, rfl, rfl, trivial⟩ (J35 v34 h)
        ·intro J30
         have hif := Z1w h
         refine Z16 I (fun hc => ?_) (fun hc => ?_)
         ·have h := hif.1 hc
          refine Zd <| Z1 I (Zr (m := 8) (o := 0) I f68_3 I I) I <| Z1 I (Zy (cs := (Z3 v26).cells) (v := (.int .i64 v26.Roots)) I o3 I I I) I <| Z1 I (Zl (v := (.int .i64 (a0.getD v2.toNat Z5).Weight)) I I) I <| Z1 I (Z1k (k := .i64) (a := v26.Roots) (b := (a0.getD v2.toNat Z5).Weight) (c := (IntKind.i64.wrap (v26.Roots + (a0.getD v2.toNat Z5).Weight))) I I I I) I <| Z1 I (Zr (m := 8) (o := 0) I f68_3 I I) I <| Z1 I (Z1b (cs := (Z3 v26).cells) (vs := [(.int .i64 (IntKind.i64.wrap (v26.Roots + (a0.getD v2.toNat Z5).Weight)))]) (ds := [(.str v26.Name), (.int .i64 v26.Spans), (.int .i64 v26.Errors), (.int .i64 (IntKind.i64.wrap (v26.Roots + (a0.getD v2.toNat Z5).Weight)))]) (v := (.int .i64 (IntKind.i64.wrap (v26.Roots + (a0.getD v2.toNat Z5).Weight)))) sz3 I I I I I I I I) I <| Zh ?_
          exact Z13 (st' := ⟨[(0, (.vs 2000)), (2, (.ptr 2 0)), (3, (.ptr 3 0)), (4, (.int .i64 v2)), (5, (.sl 14 (v12.map Z8) false)), (6, (.int .i64 (a0.getD v2.toNat Z5).Weight)), (7, (.int .i64 v15)), (8, (.ptr 8 0))], [(2, (.box [(.sl 4 [] false), (.sl 5 [] false)])), (3, (.box (Zc v16).cells)), (8, (.box (Z3 (⟨v26.Name, v26.Spans, v26.Errors, (IntKind.i64.wrap (v26.Roots + (a0.getD v2.toNat Z5).Weight))⟩ : Zf)).cells)), (2000, (.vec 3 (List.map Zq a0)))]⟩) ⟨rfl, rfl, rfl, rfl, rfl, rfl, rfl, rfl, trivial⟩ ⟨rfl, rfl, rfl, rfl, trivial⟩ (J30 (⟨v26.Name, v26.Spans, v26.Errors, (IntKind.i64.wrap (v26.Roots + (a0.getD v2.toNat Z5).Weight))⟩ : Zf) h)
         ·have h := hif.2 hc
          refine Z1a ?_
          exact Z13 (st' := ⟨[(0, (.vs 2000)), (2, (.ptr 2 0)), (3, (.ptr 3 0)), (4, (.int .i64 v2)), (5, (.sl 14 (v12.map Z8) false)), (6, (.int .i64 (a0.getD v2.toNat Z5).Weight)), (7, (.int .i64 v15)), (8, (.ptr 8 0))], [(2, (.box [(.sl 4 [] false), (.sl 5 [] false)])), (3, (.box (Zc v16).cells)), (8, (.box (Z3 v26).cells)), (2000, (.vec 3 (List.map Zq a0)))]⟩) ⟨rfl, rfl, rfl, rfl, rfl, rfl, rfl, rfl, trivial⟩ ⟨rfl, rfl, rfl, rfl, trivial⟩ (J30 v26 h)
       ·intro J27
        have hif := Z1w h
        refine Z16 I (fun hc => ?_) (fun hc => ?_)
        ·have h := hif.1 hc
         refine Zd <| Z1 I (Zr (m := 8) (o := 0) I f68_2 I I) I <| Z1 I (Zy (cs := [(.str v24.Name), (.int .i64 (IntKind.i64.wrap (v24.Spans + (a0.getD v2.toNat Z5).Weight))), (.int .i64 v24.Errors), (.int .i64 v24.Roots)]) (v := (.int .i64 v24.Errors)) I o3 I I I) I <| Z1 I (Zl (v := (.int .i64 (a0.getD v2.toNat Z5).Weight)) I I) I <| Z1 I (Z1k (k := .i64) (a := v24.Errors) (b := (a0.getD v2.toNat Z5).Weight) (c := (IntKind.i64.wrap (v24.Errors + (a0.getD v2.toNat Z5).Weight))) I I I I) I <| Z1 I (Zr (m := 8) (o := 0) I f68_2 I I) I <| Z1 I (Z1b (cs := [(.str v24.Name), (.int .i64 (IntKind.i64.wrap (v24.Spans + (a0.getD v2.toNat Z5).Weight))), (.int .i64 v24.Errors), (.int .i64 v24.Roots)]) (vs := [(.int .i64 (IntKind.i64.wrap (v24.Errors + (a0.getD v2.toNat Z5).Weight)))]) (ds := [(.str v24.Name), (.int .i64 (IntKind.i64.wrap (v24.Spans + (a0.getD v2.toNat Z5).Weight))), (.int .i64 (IntKind.i64.wrap (v24.Errors + (a0.getD v2.toNat Z5).Weight))), (.int .i64 v24.Roots)]) (v := (.int .i64 (IntKind.i64.wrap (v24.Errors + (a0.getD v2.toNat Z5).Weight)))) sz3 I I I I I I I I) I <| Zh ?_
         exact Z13 (st' := ⟨[(0, (.vs 2000)), (2, (.ptr 2 0)), (3, (.ptr 3 0)), (4, (.int .i64 v2)), (5, (.sl 14 (v12.map Z8) false)), (6, (.int .i64 (a0.getD v2.toNat Z5).Weight)), (7, (.int .i64 v15)), (8, (.ptr 8 0))], [(2, (.box [(.sl 4 [] false), (.sl 5 [] false)])), (3, (.box (Zc v16).cells)), (8, (.box (Z3 (⟨v24.Name, (IntKind.i64.wrap (v24.Spans + (a0.getD v2.toNat Z5).Weight)), (IntKind.i64.wrap (v24.Errors + (a0.getD v2.toNat Z5).Weight)), v24.Roots⟩ : Zf)).cells)), (2000, (.vec 3 (List.map Zq a0)))]⟩) ⟨rfl, rfl, rfl, rfl, rfl, rfl, rfl, rfl, trivial⟩ ⟨rfl, rfl, rfl, rfl, trivial⟩ (J27 (⟨v24.Name, (IntKind.i64.wrap (v24.Spans + (a0.getD v2.toNat Z5).Weight)), (IntKind.i64.wrap (v24.Errors + (a0.getD v2.toNat Z5).Weight)), v24.Roots⟩ : Zf) h)
        ·have h := hif.2 hc
         refine Z1a ?_
         exact Z13 (st' := ⟨[(0, (.vs 2000)), (2, (.ptr 2 0)), (3, (.ptr 3 0)), (4, (.int .i64 v2)), (5, (.sl 14 (v12.map Z8) false)), (6, (.int .i64 (a0.getD v2.toNat Z5).Weight)), (7, (.int .i64 v15)), (8, (.ptr 8 0))], [(2, (.box [(.sl 4 [] false), (.sl 5 [] false)])), (3, (.box (Zc v16).cells)), (8, (.box (Z3 (⟨v24.Name, (IntKind.i64.wrap (v24.Spans + (a0.getD v2.toNat Z5).Weight)), v24.Errors, v24.Roots⟩ : Zf)).cells)), (2000, (.vec 3 (List.map Zq a0)))]⟩) ⟨rfl, rfl, rfl, rfl, rfl, rfl, rfl, rfl, trivial⟩ ⟨rfl, rfl, rfl, rfl, trivial⟩ (J27 (⟨v24.Name, (IntKind.i64.wrap (v24.Spans + (a0.getD v2.toNat Z5).Weight)), v24.Errors, v24.Roots⟩ : Zf) h)
      ·have h := hif.2 hc
       refine AWp.exit <| At.thru ?_
       exact Z13 (st' := ⟨[(0, (.vs 2000)), (2, (.ptr 2 0)), (3, (.ptr 3 0)), (4, (.int .i64 v2))], [(2, (.box [(.sl 4 [] false), (.sl 5 [] false)])), (3, (.box (Zc v16).cells)), (2000, (.vec 3 (List.map Zq a0)))]⟩) ⟨rfl, rfl, rfl, rfl, trivial⟩ ⟨rfl, rfl, rfl, trivial⟩ (J17 v16 h)
   ·have h := hif.2 hc
    refine AWp.exit <| At.thru ?_
    exact Z13 (st' := ⟨[(2, (.ptr 2 0)), (3, (.ptr 3 0))], [(2, (.box [(.sl 4 [] false), (.sl 5 [] false)])), (3, (.box (Zc v3).cells)), (2000, (.vec 3 (List.map Zq a0)))]⟩) ⟨rfl, rfl, trivial⟩ ⟨rfl, rfl, rfl, trivial⟩ (J4 v3 h)
noncomputable def Za2 (K : Nat) (v12 : Int × Ze) (v18 : (List Zu)) : Option (Bool) :=
 (F17 K v18).bind fun v22 =>
  (F19 K v12.2 v22.2).bind fun v24 =>
   if v24 = true then
    some (v22.1 == 0)
   else
    some false
def Zcz (K : Nat) (v15 : Int) (v16 : (List Zu)) (b25 : Int → (List Zu) → Option (Bool)) (v31 : (List Zg)) : Option (Bool) :=
 if (0 : Int) ≤ v15 ∧ v15 < (v16.length : Nat) then
  if v15.toNat < v16.length then
   b25 (IntKind.i64.wrap (v15 + 1)) (v16.set v15.toNat (⟨(v16.getD v15.toNat Z5).Id, (v16.getD v15.toNat Z5).Weight, v31⟩ : Zu))
  else none
 else none
def Zb8 (K : Nat) (v15 : Int) (v16 : (List Zu)) (c33 : (List Zg) → Option (Bool)) : Nat → Int → (List Zg) → Option (Bool)
 | 0, _, _ => none
 | k30 + 1, v28, v29 =>
  if (decide (v28 ≥ 0)) = true then
   if (0 : Int) ≤ v15 ∧ v15 < (v16.length : Nat) then
    if v15.toNat < v16.length then
     if (0 : Int) ≤ v28 ∧ v28 < (v16.getD v15.toNat Z5).Spans.length then
      if (0 : Int) ≤ v15 ∧ v15 < (v16.length : Nat) then
       if v15.toNat < v16.length then
        if (0 : Int) ≤ v28 ∧ v28 < (v16.getD v15.toNat Z5).Spans.length then
         if v29.length + ([(⟨((v16.getD v15.toNat Z5).Spans.getD v28.toNat Z2).Trace, ((v16.getD v15.toNat Z5).Spans.getD v28.toNat Z2).Id, ((v16.getD v15.toNat Z5).Spans.getD v28.toNat Z2).Parent, ((v16.getD v15.toNat Z5).Spans.getD v28.toNat Z2).Revision, ((v16.getD v15.toNat Z5).Spans.getD v28.toNat Z2).Clock, ((v16.getD v15.toNat Z5).Spans.getD v28.toNat Z2).Kind, [111, 108, 100], ((v16.getD v15.toNat Z5).Spans.getD v28.toNat Z2).Version, ((v16.getD v15.toNat Z5).Spans.getD v28.toNat Z2).Operation, ((v16.getD v15.toNat Z5).Spans.getD v28.toNat Z2).Start, ((v16.getD v15.toNat Z5).Spans.getD v28.toNat Z2).End, true, ((v16.getD v15.toNat Z5).Spans.getD v28.toNat Z2).Attrs, ((v16.getD v15.toNat Z5).Spans.getD v28.toNat Z2).Links⟩ : Zg), (⟨((v16.getD v15.toNat Z5).Spans.getD v28.toNat Z2).Trace, ((v16.getD v15.toNat Z5).Spans.getD v28.toNat Z2).Id, ((v16.getD v15.toNat Z5).Spans.getD v28.toNat Z2).Parent, 2, ((v16.getD v15.toNat Z5).Spans.getD v28.toNat Z2).Clock, ((v16.getD v15.toNat Z5).Spans.getD v28.toNat Z2).Kind, ((v16.getD v15.toNat Z5).Spans.getD v28.toNat Z2).Service, ((v16.getD v15.toNat Z5).Spans.getD v28.toNat Z2).Version, ((v16.getD v15.toNat Z5).Spans.getD v28.toNat Z2).Operation, ((v16.getD v15.toNat Z5).Spans.getD v28.toNat Z2).Start, ((v16.getD v15.toNat Z5).Spans.getD v28.toNat Z2).End, ((v16.getD v15.toNat Z5).Spans.getD v28.toNat Z2).Error, ((v16.getD v15.toNat Z5).Spans.getD v28.toNat Z2).Attrs, ((v16.getD v15.toNat Z5).Spans.getD v28.toNat Z2).Links⟩ : Zg)]).length ≤ 1073741824 then
          (Zb8 K v15 v16 c33 k30) (IntKind.i64.wrap (v28 - 1)) (v29 ++ ([(⟨((v16.getD v15.toNat Z5).Spans.getD v28.toNat Z2).Trace, ((v16.getD v15.toNat Z5).Spans.getD v28.toNat Z2).Id, ((v16.getD v15.toNat Z5).Spans.getD v28.toNat Z2).Parent, ((v16.getD v15.toNat Z5).Spans.getD v28.toNat Z2).Revision, ((v16.getD v15.toNat Z5).Spans.getD v28.toNat Z2).Clock, ((v16.getD v15.toNat Z5).Spans.getD v28.toNat Z2).Kind, [111, 108, 100], ((v16.getD v15.toNat Z5).Spans.getD v28.toNat Z2).Version, ((v16.getD v15.toNat Z5).Spans.getD v28.toNat Z2).Operation, ((v16.getD v15.toNat Z5).Spans.getD v28.toNat Z2).Start, ((v16.getD v15.toNat Z5).Spans.getD v28.toNat Z2).End, true, ((v16.getD v15.toNat Z5).Spans.getD v28.toNat Z2).Attrs, ((v16.getD v15.toNat Z5).Spans.getD v28.toNat Z2).Links⟩ : Zg), (⟨((v16.getD v15.toNat Z5).Spans.getD v28.toNat Z2).Trace, ((v16.getD v15.toNat Z5).Spans.getD v28.toNat Z2).Id, ((v16.getD v15.toNat Z5).Spans.getD v28.toNat Z2).Parent, 2, ((v16.getD v15.toNat Z5).Spans.getD v28.toNat Z2).Clock, ((v16.getD v15.toNat Z5).Spans.getD v28.toNat Z2).Kind, ((v16.getD v15.toNat Z5).Spans.getD v28.toNat Z2).Service, ((v16.getD v15.toNat Z5).Spans.getD v28.toNat Z2).Version, ((v16.getD v15.toNat Z5).Spans.getD v28.toNat Z2).Operation, ((v16.getD v15.toNat Z5).Spans.getD v28.toNat Z2).Start, ((v16.getD v15.toNat Z5).Spans.getD v28.toNat Z2).End, ((v16.getD v15.toNat Z5).Spans.getD v28.toNat Z2).Error, ((v16.getD v15.toNat Z5).Spans.getD v28.toNat Z2).Attrs, ((v16.getD v15.toNat Z5).Spans.getD v28.toNat Z2).Links⟩ : Zg)]))
         else none
        else none
       else none
      else none
     else none
    else none
   else none
  else
   c33 v29
def Z6h (K : Nat) (c20 : (List Zu) → Option (Bool)) : Nat → Int → (List Zu) → Option (Bool)
 | 0, _, _ => none
 | k17 + 1, v15, v16 =>
  if (decide (v15 < (v16.length : Int))) = true then
   if (0 : Int) ≤ v15 ∧ v15 < (v16.length : Nat) then
    if v15.toNat < v16.length then
     Zb8 K v15 v16 (Zcz K v15 v16 (Z6h K c20 k17)) K (IntKind.i64.wrap (((v16.getD v15.toNat Z5).Spans.length : Int) - 1)) []
    else none
   else none
  else
   c20 v16
noncomputable def Zdc (K : Nat) (v12 : Int × Ze) (v10 : (List Zu)) (v13 : Bool) : Option (Bool) :=
 if v13 = true then
  some false
 else
  Z6h K (Za2 K v12) K 0 v10
noncomputable def F4 (K : Nat) (a0 : Z10) (a1 : Z3v) : Option (Bool) :=
 (F11 K).bind fun v2 =>
  if (!v2) = true then
   (F11 K).bind fun v4 =>
    some v4
  else
   (F12 K a0).bind fun v6 =>
    if (!v6) = true then
     (F11 K).bind fun v8 =>
      some v8
    else
     (F13 K a0 a1).bind fun v10 =>
      (F17 K v10).bind fun v12 =>
       (Zd4 K v10).bind fun v45 =>
        (F19 K v12.2 v45).bind fun v47 =>
         if (!v47) = true then
          Zdc K v12 v10 true
         else
          if (v12.1 != 0) = true then
           Zdc K v12 v10 true
          else
           (F21 K v12.2).bind fun v49 =>
            Zdc K v12 v10 (v49 != 0)
theorem F4_ok (K : Nat) (a0 : Z10) (a1 : Z3v) (r : Bool) (h : F4 K a0 a1 = some r) : ACall P 4 ⟨[(Zn a0), (Z2z a1)], [], (.bool r), [], []⟩ := by
 refine Z1q Tryz.func4 Tryz.results4 rfl Tryz.ntmps4 rfl rfl rfl ?_
 intro E Q hP hN hro hret
 obtain ⟨P', nt', w0, F0, p0, S0, β0, ro0⟩ := E
 simp only at hP hN
 subst hP hN
 dsimp only [argT]
 unfold F4 at h
 refine Zj <| Zd <| Z1 I (Z2o (v := (Zn a0)) (cs := (Zn a0).cells) I I I I I) I <| Z1 I (Z2o (v := (Z2z a1)) (cs := (Z2z a1).cells) I I I I I) I <| Z1 I (Zm (v := (.bool false)) I I) I <| Zh <| Zi <| Zj ?_
 refine Zj <| Zd ?_
 have ⟨v2, hv2, h⟩ := Z1d h
 refine Z1 I (Z1e (ar := []) (caps := []) Tryz.call11 (F11_ok K v2 hv2) I I trivial I) I <| Z1 I (Z3q (b := v2) I I) I <| Z1 I (Zl (v := (.bool (!v2))) I I) I ?_
 have hif := Z1w h
 refine AOps.split (fun hc => ?_) (fun hc => ?_)
 ·have h := hif.1 hc
  refine Zs I I I I I I I <| Zs I I I I I I I <| Zs I I I I I I I <| Z1 I (Z23 (v := (.bool true)) I I I) I <| Zh <| Zi ?_
  refine Z16 (b := true) I (fun hc => ?_) (fun hc => ?_)
  rotate_left
  ·cases hc
  refine Zj <| Zd ?_
  have ⟨v4, hv4, h⟩ := Z1d h
  refine Z1 I (Z1e (ar := []) (caps := []) Tryz.call11 (F11_ok K v4 hv4) I I trivial I) I <| Z1 I (Zm (v := (.bool v4)) I I) I <| Zh <| Zi <| Z1c <| Z18 ?_
  have h := Option.some.inj h
  subst h
  refine (hret _ ?_).1
  exact ⟨[(.bool v4)], ⟨rfl, trivial⟩, rfl, trivial⟩
 ·have h := hif.2 hc
  refine Zz I I I I (Z1n (cs := (Zn a0).cells) (vs := (Zn a0).cells) I a27 I I I I) I ?_
  have ⟨v6, hv6, h⟩ := Z1d h
  refine Zz I I I I (Z1e (ar := [(Zn a0)]) (caps := []) Tryz.call12 (F12_ok K a0 v6 hv6) I I ⟨rfl, trivial⟩ I) I <| Zz I I I I (Z3q (b := v6) I I) I <| Z1 I (Z20 (v := (.bool (!v6))) I I I) I <| Zh <| Zi ?_
  have hif := Z1w h
  refine Z16 I (fun hc => ?_) (fun hc => ?_)
  ·have h := hif.1 hc
   refine Zj <| Zd ?_
   have ⟨v8, hv8, h⟩ := Z1d h
   refine Z1 I (Z1e (ar := []) (caps := []) Tryz.call11 (F11_ok K v8 hv8) I I trivial I) I <| Z1 I (Zm (v := (.bool v8)) I I) I <| Zh <| Zi <| Z1c <| Z18 ?_
   have h := Option.some.inj h
   subst h
   refine (hret _ ?_).1
   exact ⟨[(.bool v8)], ⟨rfl, trivial⟩, rfl, trivial⟩
  ·have h := hif.2 hc
   refine Z1a <| Zi <| Zj <| Zd <| Z1 I (Z1n (cs := (Zn a0).cells) (vs := (Zn a0).cells) I a27 I I I I) I <| Z1 I (Z1n (cs := (Z2z a1).cells) (vs := (Z2z a1).cells) I a28 I I I I) I ?_
   have ⟨v10, hv10, h⟩ := Z1d h
   refine Z1 I (Z8s (sz := 3) (es := (List.map Zq v10)) (ar := [(Zn a0), (Z2z a1)]) (caps := []) Tryz.call13 ((F13_ok K a0 a1 v10 hv10).sw 4 25) I I ⟨rfl, rfl, trivial⟩ I) I <| Z1 I (Zm (v := (.vs 25)) I I) I <| Zh <| Zi <| Zj <| Zd <| Z1 I (Zl (v := (.vs 25)) I I) I ?_
   have ⟨v12, hv12, h⟩ := Z1d h
   refine Z1 I (Z37 (d := some 28) (c := ⟨[(.vs 25)] ++ [], [(25, (.vec 3 (List.map Zq v10)))], (.tup [(Zc v12.2), (.int .i64 v12.1)]), [(25, (.vec 3 (List.map Zq v10)))], []⟩) (ar := [(.vs 25)]) (caps := []) (news := []) (forg := []) Tryz.call17 ((F17_ok K v10 v12 hv12).sw 2000 25) I I ⟨rfl, trivial⟩ I ⟨rfl, trivial⟩ I) I <| Z1 I (Zl (v := (.tup [(Zc v12.2), (.int .i64 v12.1)])) I I) I <| Z1 I (Z2g (vs := [(Zc v12.2), (.int .i64 v12.1)]) (v := (Zc v12.2)) I I I) I <| Z1 I (Z2g (vs := [(Zc v12.2), (.int .i64 v12.1)]) (v := (.int .i64 v12.1)) I I I) I <| Z1 I (Z21 (cs := [(.sl 4 [] false), (.sl 5 [] false)]) I z44 I I I) I <| Z1 I (Z1b (cs := [(.sl 4 [] false), (.sl 5 [] false)]) (vs := (Zc v12.2).cells) (ds := (Zc v12.2).cells) (v := (Zc v12.2)) sz44 I I I I I I I I) I <| Z1 I (Zm (v := (.int .i64 v12.1)) I I) I <| Zh ?_
   refine Zi <| Zj <| Zj ?_
   refine AWp.join (V := Bool) (lp := fun v => Zdc K v12 v10 v = some r) (sh := fun v => ⟨[(5, (.vs 25)), (6, (.ptr 6 0)), (44, (.bool v))], [(6, (.box (Zc v12.2).cells)), (25, (.vec 3 (List.map Zq v10)))]⟩) ?_ ?_
   ·intro v h
    revert h
    revert v
    intro v13 h
    try dsimp only at h ⊢
    unfold Zdc at h
    refine Zi ?_
    have hif := Z1w h
    refine Z16 I (fun hc => ?_) (fun hc => ?_)
    ·have h := hif.1 hc
     refine Zj <| Zd <| Z1 I (Zm (v := (.bool false)) I I) I <| Zh <| Zi <| Z1c <| Z18 ?_
     have h := Option.some.inj h
     subst h
     refine (hret _ ?_).1
     exact ⟨[(.bool false)], ⟨rfl, trivial⟩, rfl, trivial⟩
    ·have h := hif.2 hc
     refine Z1a <| Zi <| Zj <| Zj <| Zd <| Z1 I (Zm (v := (.int .i64 0)) I I) I <| Zh <| Zi ?_
     refine AWp.ghost (st' := ⟨[(5, (.vs 5)), (6, (.ptr 6 0)), (8, (.int .i64 0))], [(5, (.vec 3 (List.map Zq v10))), (6, (.box (Zc v12.2).cells))]⟩) (fun a w h => (Z1g ⟨[(5, (.vs 5)), (6, (.ptr 6 0)), (8, (.int .i64 0))], [(5, (.vec 3 (List.map Zq v10))), (6, (.box (Zc v12.2).cells))]⟩ (Z51 (a := 25) (b := 5) I I a w (Z1g ⟨[(5, (.vs 25)), (6, (.ptr 6 0)), (8, (.int .i64 0))], [(6, (.box (Zc v12.2).cells)), (25, (.vec 3 (List.map Zq v10)))]⟩ h ⟨rfl, rfl, rfl, trivial⟩ ⟨rfl, rfl, trivial⟩)) ⟨rfl, rfl, rfl, trivial⟩ ⟨rfl, rfl, trivial⟩)) <| AWp.weaken (st' := ⟨[(5, (.vs 5)), (6, (.ptr 6 0)), (8, (.int .i64 0))], [(5, (.vec 3 (List.map Zq v10))), (6, (.box (Zc v12.2).cells))]⟩) ⟨rfl, rfl, rfl, trivial⟩ ⟨rfl, rfl, trivial⟩ ?_
     refine Z1o (V := Int × (List Zu)) (X := (List Zu)) (lp := fun k v => Z6h K (Za2 K v12) k v.1 v.2 = some r) (sh := fun v => ⟨[(5, (.vs 5)), (6, (.ptr 6 0)), (8, (.int .i64 v.1))], [(5, (.vec 3 (List.map Zq v.2))), (6, (.box (Zc v12.2).cells))]⟩) (x := fun v => Za2 K v12 v = some r) (shx := fun v => ⟨[(5, (.vs 5)), (6, (.ptr 6 0))], [(5, (.vec 3 (List.map Zq v))), (6, (.box (Zc v12.2).cells))]⟩) (k := K) (v := (0, v10)) h ?_ ?_
     ·intro v h
      revert h
      revert v
      intro v18 h
      try dsimp only at h ⊢
      unfold Za2 at h
      refine Zi <| Zj <| Zd <| Z1 I (Zl (v := (.vs 5)) I I) I ?_
      have ⟨v22, hv22, h⟩ := Z1d h
      refine Z1 I (Z37 (d := some 93) (c := ⟨[(.vs 5)] ++ [], [(5, (.vec 3 (List.map Zq v18)))], (.tup [(Zc v22.2), (.int .i64 v22.1)]), [(5, (.vec 3 (List.map Zq v18)))], []⟩) (ar := [(.vs 5)]) (caps := []) (news := []) (forg := []) Tryz.call17 ((F17_ok K v18 v22 hv22).sw 2000 5) I I ⟨rfl, trivial⟩ I ⟨rfl, trivial⟩ I) I <| Z1 I (Zl (v := (.tup [(Zc v22.2), (.int .i64 v22.1)])) I I) I <| Z1 I (Z2g (vs := [(Zc v22.2), (.int .i64 v22.1)]) (v := (Zc v22.2)) I I I) I <| Z1 I (Z2g (vs := [(Zc v22.2), (.int .i64 v22.1)]) (v := (.int .i64 v22.1)) I I I) I <| Z1 I (Z21 (cs := [(.sl 4 [] false), (.sl 5 [] false)]) I z44 I I I) I <| Z1 I (Z1b (cs := [(.sl 4 [] false), (.sl 5 [] false)]) (vs := (Zc v22.2).cells) (ds := (Zc v22.2).cells) (v := (Zc v22.2)) sz44 I I I I I I I I) I <| Z1 I (Zm (v := (.int .i64 v22.1)) I I) I <| Zh ?_
      refine Zi <| Zj <| Zd <| Z1 I (Z1n (cs := (Zc v12.2).cells) (vs := (Zc v12.2).cells) I a44 I I I I) I <| Z1 I (Z1n (cs := (Zc v22.2).cells) (vs := (Zc v22.2).cells) I a44 I I I I) I ?_
      have ⟨v24, hv24, h⟩ := Z1d h
      refine Z1 I (Z1e (ar := [(Zc v12.2), (Zc v22.2)]) (caps := []) Tryz.call19 (F19_ok K v12.2 v22.2 v24 hv24) I I ⟨rfl, rfl, trivial⟩ I) I <| Z1 I (Zl (v := (.bool v24)) I I) I ?_
      have hif := Z1w h
      refine AOps.split (fun hc => ?_) (fun hc => ?_)
      ·have h := hif.1 hc
       refine Zz I I I I (Zl (v := (.int .i64 v22.1)) I I) I <| Zz I I I I (Z1x (k := .i64) (a := v22.1) (b := 0) (c := (v22.1 == 0)) I I I I) I <| Z1 I (Z23 (v := (.bool (v22.1 == 0))) I I I) I <| Z1 I (Zm (v := (.bool (v22.1 == 0))) I I) I <| Zh <| Zi <| Z1c ?_
       have h := Option.some.inj h
       subst h
       refine (hret _ ?_).1
       exact ⟨[(.bool (v22.1 == 0))], ⟨rfl, trivial⟩, rfl, trivial⟩
      ·have h := hif.2 hc
       refine Zs I I I I I I I <| Zs I I I I I I I <| Z1 I (Z20 (v := (.bool false)) I I I) I <| Z1 I (Zm (v := (.bool false)) I I) I <| Zh <| Zi <| Z1c ?_
       have h := Option.some.inj h
       subst h
       refine (hret _ ?_).1
       exact ⟨[(.bool false)], ⟨rfl, trivial⟩, rfl, trivial⟩
     ·intro N k17 v h IH17 J17
      obtain ⟨v15, v16⟩ := v
      try dsimp only at h IH17 J17 ⊢
      cases k17 with
      | zero => cases h
      | succ k17 =>
       rw [Z6h] at h
       refine Zj <| Zj <| Zd <| Z1 I (Zl (v := (.int .i64 v15)) I I) I <| Z1 I (Zl (v := (.vs 5)) I I) I <| Z1 I (Z62 (l := v16) (enc := Zq) I u31 I I) I <| Z1 I (Z1x (k := .i64) (a := v15) (b := (v16.length : Int)) (c := (decide (v15 < (v16.length : Int)))) I I I I) I <| Zh ?_
       refine Zi ?_
       have hif := Z1w h
       refine Z16 I (fun hc => ?_) (fun hc => ?_)
       ·have h := hif.1 hc
        refine Z1a <| Zi <| Zj <| AWp.block <| Zj <| Zd <| Z1 I (Zm (v := (.sl 14 [] true)) I I) I <| Zh ?_
        refine Zi <| Zj <| Zj <| Zd <| Z1 I (Zl (v := (.vs 5)) I I) I <| Z1 I (Zl (v := (.int .i64 v15)) I I) I ?_
        have ⟨hg26, h⟩ := Z14 h
        refine Z1 I (Z2r (k := .i64) (v := (.vs 5)) (n := 5) (off := 0) (len := v16.length) (es := (List.map Zq v16)) (j := v15) (m := v15.toNat) I s31 I I (Z2u _ _ _) I hg26 (Nat.zero_add _)) I <| Z1 I (Z4a I f39_2 I I) I ?_
        have ⟨hg27, h⟩ := Z14 h
        refine Z1 I (Z3p (l := v16) (enc := Zq) (z := Z5) (v := (.sl 14 ((v16.getD v15.toNat Z5).Spans.map Z8) false)) I o37 I I hg27 I) I <| Z1 I (Z2d (l := (v16.getD v15.toNat Z5).Spans) (enc := Z8) I s37 I) I <| Z1 I (Z1k (k := .i64) (a := ((v16.getD v15.toNat Z5).Spans.length : Int)) (b := 1) (c := (IntKind.i64.wrap (((v16.getD v15.toNat Z5).Spans.length : Int) - 1))) I I I I) I <| Z1 I (Zm (v := (.int .i64 (IntKind.i64.wrap (((v16.getD v15.toNat Z5).Spans.length : Int) - 1)))) I I) I <| Zh <| Zi <| AWp.ghost (st' := ⟨[(5, (.vs 5)), (6, (.ptr 6 0)), (8, (.int .i64 v15)), (9, (.vs 9)), (10, (.int .i64 (IntKind.i64.wrap (((v16.getD v15.toNat Z5).Spans.length : Int) - 1))))], [(5, (.vec 3 (List.map Zq v16))), (6, (.box (Zc v12.2).cells)), (9, (.vec 14 (List.map Z8 ([] : List Zg))))]⟩) (fun a w h => (Z1g ⟨[(5, (.vs 5)), (6, (.ptr 6 0)), (8, (.int .i64 v15)), (9, (.vs 9)), (10, (.int .i64 (IntKind.i64.wrap (((v16.getD v15.toNat Z5).Spans.length : Int) - 1))))], [(5, (.vec 3 (List.map Zq v16))), (6, (.box (Zc v12.2).cells)), (9, (.vec 14 (List.map Z8 ([] : List Zg))))]⟩ (Z5k (k := 9) (m := 9) (sz := 14) I I a w (Z1g ⟨[(9, (.sl 14 [] true)), (5, (.vs 5)), (6, (.ptr 6 0)), (8, (.int .i64 v15)), (10, (.int .i64 (IntKind.i64.wrap (((v16.getD v15.toNat Z5).Spans.length : Int) - 1))))], [(5, (.vec 3 (List.map Zq v16))), (6, (.box (Zc v12.2).cells))]⟩ h ⟨rfl, rfl, rfl, rfl, rfl, trivial⟩ ⟨rfl, rfl, trivial⟩)) ⟨rfl, rfl, rfl, rfl, rfl, trivial⟩ ⟨rfl, rfl, rfl, trivial⟩)) <| AWp.weaken (st' := ⟨[(5, (.vs 5)), (6, (.ptr 6 0)), (8, (.int .i64 v15)), (9, (.vs 9)), (10, (.int .i64 (IntKind.i64.wrap (((v16.getD v15.toNat Z5).Spans.length : Int) - 1))))], [(5, (.vec 3 (List.map Zq v16))), (6, (.box (Zc v12.2).cells)), (9, (.vec 14 (List.map Z8 [])))]⟩) ⟨rfl, rfl, rfl, rfl, rfl, trivial⟩ ⟨rfl, rfl, rfl, trivial⟩ ?_
        refine Z1o (V := Int × (List Zg)) (X := (List Zg)) (lp := fun k v => Zb8 K v15 v16 (Zcz K v15 v16 (Z6h K (Za2 K v12) k17)) k v.1 v.2 = some r) (sh := fun v => ⟨[(5, (.vs 5)), (6, (.ptr 6 0)), (8, (.int .i64 v15)), (9, (.vs 9)), (10, (.int .i64 v.1))], [(5, (.vec 3 (List.map Zq v16))), (6, (.box (Zc v12.2).cells)), (9, (.vec 14 (List.map Z8 v.2)))]⟩) (x := fun v => Zcz K v15 v16 (Z6h K (Za2 K v12) k17) v = some r) (shx := fun v => ⟨[(5, (.vs 5)), (6, (.ptr 6 0)), (8, (.int .i64 v15)), (9, (.vs 9))], [(5, (.vec 3 (List.map Zq v16))), (6, (.box (Zc v12.2).cells)), (9, (.vec 14 (List.map Z8 v)))]⟩) (k := K) (v := ((IntKind.i64.wrap (((v16.getD v15.toNat Z5).Spans.length : Int) - 1)), [])) h ?_ ?_
        ·intro v h
         revert h
         revert v
         intro v31 h
         try dsimp only at h ⊢
         unfold Zcz at h
         refine Zi <| Zd <| Z1 I (Zl (v := (.vs 5)) I I) I <| Z1 I (Zl (v := (.int .i64 v15)) I I) I <| Z1 I (Zl (v := (.vs 9)) I I) I ?_
         have ⟨hg34, h⟩ := Z14 h
         refine Z1 I (Z2r (k := .i64) (v := (.vs 5)) (n := 5) (off := 0) (len := v16.length) (es := (List.map Zq v16)) (j := v15) (m := v15.toNat) I s31 I I (Z2u _ _ _) I hg34 (Nat.zero_add _)) I <| Z1 I (Z4a I f39_2 I I) I <| AOps.ghost (st' := ⟨[(5, (.vs 5)), (6, (.ptr 6 0)), (8, (.int .i64 v15)), (88, (.sl 14 (v31.map Z8) false)), (90, (.vp 5 v15.toNat 2))], [(5, (.vec 3 (List.map Zq v16))), (6, (.box (Zc v12.2).cells))]⟩) (fun a w h => (Z1g ⟨[(5, (.vs 5)), (6, (.ptr 6 0)), (8, (.int .i64 v15)), (88, (.sl 14 (v31.map Z8) false)), (90, (.vp 5 v15.toNat 2))], [(5, (.vec 3 (List.map Zq v16))), (6, (.box (Zc v12.2).cells))]⟩ (Z2i (m := 9) (sz := 14) (es := (List.map Z8 v31)) a w (Z1g ⟨[(5, (.vs 5)), (6, (.ptr 6 0)), (8, (.int .i64 v15)), (88, (.vs 9)), (90, (.vp 5 v15.toNat 2))], [(9, (.vec 14 (List.map Z8 v31))), (5, (.vec 3 (List.map Zq v16))), (6, (.box (Zc v12.2).cells))]⟩ h ⟨rfl, rfl, rfl, rfl, rfl, trivial⟩ ⟨rfl, rfl, rfl, trivial⟩)) ⟨rfl, rfl, rfl, rfl, rfl, trivial⟩ ⟨rfl, rfl, trivial⟩)) ?_
         have ⟨hg35, h⟩ := Z14 h
         refine Z1 I (Z8z (l := v16) (enc := Zq) (z := Z5) (a := (⟨(v16.getD v15.toNat Z5).Id, (v16.getD v15.toNat Z5).Weight, v31⟩ : Zu)) (v := (.sl 14 (v31.map Z8) false)) sz37 I I hg35 I Z31 I I I I) I <| Zh <| At.end <| Zi <| Zd <| Z1 I (Zl (v := (.int .i64 v15)) I I) I <| Z1 I (Z1k (k := .i64) (a := v15) (b := 1) (c := (IntKind.i64.wrap (v15 + 1))) I I I I) I <| Z1 I (Zm (v := (.int .i64 (IntKind.i64.wrap (v15 + 1)))) I I) I ?_
         refine Zh ?_
         exact Z13 (st' := ⟨[(5, (.vs 5)), (6, (.ptr 6 0)), (8, (.int .i64 (IntKind.i64.wrap (v15 + 1))))], [(5, (.vec 3 (List.map Zq (v16.set v15.toNat (⟨(v16.getD v15.toNat Z5).Id, (v16.getD v15.toNat Z5).Weight, v31⟩ : Zu))))), (6, (.box (Zc v12.2).cells))]⟩) ⟨rfl, rfl, rfl, trivial⟩ ⟨rfl, rfl, trivial⟩ (IH17 _ ((IntKind.i64.wrap (v15 + 1)), (v16.set v15.toNat (⟨(v16.getD v15.toNat Z5).Id, (v16.getD v15.toNat Z5).Weight, v31⟩ : Zu))) (Nat.lt_succ_self _) h)
        ·intro N k30 v h IH30 J30
         obtain ⟨v28, v29⟩ := v
         try dsimp only at h IH30 J30 ⊢
         cases k30 with
         | zero => cases h
         | succ k30 =>
          rw [Zb8] at h
          refine Zj <| Zj <| Zd <| Z1 I (Zl (v := (.int .i64 v28)) I I) I <| Z1 I (Z1x (k := .i64) (a := v28) (b := 0) (c := (decide (v28 ≥ 0))) I I I I) I <| Zh <| Zi ?_
          have hif := Z1w h
          refine Z16 I (fun hc => ?_) (fun hc => ?_)
          ·have h := hif.1 hc
           refine Z1a <| Zi <| Zj <| AWp.block <| Zj <| Z1r mixed <| Zb 0 I (Zl (v := (.vs 5)) I I) <| Zb 1 I (Zl (v := (.int .i64 v15)) I I) ?_
           have ⟨hg37, h⟩ := Z14 h
           refine Zb 2 I (Z2r (k := .i64) (v := (.vs 5)) (n := 5) (off := 0) (len := v16.length) (es := (List.map Zq v16)) (j := v15) (m := v15.toNat) I s31 I I (Z2u _ _ _) I hg37 (Nat.zero_add _)) <| Zb 3 I (Z4a I f39_2 I I) ?_
           have ⟨hg38, h⟩ := Z14 h
           refine Zb 4 I (Z3p (l := v16) (enc := Zq) (z := Z5) (v := (.sl 14 ((v16.getD v15.toNat Z5).Spans.map Z8) false)) I o37 I I hg38 I) <| Zb 5 I (Zl (v := (.int .i64 v28)) I I) ?_
           have ⟨hg39, h⟩ := Z14 h
           refine Zb 6 I (Z1s (k := .i64) (l := (v16.getD v15.toNat Z5).Spans) (enc := Z8) (z := Z2) (n := v28) (cs := (Z8 ((v16.getD v15.toNat Z5).Spans.getD v28.toNat Z2)).cells) (full := false) I s37 I I hg39 I) <| Zb 7 I (Z2h (cs := (Z8 ((v16.getD v15.toNat Z5).Spans.getD v28.toNat Z2)).cells) (vs := (Z8 ((v16.getD v15.toNat Z5).Spans.getD v28.toNat Z2)).cells) I a56 I I I) <| Zb 8 I (Zl (v := (.vs 5)) I I) <| Zb 9 I (Zl (v := (.int .i64 v15)) I I) ?_
           have ⟨hg40, h⟩ := Z14 h
           refine Zb 10 I (Z2r (k := .i64) (v := (.vs 5)) (n := 5) (off := 0) (len := v16.length) (es := (List.map Zq v16)) (j := v15) (m := v15.toNat) I s31 I I (Z2u _ _ _) I hg40 (Nat.zero_add _)) <| Zb 11 I (Z4a I f39_2 I I) ?_
           have ⟨hg41, h⟩ := Z14 h
           refine Zb 12 I (Z3p (l := v16) (enc := Zq) (z := Z5) (v := (.sl 14 ((v16.getD v15.toNat Z5).Spans.map Z8) false)) I o37 I I hg41 I) <| Zb 13 I (Zl (v := (.int .i64 v28)) I I) ?_
           have ⟨hg42, h⟩ := Z14 h
           refine Zb 14 I (Z1s (k := .i64) (l := (v16.getD v15.toNat Z5).Spans) (enc := Z8) (z := Z2) (n := v28) (cs := (Z8 ((v16.getD v15.toNat Z5).Spans.getD v28.toNat Z2)).cells) (full := false) I s37 I I hg42 I) <| Zb 15 I (Z2h (cs := (Z8 ((v16.getD v15.toNat Z5).Spans.getD v28.toNat Z2)).cells) (vs := (Z8 ((v16.getD v15.toNat Z5).Spans.getD v28.toNat Z2)).cells) I a56 I I I) <| Zb 16 I (Z21 (cs := [(.int .i64 0), (.int .i64 0), (.int .i64 0), (.int .i64 0), (.int .i64 0), (.int .i64 0), (.str []), (.str []), (.str []), (.int .i64 0), (.int .i64 0), (.bool false), (.sl 4 [] false), (.sl 2 [] false)]) I z56 I I I) <| Zb 17 I (Z21 (cs := [(.int .i64 0), (.int .i64 0), (.int .i64 0), (.int .i64 0), (.int .i64 0), (.int .i64 0), (.str []), (.str []), (.str []), (.int .i64 0), (.int .i64 0), (.bool false), (.sl 4 [] false), (.sl 2 [] false)]) I z56 I I I) <| Zb 18 I (Z1b (cs := [(.int .i64 0), (.int .i64 0), (.int .i64 0), (.int .i64 0), (.int .i64 0), (.int .i64 0), (.str []), (.str []), (.str []), (.int .i64 0), (.int .i64 0), (.bool false), (.sl 4 [] false), (.sl 2 [] false)]) (vs := (Z8 ((v16.getD v15.toNat Z5).Spans.getD v28.toNat Z2)).cells) (ds := (Z8 ((v16.getD v15.toNat Z5).Spans.getD v28.toNat Z2)).cells) (v := (Z8 ((v16.getD v15.toNat Z5).Spans.getD v28.toNat Z2))) sz56 I I I I I I I I) <| Zb 19 I (Z1b (cs := [(.int .i64 0), (.int .i64 0), (.int .i64 0), (.int .i64 0), (.int .i64 0), (.int .i64 0), (.str []), (.str []), (.str []), (.int .i64 0), (.int .i64 0), (.bool false), (.sl 4 [] false), (.sl 2 [] false)]) (vs := (Z8 ((v16.getD v15.toNat Z5).Spans.getD v28.toNat Z2)).cells) (ds := (Z8 ((v16.getD v15.toNat Z5).Spans.getD v28.toNat Z2)).cells) (v := (Z8 ((v16.getD v15.toNat Z5).Spans.getD v28.toNat Z2))) sz56 I I I I I I I I) <| Z1t (by kernel_rfl) I <| Zi ?_
           refine Zj <| Zd <| Z1 I (Zr (m := 11) (o := 0) I f56_3 I I) I <| Z1 I (Z1b (cs := (Z8 ((v16.getD v15.toNat Z5).Spans.getD v28.toNat Z2)).cells) (vs := [(.int .i64 2)]) (ds := [(.int .i64 ((v16.getD v15.toNat Z5).Spans.getD v28.toNat Z2).Trace), (.int .i64 ((v16.getD v15.toNat Z5).Spans.getD v28.toNat Z2).Id), (.int .i64 ((v16.getD v15.toNat Z5).Spans.getD v28.toNat Z2).Parent), (.int .i64 2), (.int .i64 ((v16.getD v15.toNat Z5).Spans.getD v28.toNat Z2).Clock), (.int .i64 ((v16.getD v15.toNat Z5).Spans.getD v28.toNat Z2).Kind), (.str ((v16.getD v15.toNat Z5).Spans.getD v28.toNat Z2).Service), (.str ((v16.getD v15.toNat Z5).Spans.getD v28.toNat Z2).Version), (.str ((v16.getD v15.toNat Z5).Spans.getD v28.toNat Z2).Operation), (.int .i64 ((v16.getD v15.toNat Z5).Spans.getD v28.toNat Z2).Start), (.int .i64 ((v16.getD v15.toNat Z5).Spans.getD v28.toNat Z2).End), (.bool ((v16.getD v15.toNat Z5).Spans.getD v28.toNat Z2).Error), (.sl 4 (((v16.getD v15.toNat Z5).Spans.getD v28.toNat Z2).Attrs.map Zv) false), (.sl 2 (((v16.getD v15.toNat Z5).Spans.getD v28.toNat Z2).Links.map Z11) false)]) (v := (.int .i64 2)) sz3 I I I I I I I I) I <| Z1 I (Zr (m := 12) (o := 0) I Z87 I I) I <| Z1 I (Z1b (cs := (Z8 ((v16.getD v15.toNat Z5).Spans.getD v28.toNat Z2)).cells) (vs := [(.str [111, 108, 100])]) (ds := [(.int .i64 ((v16.getD v15.toNat Z5).Spans.getD v28.toNat Z2).Trace), (.int .i64 ((v16.getD v15.toNat Z5).Spans.getD v28.toNat Z2).Id), (.int .i64 ((v16.getD v15.toNat Z5).Spans.getD v28.toNat Z2).Parent), (.int .i64 ((v16.getD v15.toNat Z5).Spans.getD v28.toNat Z2).Revision), (.int .i64 ((v16.getD v15.toNat Z5).Spans.getD v28.toNat Z2).Clock), (.int .i64 ((v16.getD v15.toNat Z5).Spans.getD v28.toNat Z2).Kind), (.str [111, 108, 100]), (.str ((v16.getD v15.toNat Z5).Spans.getD v28.toNat Z2).Version), (.str ((v16.getD v15.toNat Z5).Spans.getD v28.toNat Z2).Operation), (.int .i64 ((v16.getD v15.toNat Z5).Spans.getD v28.toNat Z2).Start), (.int .i64 ((v16.getD v15.toNat Z5).Spans.getD v28.toNat Z2).End), (.bool ((v16.getD v15.toNat Z5).Spans.getD v28.toNat Z2).Error), (.sl 4 (((v16.getD v15.toNat Z5).Spans.getD v28.toNat Z2).Attrs.map Zv) false), (.sl 2 (((v16.getD v15.toNat Z5).Spans.getD v28.toNat Z2).Links.map Z11) false)]) (v := (.str [111, 108, 100])) sz9 I I I I I I I I) I <| Z1 I (Zr (m := 12) (o := 0) I Zao I I) I <| Z1 I (Z1b (cs := [(.int .i64 ((v16.getD v15.toNat Z5).Spans.getD v28.toNat Z2).Trace), (.int .i64 ((v16.getD v15.toNat Z5).Spans.getD v28.toNat Z2).Id), (.int .i64 ((v16.getD v15.toNat Z5).Spans.getD v28.toNat Z2).Parent), (.int .i64 ((v16.getD v15.toNat Z5).Spans.getD v28.toNat Z2).Revision), (.int .i64 ((v16.getD v15.toNat Z5).Spans.getD v28.toNat Z2).Clock), (.int .i64 ((v16.getD v15.toNat Z5).Spans.getD v28.toNat Z2).Kind), (.str [111, 108, 100]), (.str ((v16.getD v15.toNat Z5).Spans.getD v28.toNat Z2).Version), (.str ((v16.getD v15.toNat Z5).Spans.getD v28.toNat Z2).Operation), (.int .i64 ((v16.getD v15.toNat Z5).Spans.getD v28.toNat Z2).Start), (.int .i64 ((v16.getD v15.toNat Z5).Spans.getD v28.toNat Z2).End), (.bool ((v16.getD v15.toNat Z5).Spans.getD v28.toNat Z2).Error), (.sl 4 (((v16.getD v15.toNat Z5).Spans.getD v28.toNat Z2).Attrs.map Zv) false), (.sl 2 (((v16.getD v15.toNat Z5).Spans.getD v28.toNat Z2).Links.map Z11) false)]) (vs := [(.bool true)]) (ds := [(.int .i64 ((v16.getD v15.toNat Z5).Spans.getD v28.toNat Z2).Trace), (.int .i64 ((v16.getD v15.toNat Z5).Spans.getD v28.toNat Z2).Id), (.int .i64 ((v16.getD v15.toNat Z5).Spans.getD v28.toNat Z2).Parent), (.int .i64 ((v16.getD v15.toNat Z5).Spans.getD v28.toNat Z2).Revision), (.int .i64 ((v16.getD v15.toNat Z5).Spans.getD v28.toNat Z2).Clock), (.int .i64 ((v16.getD v15.toNat Z5).Spans.getD v28.toNat Z2).Kind), (.str [111, 108, 100]), (.str ((v16.getD v15.toNat Z5).Spans.getD v28.toNat Z2).Version), (.str ((v16.getD v15.toNat Z5).Spans.getD v28.toNat Z2).Operation), (.int .i64 ((v16.getD v15.toNat Z5).Spans.getD v28.toNat Z2).Start), (.int .i64 ((v16.getD v15.toNat Z5).Spans.getD v28.toNat Z2).End), (.bool true), (.sl 4 (((v16.getD v15.toNat Z5).Spans.getD v28.toNat Z2).Attrs.map Zv) false), (.sl 2 (((v16.getD v15.toNat Z5).Spans.getD v28.toNat Z2).Links.map Z11) false)]) (v := (.bool true)) sz4 I I I I I I I I) I ?_
           refine Zh <| Zi <| Zd <| Z1 I (Zl (v := (.vs 9)) I I) I <| Z1 I (Z1n (cs := [(.int .i64 ((v16.getD v15.toNat Z5).Spans.getD v28.toNat Z2).Trace), (.int .i64 ((v16.getD v15.toNat Z5).Spans.getD v28.toNat Z2).Id), (.int .i64 ((v16.getD v15.toNat Z5).Spans.getD v28.toNat Z2).Parent), (.int .i64 ((v16.getD v15.toNat Z5).Spans.getD v28.toNat Z2).Revision), (.int .i64 ((v16.getD v15.toNat Z5).Spans.getD v28.toNat Z2).Clock), (.int .i64 ((v16.getD v15.toNat Z5).Spans.getD v28.toNat Z2).Kind), (.str [111, 108, 100]), (.str ((v16.getD v15.toNat Z5).Spans.getD v28.toNat Z2).Version), (.str ((v16.getD v15.toNat Z5).Spans.getD v28.toNat Z2).Operation), (.int .i64 ((v16.getD v15.toNat Z5).Spans.getD v28.toNat Z2).Start), (.int .i64 ((v16.getD v15.toNat Z5).Spans.getD v28.toNat Z2).End), (.bool true), (.sl 4 (((v16.getD v15.toNat Z5).Spans.getD v28.toNat Z2).Attrs.map Zv) false), (.sl 2 (((v16.getD v15.toNat Z5).Spans.getD v28.toNat Z2).Links.map Z11) false)]) (vs := [(.int .i64 ((v16.getD v15.toNat Z5).Spans.getD v28.toNat Z2).Trace), (.int .i64 ((v16.getD v15.toNat Z5).Spans.getD v28.toNat Z2).Id), (.int .i64 ((v16.getD v15.toNat Z5).Spans.getD v28.toNat Z2).Parent), (.int .i64 ((v16.getD v15.toNat Z5).Spans.getD v28.toNat Z2).Revision), (.int .i64 ((v16.getD v15.toNat Z5).Spans.getD v28.toNat Z2).Clock), (.int .i64 ((v16.getD v15.toNat Z5).Spans.getD v28.toNat Z2).Kind), (.str [111, 108, 100]), (.str ((v16.getD v15.toNat Z5).Spans.getD v28.toNat Z2).Version), (.str ((v16.getD v15.toNat Z5).Spans.getD v28.toNat Z2).Operation), (.int .i64 ((v16.getD v15.toNat Z5).Spans.getD v28.toNat Z2).Start), (.int .i64 ((v16.getD v15.toNat Z5).Spans.getD v28.toNat Z2).End), (.bool true), (.sl 4 (((v16.getD v15.toNat Z5).Spans.getD v28.toNat Z2).Attrs.map Zv) false), (.sl 2 (((v16.getD v15.toNat Z5).Spans.getD v28.toNat Z2).Links.map Z11) false)]) I a56 I I I I) I <| Z1 I (Z1n (cs := [(.int .i64 ((v16.getD v15.toNat Z5).Spans.getD v28.toNat Z2).Trace), (.int .i64 ((v16.getD v15.toNat Z5).Spans.getD v28.toNat Z2).Id), (.int .i64 ((v16.getD v15.toNat Z5).Spans.getD v28.toNat Z2).Parent), (.int .i64 2), (.int .i64 ((v16.getD v15.toNat Z5).Spans.getD v28.toNat Z2).Clock), (.int .i64 ((v16.getD v15.toNat Z5).Spans.getD v28.toNat Z2).Kind), (.str ((v16.getD v15.toNat Z5).Spans.getD v28.toNat Z2).Service), (.str ((v16.getD v15.toNat Z5).Spans.getD v28.toNat Z2).Version), (.str ((v16.getD v15.toNat Z5).Spans.getD v28.toNat Z2).Operation), (.int .i64 ((v16.getD v15.toNat Z5).Spans.getD v28.toNat Z2).Start), (.int .i64 ((v16.getD v15.toNat Z5).Spans.getD v28.toNat Z2).End), (.bool ((v16.getD v15.toNat Z5).Spans.getD v28.toNat Z2).Error), (.sl 4 (((v16.getD v15.toNat Z5).Spans.getD v28.toNat Z2).Attrs.map Zv) false), (.sl 2 (((v16.getD v15.toNat Z5).Spans.getD v28.toNat Z2).Links.map Z11) false)]) (vs := [(.int .i64 ((v16.getD v15.toNat Z5).Spans.getD v28.toNat Z2).Trace), (.int .i64 ((v16.getD v15.toNat Z5).Spans.getD v28.toNat Z2).Id), (.int .i64 ((v16.getD v15.toNat Z5).Spans.getD v28.toNat Z2).Parent), (.int .i64 2), (.int .i64 ((v16.getD v15.toNat Z5).Spans.getD v28.toNat Z2).Clock), (.int .i64 ((v16.getD v15.toNat Z5).Spans.getD v28.toNat Z2).Kind), (.str ((v16.getD v15.toNat Z5).Spans.getD v28.toNat Z2).Service), (.str ((v16.getD v15.toNat Z5).Spans.getD v28.toNat Z2).Version), (.str ((v16.getD v15.toNat Z5).Spans.getD v28.toNat Z2).Operation), (.int .i64 ((v16.getD v15.toNat Z5).Spans.getD v28.toNat Z2).Start), (.int .i64 ((v16.getD v15.toNat Z5).Spans.getD v28.toNat Z2).End), (.bool ((v16.getD v15.toNat Z5).Spans.getD v28.toNat Z2).Error), (.sl 4 (((v16.getD v15.toNat Z5).Spans.getD v28.toNat Z2).Attrs.map Zv) false), (.sl 2 (((v16.getD v15.toNat Z5).Spans.getD v28.toNat Z2).Links.map Z11) false)]) I a56 I I I I) I <| Z1 I (Z1l (vs := [(.ag [(.int .i64 ((v16.getD v15.toNat Z5).Spans.getD v28.toNat Z2).Trace), (.int .i64 ((v16.getD v15.toNat Z5).Spans.getD v28.toNat Z2).Id), (.int .i64 ((v16.getD v15.toNat Z5).Spans.getD v28.toNat Z2).Parent), (.int .i64 ((v16.getD v15.toNat Z5).Spans.getD v28.toNat Z2).Revision), (.int .i64 ((v16.getD v15.toNat Z5).Spans.getD v28.toNat Z2).Clock), (.int .i64 ((v16.getD v15.toNat Z5).Spans.getD v28.toNat Z2).Kind), (.str [111, 108, 100]), (.str ((v16.getD v15.toNat Z5).Spans.getD v28.toNat Z2).Version), (.str ((v16.getD v15.toNat Z5).Spans.getD v28.toNat Z2).Operation), (.int .i64 ((v16.getD v15.toNat Z5).Spans.getD v28.toNat Z2).Start), (.int .i64 ((v16.getD v15.toNat Z5).Spans.getD v28.toNat Z2).End), (.bool true), (.sl 4 (((v16.getD v15.toNat Z5).Spans.getD v28.toNat Z2).Attrs.map Zv) false), (.sl 2 (((v16.getD v15.toNat Z5).Spans.getD v28.toNat Z2).Links.map Z11) false)]), (.ag [(.int .i64 ((v16.getD v15.toNat Z5).Spans.getD v28.toNat Z2).Trace), (.int .i64 ((v16.getD v15.toNat Z5).Spans.getD v28.toNat Z2).Id), (.int .i64 ((v16.getD v15.toNat Z5).Spans.getD v28.toNat Z2).Parent), (.int .i64 2), (.int .i64 ((v16.getD v15.toNat Z5).Spans.getD v28.toNat Z2).Clock), (.int .i64 ((v16.getD v15.toNat Z5).Spans.getD v28.toNat Z2).Kind), (.str ((v16.getD v15.toNat Z5).Spans.getD v28.toNat Z2).Service), (.str ((v16.getD v15.toNat Z5).Spans.getD v28.toNat Z2).Version), (.str ((v16.getD v15.toNat Z5).Spans.getD v28.toNat Z2).Operation), (.int .i64 ((v16.getD v15.toNat Z5).Spans.getD v28.toNat Z2).Start), (.int .i64 ((v16.getD v15.toNat Z5).Spans.getD v28.toNat Z2).End), (.bool ((v16.getD v15.toNat Z5).Spans.getD v28.toNat Z2).Error), (.sl 4 (((v16.getD v15.toNat Z5).Spans.getD v28.toNat Z2).Attrs.map Zv) false), (.sl 2 (((v16.getD v15.toNat Z5).Spans.getD v28.toNat Z2).Links.map Z11) false)])]) (enc := Z8) (l := [(⟨((v16.getD v15.toNat Z5).Spans.getD v28.toNat Z2).Trace, ((v16.getD v15.toNat Z5).Spans.getD v28.toNat Z2).Id, ((v16.getD v15.toNat Z5).Spans.getD v28.toNat Z2).Parent, ((v16.getD v15.toNat Z5).Spans.getD v28.toNat Z2).Revision, ((v16.getD v15.toNat Z5).Spans.getD v28.toNat Z2).Clock, ((v16.getD v15.toNat Z5).Spans.getD v28.toNat Z2).Kind, [111, 108, 100], ((v16.getD v15.toNat Z5).Spans.getD v28.toNat Z2).Version, ((v16.getD v15.toNat Z5).Spans.getD v28.toNat Z2).Operation, ((v16.getD v15.toNat Z5).Spans.getD v28.toNat Z2).Start, ((v16.getD v15.toNat Z5).Spans.getD v28.toNat Z2).End, true, ((v16.getD v15.toNat Z5).Spans.getD v28.toNat Z2).Attrs, ((v16.getD v15.toNat Z5).Spans.getD v28.toNat Z2).Links⟩ : Zg), (⟨((v16.getD v15.toNat Z5).Spans.getD v28.toNat Z2).Trace, ((v16.getD v15.toNat Z5).Spans.getD v28.toNat Z2).Id, ((v16.getD v15.toNat Z5).Spans.getD v28.toNat Z2).Parent, 2, ((v16.getD v15.toNat Z5).Spans.getD v28.toNat Z2).Clock, ((v16.getD v15.toNat Z5).Spans.getD v28.toNat Z2).Kind, ((v16.getD v15.toNat Z5).Spans.getD v28.toNat Z2).Service, ((v16.getD v15.toNat Z5).Spans.getD v28.toNat Z2).Version, ((v16.getD v15.toNat Z5).Spans.getD v28.toNat Z2).Operation, ((v16.getD v15.toNat Z5).Spans.getD v28.toNat Z2).Start, ((v16.getD v15.toNat Z5).Spans.getD v28.toNat Z2).End, ((v16.getD v15.toNat Z5).Spans.getD v28.toNat Z2).Error, ((v16.getD v15.toNat Z5).Spans.getD v28.toNat Z2).Attrs, ((v16.getD v15.toNat Z5).Spans.getD v28.toNat Z2).Links⟩ : Zg)]) I el37 I I ⟨rfl, rfl, trivial⟩ I Z2v I I I I) I ?_
           have ⟨hg43, h⟩ := Z14 h
           refine Z1 I (Z2t (m := 9) (enc := Z8) (l := v29) (l' := ([(⟨((v16.getD v15.toNat Z5).Spans.getD v28.toNat Z2).Trace, ((v16.getD v15.toNat Z5).Spans.getD v28.toNat Z2).Id, ((v16.getD v15.toNat Z5).Spans.getD v28.toNat Z2).Parent, ((v16.getD v15.toNat Z5).Spans.getD v28.toNat Z2).Revision, ((v16.getD v15.toNat Z5).Spans.getD v28.toNat Z2).Clock, ((v16.getD v15.toNat Z5).Spans.getD v28.toNat Z2).Kind, [111, 108, 100], ((v16.getD v15.toNat Z5).Spans.getD v28.toNat Z2).Version, ((v16.getD v15.toNat Z5).Spans.getD v28.toNat Z2).Operation, ((v16.getD v15.toNat Z5).Spans.getD v28.toNat Z2).Start, ((v16.getD v15.toNat Z5).Spans.getD v28.toNat Z2).End, true, ((v16.getD v15.toNat Z5).Spans.getD v28.toNat Z2).Attrs, ((v16.getD v15.toNat Z5).Spans.getD v28.toNat Z2).Links⟩ : Zg), (⟨((v16.getD v15.toNat Z5).Spans.getD v28.toNat Z2).Trace, ((v16.getD v15.toNat Z5).Spans.getD v28.toNat Z2).Id, ((v16.getD v15.toNat Z5).Spans.getD v28.toNat Z2).Parent, 2, ((v16.getD v15.toNat Z5).Spans.getD v28.toNat Z2).Clock, ((v16.getD v15.toNat Z5).Spans.getD v28.toNat Z2).Kind, ((v16.getD v15.toNat Z5).Spans.getD v28.toNat Z2).Service, ((v16.getD v15.toNat Z5).Spans.getD v28.toNat Z2).Version, ((v16.getD v15.toNat Z5).Spans.getD v28.toNat Z2).Operation, ((v16.getD v15.toNat Z5).Spans.getD v28.toNat Z2).Start, ((v16.getD v15.toNat Z5).Spans.getD v28.toNat Z2).End, ((v16.getD v15.toNat Z5).Spans.getD v28.toNat Z2).Error, ((v16.getD v15.toNat Z5).Spans.getD v28.toNat Z2).Attrs, ((v16.getD v15.toNat Z5).Spans.getD v28.toNat Z2).Links⟩ : Zg)])) (src := (.vs 84)) (rd := [(84, (.vec 14 (List.map Z8 ([(⟨((v16.getD v15.toNat Z5).Spans.getD v28.toNat Z2).Trace, ((v16.getD v15.toNat Z5).Spans.getD v28.toNat Z2).Id, ((v16.getD v15.toNat Z5).Spans.getD v28.toNat Z2).Parent, ((v16.getD v15.toNat Z5).Spans.getD v28.toNat Z2).Revision, ((v16.getD v15.toNat Z5).Spans.getD v28.toNat Z2).Clock, ((v16.getD v15.toNat Z5).Spans.getD v28.toNat Z2).Kind, [111, 108, 100], ((v16.getD v15.toNat Z5).Spans.getD v28.toNat Z2).Version, ((v16.getD v15.toNat Z5).Spans.getD v28.toNat Z2).Operation, ((v16.getD v15.toNat Z5).Spans.getD v28.toNat Z2).Start, ((v16.getD v15.toNat Z5).Spans.getD v28.toNat Z2).End, true, ((v16.getD v15.toNat Z5).Spans.getD v28.toNat Z2).Attrs, ((v16.getD v15.toNat Z5).Spans.getD v28.toNat Z2).Links⟩ : Zg), (⟨((v16.getD v15.toNat Z5).Spans.getD v28.toNat Z2).Trace, ((v16.getD v15.toNat Z5).Spans.getD v28.toNat Z2).Id, ((v16.getD v15.toNat Z5).Spans.getD v28.toNat Z2).Parent, 2, ((v16.getD v15.toNat Z5).Spans.getD v28.toNat Z2).Clock, ((v16.getD v15.toNat Z5).Spans.getD v28.toNat Z2).Kind, ((v16.getD v15.toNat Z5).Spans.getD v28.toNat Z2).Service, ((v16.getD v15.toNat Z5).Spans.getD v28.toNat Z2).Version, ((v16.getD v15.toNat Z5).Spans.getD v28.toNat Z2).Operation, ((v16.getD v15.toNat Z5).Spans.getD v28.toNat Z2).Start, ((v16.getD v15.toNat Z5).Spans.getD v28.toNat Z2).End, ((v16.getD v15.toNat Z5).Spans.getD v28.toNat Z2).Error, ((v16.getD v15.toNat Z5).Spans.getD v28.toNat Z2).Attrs, ((v16.getD v15.toNat Z5).Spans.getD v28.toNat Z2).Links⟩ : Zg)]))))]) I I el37 I u37 I I I I (oneRead I) Z2v hg43) I <| Z1 I (Zm (v := (.vs 9)) I I) I <| Zh <| At.end <| Zi <| Zd <| Z1 I (Zl (v := (.int .i64 v28)) I I) I <| Z1 I (Z1k (k := .i64) (a := v28) (b := 1) (c := (IntKind.i64.wrap (v28 - 1))) I I I I) I ?_
           refine Z1 I (Zm (v := (.int .i64 (IntKind.i64.wrap (v28 - 1)))) I I) I <| Zh ?_
           exact Z13 (st' := ⟨[(5, (.vs 5)), (6, (.ptr 6 0)), (8, (.int .i64 v15)), (9, (.vs 9)), (10, (.int .i64 (IntKind.i64.wrap (v28 - 1))))], [(5, (.vec 3 (List.map Zq v16))), (6, (.box (Zc v12.2).cells)), (9, (.vec 14 (List.map Z8 (v29 ++ ([(⟨((v16.getD v15.toNat Z5).Spans.getD v28.toNat Z2).Trace, ((v16.getD v15.toNat Z5).Spans.getD v28.toNat Z2).Id, ((v16.getD v15.toNat Z5).Spans.getD v28.toNat Z2).Parent, ((v16.getD v15.toNat Z5).Spans.getD v28.toNat Z2).Revision, ((v16.getD v15.toNat Z5).Spans.getD v28.toNat Z2).Clock, ((v16.getD v15.toNat Z5).Spans.getD v28.toNat Z2).Kind, [111, 108, 100], ((v16.getD v15.toNat Z5).Spans.getD v28.toNat Z2).Version, ((v16.getD v15.toNat Z5).Spans.getD v28.toNat Z2).Operation, ((v16.getD v15.toNat Z5).Spans.getD v28.toNat Z2).Start, ((v16.getD v15.toNat Z5).Spans.getD v28.toNat Z2).End, true, ((v16.getD v15.toNat Z5).Spans.getD v28.toNat Z2).Attrs, ((v16.getD v15.toNat Z5).Spans.getD v28.toNat Z2).Links⟩ : Zg), (⟨((v16.getD v15.toNat Z5).Spans.getD v28.toNat Z2).Trace, ((v16.getD v15.toNat Z5).Spans.getD v28.toNat Z2).Id, ((v16.getD v15.toNat Z5).Spans.getD v28.toNat Z2).Parent, 2, ((v16.getD v15.toNat Z5).Spans.getD v28.toNat Z2).Clock, ((v16.getD v15.toNat Z5).Spans.getD v28.toNat Z2).Kind, ((v16.getD v15.toNat Z5).Spans.getD v28.toNat Z2).Service, ((v16.getD v15.toNat Z5).Spans.getD v28.toNat Z2).Version, ((v16.getD v15.toNat Z5).Spans.getD v28.toNat Z2).Operation, ((v16.getD v15.toNat Z5).Spans.getD v28.toNat Z2).Start, ((v16.getD v15.toNat Z5).Spans.getD v28.toNat Z2).End, ((v16.getD v15.toNat Z5).Spans.getD v28.toNat Z2).Error, ((v16.getD v15.toNat Z5).Spans.getD v28.toNat Z2).Attrs, ((v16.getD v15.toNat Z5).Spans.getD v28.toNat Z2).Links⟩ : Zg)])))))]⟩) ⟨rfl, rfl, rfl, rfl, rfl, trivial⟩ ⟨rfl, rfl, rfl, trivial⟩ (IH30 _ ((IntKind.i64.wrap (v28 - 1)), (v29 ++ ([(⟨((v16.getD v15.toNat Z5).Spans.getD v28.toNat Z2).Trace, ((v16.getD v15.toNat Z5).Spans.getD v28.toNat Z2).Id, ((v16.getD v15.toNat Z5).Spans.getD v28.toNat Z2).Parent, ((v16.getD v15.toNat Z5).Spans.getD v28.toNat Z2).Revision, ((v16.getD v15.toNat Z5).Spans.getD v28.toNat Z2).Clock, ((v16.getD v15.toNat Z5).Spans.getD v28.toNat Z2).Kind, [111, 108, 100], ((v16.getD v15.toNat Z5).Spans.getD v28.toNat Z2).Version, ((v16.getD v15.toNat Z5).Spans.getD v28.toNat Z2).Operation, ((v16.getD v15.toNat Z5).Spans.getD v28.toNat Z2).Start, ((v16.getD v15.toNat Z5).Spans.getD v28.toNat Z2).End, true, ((v16.getD v15.toNat Z5).Spans.getD v28.toNat Z2).Attrs, ((v16.getD v15.toNat Z5).Spans.getD v28.toNat Z2).Links⟩ : Zg), (⟨((v16.getD v15.toNat Z5).Spans.getD v28.toNat Z2).Trace, ((v16.getD v15.toNat Z5).Spans.getD v28.toNat Z2).Id, ((v16.getD v15.toNat Z5).Spans.getD v28.toNat Z2).Parent, 2, ((v16.getD v15.toNat Z5).Spans.getD v28.toNat Z2).Clock, ((v16.getD v15.toNat Z5).Spans.getD v28.toNat Z2).Kind, ((v16.getD v15.toNat Z5).Spans.getD v28.toNat Z2).Service, ((v16.getD v15.toNat Z5).Spans.getD v28.toNat Z2).Version, ((v16.getD v15.toNat Z5).Spans.getD v28.toNat Z2).Operation, ((v16.getD v15.toNat Z5).Spans.getD v28.toNat Z2).Start, ((v16.getD v15.toNat Z5).Spans.getD v28.toNat Z2).End, ((v16.getD v15.toNat Z5).Spans.getD v28.toNat Z2).Error, ((v16.getD v15.toNat Z5).Spans.getD v28.toNat Z2).Attrs, ((v16.getD v15.toNat Z5).Spans.getD v28.toNat Z2).Links⟩ : Zg)]))) (Nat.lt_succ_self _) h)
          ·have h := hif.2 hc
           refine AWp.exit <| At.thru ?_
           exact Z13 (st' := ⟨[(5, (.vs 5)), (6, (.ptr 6 0)), (8, (.int .i64 v15)), (9, (.vs 9))], [(5, (.vec 3 (List.map Zq v16))), (6, (.box (Zc v12.2).cells)), (9, (.vec 14 (List.map Z8 v29)))]⟩) ⟨rfl, rfl, rfl, rfl, trivial⟩ ⟨rfl, rfl, rfl, trivial⟩ (J30 v29 h)
       ·have h := hif.2 hc
        refine AWp.exit <| At.thru ?_
        exact Z13 (st' := ⟨[(5, (.vs 5)), (6, (.ptr 6 0))], [(5, (.vec 3 (List.map Zq v16))), (6, (.box (Zc v12.2).cells))]⟩) ⟨rfl, rfl, trivial⟩ ⟨rfl, rfl, trivial⟩ (J17 v16 h)
   ·intro J14
    refine Z1r mixed <| Zb 0 I (Z1n (cs := (Zc v12.2).cells) (vs := (Zc v12.2).cells) I a44 I I I I) <| Zb 1 I (Zl (v := (.vs 25)) I I) ?_
    have ⟨v45, hv45, h⟩ := Z1d h
    refine Zb 2 I (Z37 (d := some 33) (c := ⟨[(.vs 25)] ++ [], [(25, (.vec 3 (List.map Zq v10)))], (Zc v45), [(25, (.vec 3 (List.map Zq v10)))], []⟩) (ar := [(.vs 25)]) (caps := []) (news := []) (forg := []) Tryz.call20 ((F20_i1_ok K v10 v45 hv45).sw 2000 25) I I ⟨rfl, trivial⟩ I ⟨rfl, trivial⟩ I) ?_
    have ⟨v47, hv47, h⟩ := Z1d h
    refine Zb 3 I (Z1e (ar := [(Zc v12.2), (Zc v45)]) (caps := []) Tryz.call19 (F19_ok K v12.2 v45 v47 hv47) I I ⟨rfl, rfl, trivial⟩ I) <| Zb 4 I (Z3q (b := v47) I I) <| Zb 5 I (Zl (v := (.bool (!v47))) I I) ?_
    have hif := Z1w h
    refine AOpsD.split (fun hc => ?_) (fun hc => ?_)
    ·have h := hif.1 hc
     refine Zx 6 I I I I I I I <| Zx 7 I I I I I I I <| Zb 8 I (Z23 (v := (.bool true)) I I I) <| Zb 9 I (Zl (v := (.bool true)) I I) <| Zx 10 I I I I I I I <| Zx 11 I I I I I I I <| Zx 12 I I I I I I I <| Zb 13 I (Z23 (v := (.bool true)) I I I) ?_
     refine Z1t (by kernel_rfl) I ?_
     exact Z13 (st' := ⟨[(5, (.vs 25)), (6, (.ptr 6 0)), (44, (.bool true))], [(6, (.box (Zc v12.2).cells)), (25, (.vec 3 (List.map Zq v10)))]⟩) ⟨rfl, rfl, rfl, trivial⟩ ⟨rfl, rfl, trivial⟩ (J14 true h)
    ·have h := hif.2 hc
     refine Z12 6 I I I I (Zl (v := (.int .i64 v12.1)) I I) <| Z12 7 I I I I (Z1x (k := .i64) (a := v12.1) (b := 0) (c := (v12.1 != 0)) I I I I) <| Zb 8 I (Z20 (v := (.bool (v12.1 != 0))) I I I) <| Zb 9 I (Zl (v := (.bool (v12.1 != 0))) I I) ?_
     have hif := Z1w h
     refine AOpsD.split (fun hc => ?_) (fun hc => ?_)
     ·have h := hif.1 hc
      refine Zx 10 I I I I I I I <| Zx 11 I I I I I I I <| Zx 12 I I I I I I I <| Zb 13 I (Z23 (v := (.bool true)) I I I) <| Z1t (by kernel_rfl) I ?_
      exact Z13 (st' := ⟨[(5, (.vs 25)), (6, (.ptr 6 0)), (44, (.bool true))], [(6, (.box (Zc v12.2).cells)), (25, (.vec 3 (List.map Zq v10)))]⟩) ⟨rfl, rfl, rfl, trivial⟩ ⟨rfl, rfl, trivial⟩ (J14 true h)
     ·have h := hif.2 hc
      refine Z12 10 I I I I (Z1n (cs := (Zc v12.2).cells) (vs := (Zc v12.2).cells) I a44 I I I I) ?_
      have ⟨v49, hv49, h⟩ := Z1d h
      refine Z12 11 I I I I (Z1e (ar := [(Zc v12.2)]) (caps := []) Tryz.call21 (F21_ok K v12.2 v49 hv49) I I ⟨rfl, trivial⟩ I) <| Z12 12 I I I I (Z1x (k := .i64) (a := v49) (b := 0) (c := (v49 != 0)) I I I I) <| Zb 13 I (Z20 (v := (.bool (v49 != 0))) I I I) <| Z1t (by kernel_rfl) I ?_
      exact Z13 (st' := ⟨[(5, (.vs 25)), (6, (.ptr 6 0)), (44, (.bool (v49 != 0)))], [(6, (.box (Zc v12.2).cells)), (25, (.vec 3 (List.map Zq v10)))]⟩) ⟨rfl, rfl, rfl, trivial⟩ ⟨rfl, rfl, trivial⟩ (J14 (v49 != 0) h)
end Go.AM.TopZ
