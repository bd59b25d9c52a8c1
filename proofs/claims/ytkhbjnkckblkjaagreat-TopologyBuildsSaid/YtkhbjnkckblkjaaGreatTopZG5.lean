/- What these functions compute, each with its walk: F101, F56, F57, F21. -/
import Derived.Test.YtkhbjnkckblkjaaGreatTopZT
import Derived.Test.YtkhbjnkckblkjaaGreatTopZG0
import Derived.Test.YtkhbjnkckblkjaaGreatTopZG2
namespace Go.AM.TopZ
open Go Go.AM Go.Proofs
set_option maxRecDepth 100000
set_option maxHeartbeats 2000000
def F101_c3 (K : Nat) : Option (Bool) :=
 some true
def F101_l2 (K : Nat) (a0 : Str) (a1 : Int) (a2 : Int) (c4 : Option (Bool)) : Nat → Int → Option (Bool)
 | 0, _ => none
 | k2 + 1, v1 =>
  if (decide (v1 < (a0.length : Int))) = true then
   if (0 : Int) ≤ v1 ∧ v1 < a0.length then
    if (decide ((byteAt a0 v1) < a1)) = true then
     some false
    else
     if (0 : Int) ≤ v1 ∧ v1 < a0.length then
      if (decide ((byteAt a0 v1) > a2)) = true then
       some false
      else
       (F101_l2 K a0 a1 a2 c4 k2) (IntKind.i64.wrap (v1 + 1))
     else none
   else none
  else
   c4
def F101 (K : Nat) (a0 : Str) (a1 : Int) (a2 : Int) : Option (Bool) :=
 F101_l2 K a0 a1 a2 (F101_c3 K) K 0
theorem F101_ok (K : Nat) (a0 : Str) (a1 : Int) (a2 : Int) (r : Bool) (h : F101 K a0 a1 a2 = some r) : ACall P 101 ⟨[(.str a0), (.int .u8 a1), (.int .u8 a2)], [], (.bool r), [], []⟩ := by
 refine Z1q Tryz.func101 Tryz.results101 rfl Tryz.ntmps101 rfl rfl rfl ?_
 intro E Q hP hN hro hret
 obtain ⟨P', nt', w0, F0, p0, S0, β0, ro0⟩ := E
 simp only at hP hN
 subst hP hN
 dsimp only [argT]
 unfold F101 at h
 refine Zj <| Zd <| Z1 I (Zm (v := (.bool false)) I I) I <| Zh <| Zi <| Zj <| Zj <| Zd ?_
 refine Z1 I (Zl (v := (.str a0)) I I) I <| Z1 I (st_lenS I u9 I) I <| Z1 I (Zl (v := (.int .i64 0)) I I) I <| Zh <| Zi <| AWp.weaken (st' := ⟨[(0, (.str a0)), (1, (.int .u8 a1)), (2, (.int .u8 a2)), (9, (.int .i64 (a0.length : Int))), (10, (.int .i64 0))], []⟩) ⟨rfl, rfl, rfl, rfl, rfl, trivial⟩ trivial ?_
 refine Z1o (V := Int) (X := Unit) (lp := fun k v => F101_l2 K a0 a1 a2 (F101_c3 K) k v = some r) (sh := fun v => ⟨[(0, (.str a0)), (1, (.int .u8 a1)), (2, (.int .u8 a2)), (9, (.int .i64 (a0.length : Int))), (10, (.int .i64 v))], []⟩) (x := fun v => F101_c3 K = some r) (shx := fun v => ⟨[], []⟩) (k := K) (v := 0) h ?_ ?_
 ·intro v h
  try dsimp only at h ⊢
  unfold F101_c3 at h
  refine Zi <| Zj <| Zd <| Z1 I (Zm (v := (.bool true)) I I) I <| Zh <| Zi <| Z1c ?_
  have h := Option.some.inj h
  subst h
  refine (hret _ ?_).1
  exact ⟨[(.bool true)], ⟨rfl, trivial⟩, rfl, trivial⟩
 ·intro N k2 v h IH2 J2
  revert h
  revert v
  intro v1 h
  try dsimp only at h IH2 J2 ⊢
  cases k2 with
  | zero => cases h
  | succ k2 =>
   rw [F101_l2] at h
   refine Zj <| Zd <| Z1 I (Z1x (k := .i64) (a := v1) (b := (a0.length : Int)) (c := (decide (v1 < (a0.length : Int)))) I I I I) I <| Zh <| Zi <| Zj ?_
   have hif := Z1w h
   refine Z16 I (fun hc => ?_) (fun hc => ?_)
   ·have h := hif.1 hc
    refine Z1a <| Zi <| Zj <| AWp.block <| Zj <| Zd <| Z1 I (Zl (v := (.int .i64 v1)) I I) I <| Z1 I (Zm (v := (.int .i64 v1)) I I) I ?_
    refine Zh <| Zi <| Zj <| Zd <| Z1 I (Zl (v := (.str a0)) I I) I <| Z1 I (Zl (v := (.int .i64 v1)) I I) I ?_
    have ⟨hg6, h⟩ := Z14 h
    refine Z1 I (st_indexS (k := .i64) I u9 I I hg6) I <| Z1 I (Zl (v := (.int .u8 a1)) I I) I <| Z1 I (Z1x (k := .u8) (a := (byteAt a0 v1)) (b := a1) (c := (decide ((byteAt a0 v1) < a1))) I I I I) I <| Z1 I (Zl (v := (.bool (decide ((byteAt a0 v1) < a1)))) I I) I ?_
    have hif := Z1w h
    refine AOps.split (fun hc => ?_) (fun hc => ?_)
    ·have h := hif.1 hc
     refine Zs I I I I I I I <| Zs I I I I I I I <| Zs I I I I I I I <| Zs I I I I I I I <| Zs I I I I I I I <| Z1 I (Z23 (v := (.bool true)) I I I) I <| Zh <| Zi ?_
     refine Z16 (b := true) I (fun hc => ?_) (fun hc => ?_)
     rotate_left
     ·cases hc
     refine Zj <| Zd <| Z1 I (Zm (v := (.bool false)) I I) I <| Zh <| Zi <| Z1c <| Z1u <| Z18 ?_
     refine Z18 (Z1u ?_)
     refine Z18 ?_
     have h := Option.some.inj h
     subst h
     refine (hret _ ?_).1
     exact ⟨[(.bool false)], ⟨rfl, trivial⟩, rfl, trivial⟩
    ·have h := hif.2 hc
     refine Zz I I I I (Zl (v := (.str a0)) I I) I <| Zz I I I I (Zl (v := (.int .i64 v1)) I I) I ?_
     have ⟨hg7, h⟩ := Z14 h
     refine Zz I I I I (st_indexS (k := .i64) I u9 I I hg7) I <| Zz I I I I (Zl (v := (.int .u8 a2)) I I) I <| Zz I I I I (Z1x (k := .u8) (a := (byteAt a0 v1)) (b := a2) (c := (decide ((byteAt a0 v1) > a2))) I I I I) I <| Z1 I (Z20 (v := (.bool (decide ((byteAt a0 v1) > a2)))) I I I) I <| Zh <| Zi ?_
     have hif := Z1w h
     refine Z16 I (fun hc => ?_) (fun hc => ?_)
     ·have h := hif.1 hc
      refine Zj <| Zd <| Z1 I (Zm (v := (.bool false)) I I) I <| Zh <| Zi <| Z1c <| Z1u <| Z18 ?_
      refine Z18 (Z1u ?_)
      refine Z18 ?_
      have h := Option.some.inj h
      subst h
      refine (hret _ ?_).1
      exact ⟨[(.bool false)], ⟨rfl, trivial⟩, rfl, trivial⟩
     ·have h := hif.2 hc
      refine Z1a <| At.end <| Zi <| Zd <| Z1 I (Z1k (k := .i64) (a := v1) (b := 1) (c := (IntKind.i64.wrap (v1 + 1))) I I I I) I <| Z1 I (Zl (v := (.int .i64 (IntKind.i64.wrap (v1 + 1)))) I I) I <| Zh ?_
      exact Z13 (st' := ⟨[(0, (.str a0)), (1, (.int .u8 a1)), (2, (.int .u8 a2)), (9, (.int .i64 (a0.length : Int))), (10, (.int .i64 (IntKind.i64.wrap (v1 + 1))))], []⟩) ⟨rfl, rfl, rfl, rfl, rfl, trivial⟩ trivial (IH2 _ (IntKind.i64.wrap (v1 + 1)) (Nat.lt_succ_self _) h)
   ·have h := hif.2 hc
    refine AWp.exit <| At.thru ?_
    exact Z13 (st' := ⟨[], []⟩) trivial trivial (J2 () h)
def F56_j2 (K : Nat) (v1 : Bool) : Option (Bool) :=
 some v1
def F56 (K : Nat) (a0 : Str) : Option (Bool) :=
 if (!(a0 == [])) = true then
  if (decide ((a0.length : Int) ≤ 64)) = true then
   (F101 K a0 33 126).bind fun v4 =>
    F56_j2 K v4
  else
   F56_j2 K false
 else
  F56_j2 K false
theorem F56_ok (K : Nat) (a0 : Str) (r : Bool) (h : F56 K a0 = some r) : ACall P 56 ⟨[(.str a0)], [], (.bool r), [], []⟩ := by
 refine Z1q Tryz.func56 Tryz.results56 rfl Tryz.ntmps56 rfl rfl rfl ?_
 intro E Q hP hN hro hret
 obtain ⟨P', nt', w0, F0, p0, S0, β0, ro0⟩ := E
 simp only at hP hN
 subst hP hN
 dsimp only [argT]
 unfold F56 at h
 refine Zj <| Zd <| Z1 I (Zm (v := (.bool false)) I I) I <| Zh <| Zi <| Zj ?_
 refine AWp.join (V := Bool) (lp := fun v => F56_j2 K v = some r) (sh := fun v => ⟨[(2, (.bool v))], []⟩) ?_ ?_
 ·intro v h
  revert h
  revert v
  intro v1 h
  try dsimp only at h ⊢
  unfold F56_j2 at h
  refine Zi <| Z1c ?_
  have h := Option.some.inj h
  subst h
  refine (hret _ ?_).1
  exact ⟨[(.bool v1)], ⟨rfl, trivial⟩, rfl, trivial⟩
 ·intro J2
  refine Zd <| Z1 I (Zl (v := (.str a0)) I I) I <| Z1 I (Z3d (a := a0) (b := []) (c := (!(a0 == []))) I I I I) I <| Z1 I (Zl (v := (.bool (!(a0 == [])))) I I) I ?_
  have hif := Z1w h
  refine AOps.split (fun hc => ?_) (fun hc => ?_)
  ·have h := hif.1 hc
   refine Zz I I I I (Zl (v := (.str a0)) I I) I <| Zz I I I I (st_lenS I u9 I) I <| Zz I I I I (Z1x (k := .i64) (a := (a0.length : Int)) (b := 64) (c := (decide ((a0.length : Int) ≤ 64))) I I I I) I <| Z1 I (Z23 (v := (.bool (decide ((a0.length : Int) ≤ 64)))) I I I) I <| Z1 I (Zl (v := (.bool (decide ((a0.length : Int) ≤ 64)))) I I) I ?_
   have hif := Z1w h
   refine AOps.split (fun hc => ?_) (fun hc => ?_)
   ·have h := hif.1 hc
    refine Zz I I I I (Zl (v := (.str a0)) I I) I ?_
    have ⟨v4, hv4, h⟩ := Z1d h
    refine Zz I I I I (Z1e (ar := [(.str a0), (.int .u8 33), (.int .u8 126)]) (caps := []) Tryz.call101 (F101_ok K a0 33 126 v4 hv4) I I ⟨rfl, rfl, rfl, trivial⟩ I) I <| Z1 I (Z23 (v := (.bool v4)) I I I) I <| Z1 I (Zm (v := (.bool v4)) I I) I <| Zh ?_
    exact Z13 (st' := ⟨[(2, (.bool v4))], []⟩) ⟨rfl, trivial⟩ trivial (J2 v4 h)
   ·have h := hif.2 hc
    refine Zs I I I I I I I <| Zs I I I I I I I <| Z1 I (Z20 (v := (.bool false)) I I I) I <| Z1 I (Zm (v := (.bool false)) I I) I <| Zh ?_
    exact Z13 (st' := ⟨[(2, (.bool false))], []⟩) ⟨rfl, trivial⟩ trivial (J2 false h)
  ·have h := hif.2 hc
   refine Zs I I I I I I I <| Zs I I I I I I I <| Zs I I I I I I I <| Z1 I (Z20 (v := (.bool false)) I I I) I <| Z1 I (Zl (v := (.bool false)) I I) I <| Zs I I I I I I I <| Zs I I I I I I I <| Z1 I (Z20 (v := (.bool false)) I I I) I ?_
   refine Z1 I (Zm (v := (.bool false)) I I) I <| Zh ?_
   exact Z13 (st' := ⟨[(2, (.bool false))], []⟩) ⟨rfl, trivial⟩ trivial (J2 false h)
def F57 (K : Nat) (a0 : Int) (a1 : Int) (a2 : Int) : Option (Bool) :=
 if (decide (a1 ≤ a0)) = true then
  some (decide (a0 ≤ a2))
 else
  some false
theorem Z68 (K : Nat) (a0 : Int) (a1 : Int) (a2 : Int) (r : Bool) (h : F57 K a0 a1 a2 = some r) : ACall P 57 ⟨[(.int .i64 a0), (.int .i64 a1), (.int .i64 a2)], [], (.bool r), [], []⟩ := by
 refine Z1q Tryz.func57 Tryz.results57 rfl Tryz.ntmps57 rfl rfl rfl ?_
 intro E Q hP hN hro hret
 obtain ⟨P', nt', w0, F0, p0, S0, β0, ro0⟩ := E
 simp only at hP hN
 subst hP hN
 dsimp only [argT]
 unfold F57 at h
 refine Zj <| Zd <| Z1 I (Zm (v := (.bool false)) I I) I <| Zh <| Zi <| Zj <| Zd <| Z1 I (Zl (v := (.int .i64 a1)) I I) I ?_
 refine Z1 I (Zl (v := (.int .i64 a0)) I I) I <| Z1 I (Z1x (k := .i64) (a := a1) (b := a0) (c := (decide (a1 ≤ a0))) I I I I) I <| Z1 I (Zl (v := (.bool (decide (a1 ≤ a0)))) I I) I ?_
 have hif := Z1w h
 refine AOps.split (fun hc => ?_) (fun hc => ?_)
 ·have h := hif.1 hc
  refine Zz I I I I (Zl (v := (.int .i64 a0)) I I) I <| Zz I I I I (Zl (v := (.int .i64 a2)) I I) I <| Zz I I I I (Z1x (k := .i64) (a := a0) (b := a2) (c := (decide (a0 ≤ a2))) I I I I) I <| Z1 I (Z23 (v := (.bool (decide (a0 ≤ a2)))) I I I) I <| Z1 I (Zm (v := (.bool (decide (a0 ≤ a2)))) I I) I <| Zh <| Zi <| Z1c ?_
  have h := Option.some.inj h
  subst h
  refine (hret _ ?_).1
  exact ⟨[(.bool (decide (a0 ≤ a2)))], ⟨rfl, trivial⟩, rfl, trivial⟩
 ·have h := hif.2 hc
  refine Zs I I I I I I I <| Zs I I I I I I I <| Zs I I I I I I I <| Z1 I (Z20 (v := (.bool false)) I I I) I <| Z1 I (Zm (v := (.bool false)) I I) I <| Zh <| Zi <| Z1c ?_
  have h := Option.some.inj h
  subst h
  refine (hret _ ?_).1
  exact ⟨[(.bool false)], ⟨rfl, trivial⟩, rfl, trivial⟩
def Z7k (K : Nat) : Option (Int) :=
 some 0
def Z9m (K : Nat) (b9 : Int → Option (Int)) (v5 : Int) : Option (Int) :=
 b9 (IntKind.i64.wrap (v5 + 1))
def Z9q (K : Nat) (b9 : Int → Option (Int)) (v5 : Int) (v20 : Bool) : Option (Int) :=
 if v20 = true then
  some 2
 else
  Z9m K b9 v5
def Z9g (K : Nat) (b9 : Int → Option (Int)) (v5 : Int) (v28 : Bool) : Option (Int) :=
 if v28 = true then
  some 2
 else
  Z9m K b9 v5
def Z4i (K : Nat) (a0 : Ze) (c8 : Option (Int)) : Nat → Int → Option (Int)
 | 0, _ => none
 | k6 + 1, v5 =>
  if (decide (v5 < (a0.Calls.length : Int))) = true then
   if (0 : Int) ≤ v5 ∧ v5 < a0.Calls.length then
    (F58 K a0 (a0.Calls.getD v5.toNat Za).Caller).bind fun v12 =>
     (F58 K a0 (a0.Calls.getD v5.toNat Za).Callee).bind fun v14 =>
      if (!v12.2) = true then
       some 10
      else
       if (!v14.2) = true then
        some 10
       else
        if ((a0.Calls.getD v5.toNat Za).Caller == (a0.Calls.getD v5.toNat Za).Callee) = true then
         some 17
        else
         if (decide (v5 > 0)) = true then
          if (0 : Int) ≤ (IntKind.i64.wrap (v5 - 1)) ∧ (IntKind.i64.wrap (v5 - 1)) < a0.Calls.length then
           if (0 : Int) ≤ (IntKind.i64.wrap (v5 - 1)) ∧ (IntKind.i64.wrap (v5 - 1)) < a0.Calls.length then
            (F59 K (⟨(a0.Calls.getD v5.toNat Za).Caller, (a0.Calls.getD v5.toNat Za).Callee⟩ : Zt) (⟨(a0.Calls.getD (IntKind.i64.wrap (v5 - 1)).toNat Za).Caller, (a0.Calls.getD (IntKind.i64.wrap (v5 - 1)).toNat Za).Callee⟩ : Zt)).bind fun v19 =>
             if (decide (v19 ≤ 0)) = true then
              some 8
             else
              (F57 K (a0.Calls.getD v5.toNat Za).Count 1 1152921504606846976).bind fun v23 =>
               if (!v23) = true then
                Z9q K (Z4i K a0 c8 k6) v5 true
               else
                (F57 K (a0.Calls.getD v5.toNat Za).Errors 0 (a0.Calls.getD v5.toNat Za).Count).bind fun v25 =>
                 if (!v25) = true then
                  Z9q K (Z4i K a0 c8 k6) v5 true
                 else
                  (F57 K (a0.Calls.getD v5.toNat Za).Time 0 1152921504606846976).bind fun v27 =>
                   Z9q K (Z4i K a0 c8 k6) v5 (!v27)
           else none
          else none
         else
          (F57 K (a0.Calls.getD v5.toNat Za).Count 1 1152921504606846976).bind fun v31 =>
           if (!v31) = true then
            Z9g K (Z4i K a0 c8 k6) v5 true
           else
            (F57 K (a0.Calls.getD v5.toNat Za).Errors 0 (a0.Calls.getD v5.toNat Za).Count).bind fun v33 =>
             if (!v33) = true then
              Z9g K (Z4i K a0 c8 k6) v5 true
             else
              (F57 K (a0.Calls.getD v5.toNat Za).Time 0 1152921504606846976).bind fun v35 =>
               Z9g K (Z4i K a0 c8 k6) v5 (!v35)
   else none
  else
   c8
def Z66 (K : Nat) (a0 : Ze) : Option (Int) :=
 Z4i K a0 (Z7k K) K 0
def Z9a (K : Nat) (b36 : Int → Option (Int)) (v1 : Int) : Option (Int) :=
 b36 (IntKind.i64.wrap (v1 + 1))
def Z9s (K : Nat) (b36 : Int → Option (Int)) (v1 : Int) (v42 : Bool) : Option (Int) :=
 if v42 = true then
  some 2
 else
  Z9a K b36 v1
def Z9p (K : Nat) (b36 : Int → Option (Int)) (v1 : Int) (v50 : Bool) : Option (Int) :=
 if v50 = true then
  some 2
 else
  Z9a K b36 v1
def Z4h (K : Nat) (a0 : Ze) (c4 : Option (Int)) : Nat → Int → Option (Int)
 | 0, _ => none
 | k2 + 1, v1 =>
  if (decide (v1 < (a0.Services.length : Int))) = true then
   if (0 : Int) ≤ v1 ∧ v1 < a0.Services.length then
    (F56 K (a0.Services.getD v1.toNat Z9).Name).bind fun v39 =>
     if (!v39) = true then
      some 11
     else
      if (decide (v1 > 0)) = true then
       if (0 : Int) ≤ (IntKind.i64.wrap (v1 - 1)) ∧ (IntKind.i64.wrap (v1 - 1)) < a0.Services.length then
        if (slt (a0.Services.getD v1.toNat Z9).Name (a0.Services.getD (IntKind.i64.wrap (v1 - 1)).toNat Z9).Name || (a0.Services.getD v1.toNat Z9).Name == (a0.Services.getD (IntKind.i64.wrap (v1 - 1)).toNat Z9).Name) = true then
         some 8
        else
         (F57 K (a0.Services.getD v1.toNat Z9).Spans 1 1152921504606846976).bind fun v45 =>
          if (!v45) = true then
           Z9s K (Z4h K a0 c4 k2) v1 true
          else
           (F57 K (a0.Services.getD v1.toNat Z9).Errors 0 (a0.Services.getD v1.toNat Z9).Spans).bind fun v47 =>
            if (!v47) = true then
             Z9s K (Z4h K a0 c4 k2) v1 true
            else
             (F57 K (a0.Services.getD v1.toNat Z9).Roots 0 (a0.Services.getD v1.toNat Z9).Spans).bind fun v49 =>
              Z9s K (Z4h K a0 c4 k2) v1 (!v49)
       else none
      else
       (F57 K (a0.Services.getD v1.toNat Z9).Spans 1 1152921504606846976).bind fun v53 =>
        if (!v53) = true then
         Z9p K (Z4h K a0 c4 k2) v1 true
        else
         (F57 K (a0.Services.getD v1.toNat Z9).Errors 0 (a0.Services.getD v1.toNat Z9).Spans).bind fun v55 =>
          if (!v55) = true then
           Z9p K (Z4h K a0 c4 k2) v1 true
          else
           (F57 K (a0.Services.getD v1.toNat Z9).Roots 0 (a0.Services.getD v1.toNat Z9).Spans).bind fun v57 =>
            Z9p K (Z4h K a0 c4 k2) v1 (!v57)
   else none
  else
   c4
def F21 (K : Nat) (a0 : Ze) : Option (Int) :=
 if (decide ((a0.Services.length : Int) > 256)) = true then
  some 6
 else
  Z4h K a0 (Z66 K a0) K 0
theorem F21_ok (K : Nat) (a0 : Ze) (r : Int) (h : F21 K a0 = some r) : ACall P 21 ⟨[(Zc a0)], [], (.int .i64 r), [], []⟩ := by
 refine Z1q Tryz.func21 Tryz.results21 rfl Tryz.ntmps21 rfl rfl rfl ?_
 intro E Q hP hN hro hret
 obtain ⟨P', nt', w0, F0, p0, S0, β0, ro0⟩ := E
 simp only at hP hN
 subst hP hN
 dsimp only [argT]
 unfold F21 at h
 refine Zj <| Zd <| Z1 I (Z2o (v := (Zc a0)) (cs := (Zc a0).cells) I I I I I) I <| Z1 I (Zm (v := (.int .i64 0)) I I) I <| Zh <| Zi <| Zj <| Zj ?_
 refine Zd <| Z1 I (Zr (m := 1) (o := 0) I Z4y I I) I <| Z1 I (Zy (cs := (Zc a0).cells) (v := (.sl 4 (a0.Services.map Z3) false)) I o41 I I I) I <| Z1 I (Z2d (l := a0.Services) (enc := Z3) I s41 I) I <| Z1 I (Z1x (k := .i64) (a := (a0.Services.length : Int)) (b := 256) (c := (decide ((a0.Services.length : Int) > 256))) I I I I) I <| Zh <| Zi ?_
 have hif := Z1w h
 refine Z16 I (fun hc => ?_) (fun hc => ?_)
 ·have h := hif.1 hc
  refine Zj <| Zd <| Z1 I (Zm (v := (.int .i64 6)) I I) I <| Zh <| Zi <| Z1c <| Z18 ?_
  have h := Option.some.inj h
  subst h
  refine (hret _ ?_).1
  exact ⟨[(.int .i64 6)], ⟨rfl, trivial⟩, rfl, trivial⟩
 ·have h := hif.2 hc
  refine Z1a <| Zi <| Zj <| Zj <| Zd <| Z1 I (Zr (m := 1) (o := 0) I Z4y I I) I <| Z1 I (Zy (cs := (Zc a0).cells) (v := (.sl 4 (a0.Services.map Z3) false)) I o41 I I I) I <| Z1 I (Z2d (l := a0.Services) (enc := Z3) I s41 I) I ?_
  refine Z1 I (Zl (v := (.int .i64 0)) I I) I <| Zh <| Zi <| AWp.weaken (st' := ⟨[(1, (.ptr 1 0)), (16, (.sl 4 (a0.Services.map Z3) false)), (17, (.int .i64 (a0.Services.length : Int))), (18, (.int .i64 0))], [(1, (.box (Zc a0).cells))]⟩) ⟨rfl, rfl, rfl, rfl, trivial⟩ ⟨rfl, trivial⟩ ?_
  refine Z1o (V := Int) (X := Unit) (lp := fun k v => Z4h K a0 (Z66 K a0) k v = some r) (sh := fun v => ⟨[(1, (.ptr 1 0)), (16, (.sl 4 (a0.Services.map Z3) false)), (17, (.int .i64 (a0.Services.length : Int))), (18, (.int .i64 v))], [(1, (.box (Zc a0).cells))]⟩) (x := fun v => Z66 K a0 = some r) (shx := fun v => ⟨[(1, (.ptr 1 0))], [(1, (.box (Zc a0).cells))]⟩) (k := K) (v := 0) h ?_ ?_
  ·intro v h
   try dsimp only at h ⊢
   unfold Z66 at h
   refine Zi <| Zj <| Zj <| Zd <| Z1 I (Zr (m := 1) (o := 0) I Z59 I I) I <| Z1 I (Zy (cs := (Zc a0).cells) (v := (.sl 5 (a0.Calls.map Z6) false)) I o42 I I I) I <| Z1 I (Z2d (l := a0.Calls) (enc := Z6) I s42 I) I <| Z1 I (Zl (v := (.int .i64 0)) I I) I ?_
   refine Zh <| Zi <| AWp.weaken (st' := ⟨[(1, (.ptr 1 0)), (66, (.sl 5 (a0.Calls.map Z6) false)), (67, (.int .i64 (a0.Calls.length : Int))), (68, (.int .i64 0))], [(1, (.box (Zc a0).cells))]⟩) ⟨rfl, rfl, rfl, rfl, trivial⟩ ⟨rfl, trivial⟩ ?_
   refine Z1o (V := Int) (X := Unit) (lp := fun k v => Z4i K a0 (Z7k K) k v = some r) (sh := fun v => ⟨[(1, (.ptr 1 0)), (66, (.sl 5 (a0.Calls.map Z6) false)), (67, (.int .i64 (a0.Calls.length : Int))), (68, (.int .i64 v))], [(1, (.box (Zc a0).cells))]⟩) (x := fun v => Z7k K = some r) (shx := fun v => ⟨[], []⟩) (k := K) (v := 0) h ?_ ?_
   ·intro v h
    try dsimp only at h ⊢
    unfold Z7k at h
    refine Zi <| Zj <| Zd <| Z1 I (Zm (v := (.int .i64 0)) I I) I <| Zh <| Zi <| Z1c ?_
    have h := Option.some.inj h
    subst h
    refine (hret _ ?_).1
    exact ⟨[(.int .i64 0)], ⟨rfl, trivial⟩, rfl, trivial⟩
   ·intro N k6 v h IH6 J6
    revert h
    revert v
    intro v5 h
    try dsimp only at h IH6 J6 ⊢
    cases k6 with
    | zero => cases h
    | succ k6 =>
     rw [Z4i] at h
     refine Zj <| Zd <| Z1 I (Z1x (k := .i64) (a := v5) (b := (a0.Calls.length : Int)) (c := (decide (v5 < (a0.Calls.length : Int)))) I I I I) I <| Zh <| Zi <| Zj ?_
     have hif := Z1w h
     refine Z16 I (fun hc => ?_) (fun hc => ?_)
     ·have h := hif.1 hc
      refine Z1a <| Zi <| Zj <| AWp.block <| Zj <| Zd <| Z1 I (Zl (v := (.int .i64 v5)) I I) I ?_
      have ⟨hg10, h⟩ := Z14 h
      refine Z1 I (Z1s (k := .i64) (l := a0.Calls) (enc := Z6) (z := Za) (n := v5) (cs := (Z6 (a0.Calls.getD v5.toNat Za)).cells) (full := false) I s42 I I hg10 I) I <| Z1 I (Z2h (cs := (Z6 (a0.Calls.getD v5.toNat Za)).cells) (vs := (Z6 (a0.Calls.getD v5.toNat Za)).cells) I a88 I I I) I <| Z1 I (Z21 (cs := [(.str []), (.str []), (.int .i64 0), (.int .i64 0), (.int .i64 0)]) I z88 I I I) I <| Z1 I (Zm (v := (.int .i64 v5)) I I) I <| Z1 I (Z1b (cs := [(.str []), (.str []), (.int .i64 0), (.int .i64 0), (.int .i64 0)]) (vs := (Z6 (a0.Calls.getD v5.toNat Za)).cells) (ds := (Z6 (a0.Calls.getD v5.toNat Za)).cells) (v := (Z6 (a0.Calls.getD v5.toNat Za))) sz88 I I I I I I I I) I <| Zh <| Zi <| Zj ?_
      refine Zd <| Z1 I (Z1n (cs := (Zc a0).cells) (vs := (Zc a0).cells) I a44 I I I I) I <| Z1 I (Zr (m := 6) (o := 0) I Z95 I I) I <| Z1 I (Zy (cs := (Z6 (a0.Calls.getD v5.toNat Za)).cells) (v := (.str (a0.Calls.getD v5.toNat Za).Caller)) I o9 I I I) I ?_
      have ⟨v12, hv12, h⟩ := Z1d h
      refine Z1 I (Z1e (ar := [(Zc a0), (.str (a0.Calls.getD v5.toNat Za).Caller)]) (caps := []) Tryz.call58 (F58_ok K a0 (a0.Calls.getD v5.toNat Za).Caller v12 hv12) I I ⟨rfl, rfl, trivial⟩ I) I <| Z1 I (Zl (v := (.tup [(.int .i64 v12.1), (.bool v12.2)])) I I) I <| Z1 I (Z2g (vs := [(.int .i64 v12.1), (.bool v12.2)]) (v := (.int .i64 v12.1)) I I I) I <| Z1 I (Z2g (vs := [(.int .i64 v12.1), (.bool v12.2)]) (v := (.bool v12.2)) I I I) I <| Z1 I (Zm (v := (.int .i64 v12.1)) I I) I <| Z1 I (Zm (v := (.bool v12.2)) I I) I <| Zh <| Zi ?_
      refine Zj <| Zd <| Z1 I (Z1n (cs := (Zc a0).cells) (vs := (Zc a0).cells) I a44 I I I I) I <| Z1 I (Zr (m := 6) (o := 0) I Z93 I I) I <| Z1 I (Zy (cs := (Z6 (a0.Calls.getD v5.toNat Za)).cells) (v := (.str (a0.Calls.getD v5.toNat Za).Callee)) I o9 I I I) I ?_
      have ⟨v14, hv14, h⟩ := Z1d h
      refine Z1 I (Z1e (ar := [(Zc a0), (.str (a0.Calls.getD v5.toNat Za).Callee)]) (caps := []) Tryz.call58 (F58_ok K a0 (a0.Calls.getD v5.toNat Za).Callee v14 hv14) I I ⟨rfl, rfl, trivial⟩ I) I <| Z1 I (Zl (v := (.tup [(.int .i64 v14.1), (.bool v14.2)])) I I) I <| Z1 I (Z2g (vs := [(.int .i64 v14.1), (.bool v14.2)]) (v := (.int .i64 v14.1)) I I I) I <| Z1 I (Z2g (vs := [(.int .i64 v14.1), (.bool v14.2)]) (v := (.bool v14.2)) I I I) I <| Z1 I (Zm (v := (.int .i64 v14.1)) I I) I <| Z1 I (Zm (v := (.bool v14.2)) I I) I <| Zh <| Zi ?_
      refine AWp.block <| Zj <| Zd <| Z1 I (Zl (v := (.bool v12.2)) I I) I <| Z1 I (Z3q (b := v12.2) I I) I <| Z1 I (Zl (v := (.bool (!v12.2))) I I) I ?_
      have hif := Z1w h
      refine AOps.split (fun hc => ?_) (fun hc => ?_)
      ·have h := hif.1 hc
       refine Zs I I I I I I I <| Zs I I I I I I I <| Z1 I (Z23 (v := (.bool true)) I I I) I <| Z1 I (Zm (v := (.bool true)) I I) I <| Zh <| Zi ?_
       refine Z16 (b := true) I (fun hc => ?_) (fun hc => ?_)
       rotate_left
       ·cases hc
       refine Zj <| Zd <| Z1 I (Zm (v := (.int .i64 10)) I I) I <| Zh <| Zi <| Z1c <| Z1u <| Z1u ?_
       refine Z18 ?_
       refine Z18 (Z1u ?_)
       refine Z18 ?_
       have h := Option.some.inj h
       subst h
       refine (hret _ ?_).1
       exact ⟨[(.int .i64 10)], ⟨rfl, trivial⟩, rfl, trivial⟩
      ·have h := hif.2 hc
       refine Zz I I I I (Zl (v := (.bool v14.2)) I I) I <| Zz I I I I (Z3q (b := v14.2) I I) I <| Z1 I (Z20 (v := (.bool (!v14.2))) I I I) I <| Z1 I (Zm (v := (.bool (!v14.2))) I I) I <| Zh <| Zi ?_
       refine AWp.join (V := Unit) (lp := fun v => Z9m K (Z4i K a0 (Z7k K) k6) v5 = some r) (sh := fun v => ⟨[(1, (.ptr 1 0)), (66, (.sl 5 (a0.Calls.map Z6) false)), (67, (.int .i64 (a0.Calls.length : Int))), (68, (.int .i64 v5))], [(1, (.box (Zc a0).cells))]⟩) ?_ ?_
       ·intro v h
        try dsimp only at h ⊢
        unfold Z9m at h
        refine At.end <| At.end <| Zi <| Zd <| Z1 I (Z1k (k := .i64) (a := v5) (b := 1) (c := (IntKind.i64.wrap (v5 + 1))) I I I I) I <| Z1 I (Zl (v := (.int .i64 (IntKind.i64.wrap (v5 + 1)))) I I) I <| Zh ?_
        exact Z13 (st' := ⟨[(1, (.ptr 1 0)), (66, (.sl 5 (a0.Calls.map Z6) false)), (67, (.int .i64 (a0.Calls.length : Int))), (68, (.int .i64 (IntKind.i64.wrap (v5 + 1))))], [(1, (.box (Zc a0).cells))]⟩) ⟨rfl, rfl, rfl, rfl, trivial⟩ ⟨rfl, trivial⟩ (IH6 _ (IntKind.i64.wrap (v5 + 1)) (Nat.lt_succ_self _) h)
       ·intro J15
        have hif := Z1w h
        refine Z16 I (fun hc => ?_) (fun hc => ?_)
        ·have h := hif.1 hc
         refine Zj <| Zd <| Z1 I (Zm (v := (.int .i64 10)) I I) I <| Zh <| Zi <| Z1c <| Z1u <| Z1u ?_
         refine Z18 ?_
         refine Z18 (Z1u ?_)
         refine Z18 ?_
         have h := Option.some.inj h
         subst h
         refine (hret _ ?_).1
         exact ⟨[(.int .i64 10)], ⟨rfl, trivial⟩, rfl, trivial⟩
        ·have h := hif.2 hc
         refine Zj <| Zd <| Z1 I (Zr (m := 6) (o := 0) I Z95 I I) I <| Z1 I (Zy (cs := (Z6 (a0.Calls.getD v5.toNat Za)).cells) (v := (.str (a0.Calls.getD v5.toNat Za).Caller)) I o9 I I I) I <| Z1 I (Zr (m := 6) (o := 0) I Z93 I I) I <| Z1 I (Zy (cs := (Z6 (a0.Calls.getD v5.toNat Za)).cells) (v := (.str (a0.Calls.getD v5.toNat Za).Callee)) I o9 I I I) I <| Z1 I (Z3d (a := (a0.Calls.getD v5.toNat Za).Caller) (b := (a0.Calls.getD v5.toNat Za).Callee) (c := ((a0.Calls.getD v5.toNat Za).Caller == (a0.Calls.getD v5.toNat Za).Callee)) I I I I) I <| Z1 I (Zm (v := (.bool ((a0.Calls.getD v5.toNat Za).Caller == (a0.Calls.getD v5.toNat Za).Callee))) I I) I ?_
         refine Zh <| Zi ?_
         have hif := Z1w h
         refine Z16 I (fun hc => ?_) (fun hc => ?_)
         ·have h := hif.1 hc
          refine Zj <| Zd <| Z1 I (Zm (v := (.int .i64 17)) I I) I <| Zh <| Zi <| Z1c <| Z1u <| Z1u ?_
          refine Z18 ?_
          refine Z18 (Z1u ?_)
          refine Z18 ?_
          have h := Option.some.inj h
          subst h
          refine (hret _ ?_).1
          exact ⟨[(.int .i64 17)], ⟨rfl, trivial⟩, rfl, trivial⟩
         ·have h := hif.2 hc
          refine Zj <| Z1r mixed <| Zb 0 I (Zl (v := (.int .i64 v5)) I I) <| Zb 1 I (Z1x (k := .i64) (a := v5) (b := 0) (c := (decide (v5 > 0))) I I I I) <| Zb 2 I (Zl (v := (.bool (decide (v5 > 0)))) I I) ?_
          have hif := Z1w h
          refine AOpsD.split (fun hc => ?_) (fun hc => ?_)
          ·have h := hif.1 hc
           refine Z12 3 I I I I (Zr (m := 6) (o := 0) I Z95 I I) <| Z12 4 I I I I (Zy (cs := (Z6 (a0.Calls.getD v5.toNat Za)).cells) (v := (.str (a0.Calls.getD v5.toNat Za).Caller)) I o9 I I I) <| Z12 5 I I I I (Zr (m := 6) (o := 0) I Z93 I I) <| Z12 6 I I I I (Zy (cs := (Z6 (a0.Calls.getD v5.toNat Za)).cells) (v := (.str (a0.Calls.getD v5.toNat Za).Callee)) I o9 I I I) <| Z12 7 I I I I (Z29 (vs := [(0, (.str (a0.Calls.getD v5.toNat Za).Caller)), (1, (.str (a0.Calls.getD v5.toNat Za).Callee))]) (cs := [(.str (a0.Calls.getD v5.toNat Za).Caller), (.str (a0.Calls.getD v5.toNat Za).Callee)]) I st126 ⟨rfl, rfl, rfl, rfl, trivial⟩ I) <| Z12 8 I I I I (Zr (m := 1) (o := 0) I Z59 I I) <| Z12 9 I I I I (Zy (cs := (Zc a0).cells) (v := (.sl 5 (a0.Calls.map Z6) false)) I o42 I I I) <| Z12 10 I I I I (Zl (v := (.int .i64 v5)) I I) ?_
           refine Z12 11 I I I I (Z1k (k := .i64) (a := v5) (b := 1) (c := (IntKind.i64.wrap (v5 - 1))) I I I I) ?_
           have ⟨hg16, h⟩ := Z14 h
           refine Z12 12 I I I I (Z1s (k := .i64) (l := a0.Calls) (enc := Z6) (z := Za) (n := (IntKind.i64.wrap (v5 - 1))) (cs := (Z6 (a0.Calls.getD (IntKind.i64.wrap (v5 - 1)).toNat Za)).cells) (full := false) I s42 I I hg16 I) <| Z12 13 I I I I (Z2f (cs := (Z6 (a0.Calls.getD (IntKind.i64.wrap (v5 - 1)).toNat Za)).cells) (ds := (Z6 (a0.Calls.getD (IntKind.i64.wrap (v5 - 1)).toNat Za)).cells) I Z95 I I I) <| Z12 14 I I I I (Z28 (cs := (Z6 (a0.Calls.getD (IntKind.i64.wrap (v5 - 1)).toNat Za)).cells) (v := (.str (a0.Calls.getD (IntKind.i64.wrap (v5 - 1)).toNat Za).Caller)) I o9 I I) <| Z12 15 I I I I (Zr (m := 1) (o := 0) I Z59 I I) <| Z12 16 I I I I (Zy (cs := (Zc a0).cells) (v := (.sl 5 (a0.Calls.map Z6) false)) I o42 I I I) <| Z12 17 I I I I (Zl (v := (.int .i64 v5)) I I) <| Z12 18 I I I I (Z1k (k := .i64) (a := v5) (b := 1) (c := (IntKind.i64.wrap (v5 - 1))) I I I I) ?_
           have ⟨hg17, h⟩ := Z14 h
           refine Z12 19 I I I I (Z1s (k := .i64) (l := a0.Calls) (enc := Z6) (z := Za) (n := (IntKind.i64.wrap (v5 - 1))) (cs := (Z6 (a0.Calls.getD (IntKind.i64.wrap (v5 - 1)).toNat Za)).cells) (full := false) I s42 I I hg17 I) <| Z12 20 I I I I (Z2f (cs := (Z6 (a0.Calls.getD (IntKind.i64.wrap (v5 - 1)).toNat Za)).cells) (ds := [(.str (a0.Calls.getD (IntKind.i64.wrap (v5 - 1)).toNat Za).Callee), (.int .i64 (a0.Calls.getD (IntKind.i64.wrap (v5 - 1)).toNat Za).Count), (.int .i64 (a0.Calls.getD (IntKind.i64.wrap (v5 - 1)).toNat Za).Errors), (.int .i64 (a0.Calls.getD (IntKind.i64.wrap (v5 - 1)).toNat Za).Time)]) I Z93 I I I) <| Z12 21 I I I I (Z28 (cs := [(.str (a0.Calls.getD (IntKind.i64.wrap (v5 - 1)).toNat Za).Callee), (.int .i64 (a0.Calls.getD (IntKind.i64.wrap (v5 - 1)).toNat Za).Count), (.int .i64 (a0.Calls.getD (IntKind.i64.wrap (v5 - 1)).toNat Za).Errors), (.int .i64 (a0.Calls.getD (IntKind.i64.wrap (v5 - 1)).toNat Za).Time)]) (v := (.str (a0.Calls.getD (IntKind.i64.wrap (v5 - 1)).toNat Za).Callee)) I o9 I I) <| Z12 22 I I I I (Z29 (vs := [(0, (.str (a0.Calls.getD (IntKind.i64.wrap (v5 - 1)).toNat Za).Caller)), (1, (.str (a0.Calls.getD (IntKind.i64.wrap (v5 - 1)).toNat Za).Callee))]) (cs := [(.str (a0.Calls.getD (IntKind.i64.wrap (v5 - 1)).toNat Za).Caller), (.str (a0.Calls.getD (IntKind.i64.wrap (v5 - 1)).toNat Za).Callee)]) I st126 ⟨rfl, rfl, rfl, rfl, trivial⟩ I) ?_
           have ⟨v19, hv19, h⟩ := Z1d h
           refine Z12 23 I I I I (Z1e (ar := [(.ag [(.str (a0.Calls.getD v5.toNat Za).Caller), (.str (a0.Calls.getD v5.toNat Za).Callee)]), (.ag [(.str (a0.Calls.getD (IntKind.i64.wrap (v5 - 1)).toNat Za).Caller), (.str (a0.Calls.getD (IntKind.i64.wrap (v5 - 1)).toNat Za).Callee)])]) (caps := []) Tryz.call59 (F59_ok K (⟨(a0.Calls.getD v5.toNat Za).Caller, (a0.Calls.getD v5.toNat Za).Callee⟩ : Zt) (⟨(a0.Calls.getD (IntKind.i64.wrap (v5 - 1)).toNat Za).Caller, (a0.Calls.getD (IntKind.i64.wrap (v5 - 1)).toNat Za).Callee⟩ : Zt) v19 hv19) I I ⟨rfl, rfl, trivial⟩ I) <| Z12 24 I I I I (Z1x (k := .i64) (a := v19) (b := 0) (c := (decide (v19 ≤ 0))) I I I I) <| Zb 25 I (Z23 (v := (.bool (decide (v19 ≤ 0)))) I I I) <| Zb 26 I (Zm (v := (.bool (decide (v19 ≤ 0)))) I I) <| Z1t (by kernel_rfl) I <| Zi ?_
           have hif := Z1w h
           refine Z16 I (fun hc => ?_) (fun hc => ?_)
           ·have h := hif.1 hc
            refine Zj <| Zd <| Z1 I (Zm (v := (.int .i64 8)) I I) I <| Zh <| Zi <| Z1c <| Z1u <| Z1u ?_
            refine Z18 ?_
            refine Z18 (Z1u ?_)
            refine Z18 ?_
            have h := Option.some.inj h
            subst h
            refine (hret _ ?_).1
            exact ⟨[(.int .i64 8)], ⟨rfl, trivial⟩, rfl, trivial⟩
           ·have h := hif.2 hc
            refine Zj ?_
            refine AWp.join (V := Bool) (lp := fun v => Z9q K (Z4i K a0 (Z7k K) k6) v5 v = some r) (sh := fun v => ⟨[(1, (.ptr 1 0)), (66, (.sl 5 (a0.Calls.map Z6) false)), (67, (.int .i64 (a0.Calls.length : Int))), (68, (.int .i64 v5)), (127, (.bool v))], [(1, (.box (Zc a0).cells))]⟩) ?_ ?_
            ·intro v h
             revert h
             revert v
             intro v20 h
             try dsimp only at h ⊢
             unfold Z9q at h
             refine Zi ?_
             have hif := Z1w h
             refine Z16 I (fun hc => ?_) (fun hc => ?_)
             ·have h := hif.1 hc
              refine Zj <| Zd <| Z1 I (Zm (v := (.int .i64 2)) I I) I <| Zh <| Zi <| Z1c <| Z1u <| Z1u ?_
              refine Z18 ?_
              refine Z18 (Z1u ?_)
              refine Z18 ?_
              have h := Option.some.inj h
              subst h
              refine (hret _ ?_).1
              exact ⟨[(.int .i64 2)], ⟨rfl, trivial⟩, rfl, trivial⟩
             ·have h := hif.2 hc
              refine Z1a ?_
              exact Z13 (st' := ⟨[(1, (.ptr 1 0)), (66, (.sl 5 (a0.Calls.map Z6) false)), (67, (.int .i64 (a0.Calls.length : Int))), (68, (.int .i64 v5))], [(1, (.box (Zc a0).cells))]⟩) ⟨rfl, rfl, rfl, rfl, trivial⟩ ⟨rfl, trivial⟩ (J15 () h)
            ·intro J21
             refine Zd <| Z1 I (Zr (m := 6) (o := 0) I f88_2 I I) I <| Z1 I (Zy (cs := (Z6 (a0.Calls.getD v5.toNat Za)).cells) (v := (.int .i64 (a0.Calls.getD v5.toNat Za).Count)) I o3 I I I) I ?_
             have ⟨v23, hv23, h⟩ := Z1d h
             refine Z1 I (Z1e (ar := [(.int .i64 (a0.Calls.getD v5.toNat Za).Count), (.int .i64 1), (.int .i64 1152921504606846976)]) (caps := []) Tryz.call57 (Z68 K (a0.Calls.getD v5.toNat Za).Count 1 1152921504606846976 v23 hv23) I I ⟨rfl, rfl, rfl, trivial⟩ I) I <| Z1 I (Z3q (b := v23) I I) I <| Z1 I (Zl (v := (.bool (!v23))) I I) I ?_
             have hif := Z1w h
             refine AOps.split (fun hc => ?_) (fun hc => ?_)
             ·have h := hif.1 hc
              refine Zs I I I I I I I <| Zs I I I I I I I <| Zs I I I I I I I <| Zs I I I I I I I <| Zs I I I I I I I <| Zs I I I I I I I <| Z1 I (Z23 (v := (.bool true)) I I I) I <| Z1 I (Zl (v := (.bool true)) I I) I ?_
              refine Zs I I I I I I I <| Zs I I I I I I I <| Zs I I I I I I I <| Zs I I I I I I I <| Z1 I (Z23 (v := (.bool true)) I I I) I <| Z1 I (Zm (v := (.bool true)) I I) I <| Zh ?_
              exact Z13 (st' := ⟨[(1, (.ptr 1 0)), (66, (.sl 5 (a0.Calls.map Z6) false)), (67, (.int .i64 (a0.Calls.length : Int))), (68, (.int .i64 v5)), (127, (.bool true))], [(1, (.box (Zc a0).cells))]⟩) ⟨rfl, rfl, rfl, rfl, rfl, trivial⟩ ⟨rfl, trivial⟩ (J21 true h)
             ·have h := hif.2 hc
              refine Zz I I I I (Zr (m := 6) (o := 0) I f88_3 I I) I <| Zz I I I I (Zy (cs := (Z6 (a0.Calls.getD v5.toNat Za)).cells) (v := (.int .i64 (a0.Calls.getD v5.toNat Za).Errors)) I o3 I I I) I <| Zz I I I I (Zr (m := 6) (o := 0) I f88_2 I I) I <| Zz I I I I (Zy (cs := (Z6 (a0.Calls.getD v5.toNat Za)).cells) (v := (.int .i64 (a0.Calls.getD v5.toNat Za).Count)) I o3 I I I) I ?_
              have ⟨v25, hv25, h⟩ := Z1d h
              refine Zz I I I I (Z1e (ar := [(.int .i64 (a0.Calls.getD v5.toNat Za).Errors), (.int .i64 0), (.int .i64 (a0.Calls.getD v5.toNat Za).Count)]) (caps := []) Tryz.call57 (Z68 K (a0.Calls.getD v5.toNat Za).Errors 0 (a0.Calls.getD v5.toNat Za).Count v25 hv25) I I ⟨rfl, rfl, rfl, trivial⟩ I) I <| Zz I I I I (Z3q (b := v25) I I) I <| Z1 I (Z20 (v := (.bool (!v25))) I I I) I <| Z1 I (Zl (v := (.bool (!v25))) I I) I ?_
              have hif := Z1w h
              refine AOps.split (fun hc => ?_) (fun hc => ?_)
              ·have h := hif.1 hc
               refine Zs I I I I I I I <| Zs I I I I I I I <| Zs I I I I I I I <| Zs I I I I I I I <| Z1 I (Z23 (v := (.bool true)) I I I) I <| Z1 I (Zm (v := (.bool true)) I I) I <| Zh ?_
               exact Z13 (st' := ⟨[(1, (.ptr 1 0)), (66, (.sl 5 (a0.Calls.map Z6) false)), (67, (.int .i64 (a0.Calls.length : Int))), (68, (.int .i64 v5)), (127, (.bool true))], [(1, (.box (Zc a0).cells))]⟩) ⟨rfl, rfl, rfl, rfl, rfl, trivial⟩ ⟨rfl, trivial⟩ (J21 true h)
              ·have h := hif.2 hc
               refine Zz I I I I (Zr (m := 6) (o := 0) I f88_4 I I) I <| Zz I I I I (Zy (cs := (Z6 (a0.Calls.getD v5.toNat Za)).cells) (v := (.int .i64 (a0.Calls.getD v5.toNat Za).Time)) I o3 I I I) I ?_
               have ⟨v27, hv27, h⟩ := Z1d h
               refine Zz I I I I (Z1e (ar := [(.int .i64 (a0.Calls.getD v5.toNat Za).Time), (.int .i64 0), (.int .i64 1152921504606846976)]) (caps := []) Tryz.call57 (Z68 K (a0.Calls.getD v5.toNat Za).Time 0 1152921504606846976 v27 hv27) I I ⟨rfl, rfl, rfl, trivial⟩ I) I <| Zz I I I I (Z3q (b := v27) I I) I <| Z1 I (Z20 (v := (.bool (!v27))) I I I) I <| Z1 I (Zm (v := (.bool (!v27))) I I) I <| Zh ?_
               exact Z13 (st' := ⟨[(1, (.ptr 1 0)), (66, (.sl 5 (a0.Calls.map Z6) false)), (67, (.int .i64 (a0.Calls.length : Int))), (68, (.int .i64 v5)), (127, (.bool (!v27)))], [(1, (.box (Zc a0).cells))]⟩) ⟨rfl, rfl, rfl, rfl, rfl, trivial⟩ ⟨rfl, trivial⟩ (J21 (!v27) h)
          ·have h := hif.2 hc
           refine Zx 3 I I I I I I I <| Zx 4 I I I I I I I <| Zx 5 I I I I I I I <| Zx 6 I I I I I I I <| Zx 7 I I I I I I I <| Zx 8 I I I I I I I <| Zx 9 I I I I I I I <| Zx 10 I I I I I I I ?_
           refine Zx 11 I I I I I I I <| Zx 12 I I I I I I I <| Zx 13 I I I I I I I <| Zx 14 I I I I I I I <| Zx 15 I I I I I I I <| Zx 16 I I I I I I I <| Zx 17 I I I I I I I <| Zx 18 I I I I I I I ?_
           refine Zx 19 I I I I I I I <| Zx 20 I I I I I I I <| Zx 21 I I I I I I I <| Zx 22 I I I I I I I <| Zx 23 I I I I I I I <| Zx 24 I I I I I I I <| Zb 25 I (Z20 (v := (.bool false)) I I I) <| Zb 26 I (Zm (v := (.bool false)) I I) ?_
           refine Z1t (by kernel_rfl) I <| Zi ?_
           refine Z16 (b := false) I (fun hc => ?_) (fun hc => ?_)
           ·cases hc
           refine Zj ?_
           refine AWp.join (V := Bool) (lp := fun v => Z9g K (Z4i K a0 (Z7k K) k6) v5 v = some r) (sh := fun v => ⟨[(1, (.ptr 1 0)), (66, (.sl 5 (a0.Calls.map Z6) false)), (67, (.int .i64 (a0.Calls.length : Int))), (68, (.int .i64 v5)), (127, (.bool v))], [(1, (.box (Zc a0).cells))]⟩) ?_ ?_
           ·intro v h
            revert h
            revert v
            intro v28 h
            try dsimp only at h ⊢
            unfold Z9g at h
            refine Zi ?_
            have hif := Z1w h
            refine Z16 I (fun hc => ?_) (fun hc => ?_)
            ·have h := hif.1 hc
             refine Zj <| Zd <| Z1 I (Zm (v := (.int .i64 2)) I I) I <| Zh <| Zi <| Z1c <| Z1u <| Z1u ?_
             refine Z18 ?_
             refine Z18 (Z1u ?_)
             refine Z18 ?_
             have h := Option.some.inj h
             subst h
             refine (hret _ ?_).1
             exact ⟨[(.int .i64 2)], ⟨rfl, trivial⟩, rfl, trivial⟩
            ·have h := hif.2 hc
             refine Z1a ?_
             exact Z13 (st' := ⟨[(1, (.ptr 1 0)), (66, (.sl 5 (a0.Calls.map Z6) false)), (67, (.int .i64 (a0.Calls.length : Int))), (68, (.int .i64 v5))], [(1, (.box (Zc a0).cells))]⟩) ⟨rfl, rfl, rfl, rfl, trivial⟩ ⟨rfl, trivial⟩ (J15 () h)
           ·intro J29
            refine Zd <| Z1 I (Zr (m := 6) (o := 0) I f88_2 I I) I <| Z1 I (Zy (cs := (Z6 (a0.Calls.getD v5.toNat Za)).cells) (v := (.int .i64 (a0.Calls.getD v5.toNat Za).Count)) I o3 I I I) I ?_
            have ⟨v31, hv31, h⟩ := Z1d h
            refine Z1 I (Z1e (ar := [(.int .i64 (a0.Calls.getD v5.toNat Za).Count), (.int .i64 1), (.int .i64 1152921504606846976)]) (caps := []) Tryz.call57 (Z68 K (a0.Calls.getD v5.toNat Za).Count 1 1152921504606846976 v31 hv31) I I ⟨rfl, rfl, rfl, trivial⟩ I) I <| Z1 I (Z3q (b := v31) I I) I <| Z1 I (Zl (v := (.bool (!v31))) I I) I ?_
            have hif := Z1w h
            refine AOps.split (fun hc => ?_) (fun hc => ?_)
            ·have h := hif.1 hc
             refine Zs I I I I I I I <| Zs I I I I I I I <| Zs I I I I I I I <| Zs I I I I I I I <| Zs I I I I I I I <| Zs I I I I I I I <| Z1 I (Z23 (v := (.bool true)) I I I) I <| Z1 I (Zl (v := (.bool true)) I I) I ?_
             refine Zs I I I I I I I <| Zs I I I I I I I <| Zs I I I I I I I <| Zs I I I I I I I <| Z1 I (Z23 (v := (.bool true)) I I I) I <| Z1 I (Zm (v := (.bool true)) I I) I <| Zh ?_
             exact Z13 (st' := ⟨[(1, (.ptr 1 0)), (66, (.sl 5 (a0.Calls.map Z6) false)), (67, (.int .i64 (a0.Calls.length : Int))), (68, (.int .i64 v5)), (127, (.bool true))], [(1, (.box (Zc a0).cells))]⟩) ⟨rfl, rfl, rfl, rfl, rfl, trivial⟩ ⟨rfl, trivial⟩ (J29 true h)
            ·have h := hif.2 hc
             refine Zz I I I I (Zr (m := 6) (o := 0) I f88_3 I I) I <| Zz I I I I (Zy (cs := (Z6 (a0.Calls.getD v5.toNat Za)).cells) (v := (.int .i64 (a0.Calls.getD v5.toNat Za).Errors)) I o3 I I I) I <| Zz I I I I (Zr (m := 6) (o := 0) I f88_2 I I) I <| Zz I I I I (Zy (cs := (Z6 (a0.Calls.getD v5.toNat Za)).cells) (v := (.int .i64 (a0.Calls.getD v5.toNat Za).Count)) I o3 I I I) I ?_
             have ⟨v33, hv33, h⟩ := Z1d h
             refine Zz I I I I (Z1e (ar := [(.int .i64 (a0.Calls.getD v5.toNat Za).Errors), (.int .i64 0), (.int .i64 (a0.Calls.getD v5.toNat Za).Count)]) (caps := []) Tryz.call57 (Z68 K (a0.Calls.getD v5.toNat Za).Errors 0 (a0.Calls.getD v5.toNat Za).Count v33 hv33) I I ⟨rfl, rfl, rfl, trivial⟩ I) I <| Zz I I I I (Z3q (b := v33) I I) I <| Z1 I (Z20 (v := (.bool (!v33))) I I I) I <| Z1 I (Zl (v := (.bool (!v33))) I I) I ?_
             have hif := Z1w h
             refine AOps.split (fun hc => ?_) (fun hc => ?_)
             ·have h := hif.1 hc
              refine Zs I I I I I I I <| Zs I I I I I I I <| Zs I I I I I I I <| Zs I I I I I I I <| Z1 I (Z23 (v := (.bool true)) I I I) I <| Z1 I (Zm (v := (.bool true)) I I) I <| Zh ?_
              exact Z13 (st' := ⟨[(1, (.ptr 1 0)), (66, (.sl 5 (a0.Calls.map Z6) false)), (67, (.int .i64 (a0.Calls.length : Int))), (68, (.int .i64 v5)), (127, (.bool true))], [(1, (.box (Zc a0).cells))]⟩) ⟨rfl, rfl, rfl, rfl, rfl, trivial⟩ ⟨rfl, trivial⟩ (J29 true h)
             ·have h := hif.2 hc
              refine Zz I I I I (Zr (m := 6) (o := 0) I f88_4 I I) I <| Zz I I I I (Zy (cs := (Z6 (a0.Calls.getD v5.toNat Za)).cells) (v := (.int .i64 (a0.Calls.getD v5.toNat Za).Time)) I o3 I I I) I ?_
              have ⟨v35, hv35, h⟩ := Z1d h
              refine Zz I I I I (Z1e (ar := [(.int .i64 (a0.Calls.getD v5.toNat Za).Time), (.int .i64 0), (.int .i64 1152921504606846976)]) (caps := []) Tryz.call57 (Z68 K (a0.Calls.getD v5.toNat Za).Time 0 1152921504606846976 v35 hv35) I I ⟨rfl, rfl, rfl, trivial⟩ I) I <| Zz I I I I (Z3q (b := v35) I I) I <| Z1 I (Z20 (v := (.bool (!v35))) I I I) I <| Z1 I (Zm (v := (.bool (!v35))) I I) I <| Zh ?_
              exact Z13 (st' := ⟨[(1, (.ptr 1 0)), (66, (.sl 5 (a0.Calls.map Z6) false)), (67, (.int .i64 (a0.Calls.length : Int))), (68, (.int .i64 v5)), (127, (.bool (!v35)))], [(1, (.box (Zc a0).cells))]⟩) ⟨rfl, rfl, rfl, rfl, rfl, trivial⟩ ⟨rfl, trivial⟩ (J29 (!v35) h)
     ·have h := hif.2 hc
      refine AWp.exit <| At.thru ?_
      exact Z13 (st' := ⟨[], []⟩) trivial trivial (J6 () h)
  ·intro N k2 v h IH2 J2
   revert h
   revert v
   intro v1 h
   try dsimp only at h IH2 J2 ⊢
   cases k2 with
   | zero => cases h
   | succ k2 =>
    rw [Z4h] at h
    refine Zj <| Zd <| Z1 I (Z1x (k := .i64) (a := v1) (b := (a0.Services.length : Int)) (c := (decide (v1 < (a0.Services.length : Int)))) I I I I) I <| Zh <| Zi <| Zj ?_
    have hif := Z1w h
    refine Z16 I (fun hc => ?_) (fun hc => ?_)
    ·have h := hif.1 hc
     refine Z1a <| Zi <| Zj <| AWp.block <| Zj <| Zd <| Z1 I (Zl (v := (.int .i64 v1)) I I) I ?_
     have ⟨hg37, h⟩ := Z14 h
     refine Z1 I (Z1s (k := .i64) (l := a0.Services) (enc := Z3) (z := Z9) (n := v1) (cs := (Z3 (a0.Services.getD v1.toNat Z9)).cells) (full := false) I s41 I I hg37 I) I <| Z1 I (Z2h (cs := (Z3 (a0.Services.getD v1.toNat Z9)).cells) (vs := (Z3 (a0.Services.getD v1.toNat Z9)).cells) I a68 I I I) I <| Z1 I (Z21 (cs := [(.str []), (.int .i64 0), (.int .i64 0), (.int .i64 0)]) I z68 I I I) I <| Z1 I (Zm (v := (.int .i64 v1)) I I) I <| Z1 I (Z1b (cs := [(.str []), (.int .i64 0), (.int .i64 0), (.int .i64 0)]) (vs := (Z3 (a0.Services.getD v1.toNat Z9)).cells) (ds := (Z3 (a0.Services.getD v1.toNat Z9)).cells) (v := (Z3 (a0.Services.getD v1.toNat Z9))) sz68 I I I I I I I I) I <| Zh <| Zi <| AWp.block ?_
     refine Zj <| Zd <| Z1 I (Zr (m := 4) (o := 0) I Z8u I I) I <| Z1 I (Zy (cs := (Z3 (a0.Services.getD v1.toNat Z9)).cells) (v := (.str (a0.Services.getD v1.toNat Z9).Name)) I o9 I I I) I ?_
     have ⟨v39, hv39, h⟩ := Z1d h
     refine Z1 I (Z1e (ar := [(.str (a0.Services.getD v1.toNat Z9).Name)]) (caps := []) Tryz.call56 (F56_ok K (a0.Services.getD v1.toNat Z9).Name v39 hv39) I I ⟨rfl, trivial⟩ I) I <| Z1 I (Z3q (b := v39) I I) I <| Z1 I (Zm (v := (.bool (!v39))) I I) I <| Zh <| Zi ?_
     refine AWp.join (V := Unit) (lp := fun v => Z9a K (Z4h K a0 (Z66 K a0) k2) v1 = some r) (sh := fun v => ⟨[(1, (.ptr 1 0)), (16, (.sl 4 (a0.Services.map Z3) false)), (17, (.int .i64 (a0.Services.length : Int))), (18, (.int .i64 v1))], [(1, (.box (Zc a0).cells))]⟩) ?_ ?_
     ·intro v h
      try dsimp only at h ⊢
      unfold Z9a at h
      refine At.end <| At.end <| Zi <| Zd <| Z1 I (Z1k (k := .i64) (a := v1) (b := 1) (c := (IntKind.i64.wrap (v1 + 1))) I I I I) I <| Z1 I (Zl (v := (.int .i64 (IntKind.i64.wrap (v1 + 1)))) I I) I <| Zh ?_
      exact Z13 (st' := ⟨[(1, (.ptr 1 0)), (16, (.sl 4 (a0.Services.map Z3) false)), (17, (.int .i64 (a0.Services.length : Int))), (18, (.int .i64 (IntKind.i64.wrap (v1 + 1))))], [(1, (.box (Zc a0).cells))]⟩) ⟨rfl, rfl, rfl, rfl, trivial⟩ ⟨rfl, trivial⟩ (IH2 _ (IntKind.i64.wrap (v1 + 1)) (Nat.lt_succ_self _) h)
     ·intro J40
      have hif := Z1w h
      refine Z16 I (fun hc => ?_) (fun hc => ?_)
      ·have h := hif.1 hc
       refine Zj <| Zd <| Z1 I (Zm (v := (.int .i64 11)) I I) I <| Zh <| Zi <| Z1c <| Z1u <| Z1u ?_
       refine Z18 ?_
       refine Z18 (Z1u ?_)
       refine Z18 ?_
       have h := Option.some.inj h
       subst h
       refine (hret _ ?_).1
       exact ⟨[(.int .i64 11)], ⟨rfl, trivial⟩, rfl, trivial⟩
      ·have h := hif.2 hc
       refine Zj <| Z1r mixed <| Zb 0 I (Zl (v := (.int .i64 v1)) I I) <| Zb 1 I (Z1x (k := .i64) (a := v1) (b := 0) (c := (decide (v1 > 0))) I I I I) <| Zb 2 I (Zl (v := (.bool (decide (v1 > 0)))) I I) ?_
       have hif := Z1w h
       refine AOpsD.split (fun hc => ?_) (fun hc => ?_)
       ·have h := hif.1 hc
        refine Z12 3 I I I I (Zr (m := 4) (o := 0) I Z8u I I) <| Z12 4 I I I I (Zy (cs := (Z3 (a0.Services.getD v1.toNat Z9)).cells) (v := (.str (a0.Services.getD v1.toNat Z9).Name)) I o9 I I I) <| Z12 5 I I I I (Zr (m := 1) (o := 0) I Z4y I I) <| Z12 6 I I I I (Zy (cs := (Zc a0).cells) (v := (.sl 4 (a0.Services.map Z3) false)) I o41 I I I) <| Z12 7 I I I I (Zl (v := (.int .i64 v1)) I I) <| Z12 8 I I I I (Z1k (k := .i64) (a := v1) (b := 1) (c := (IntKind.i64.wrap (v1 - 1))) I I I I) ?_
        have ⟨hg41, h⟩ := Z14 h
        refine Z12 9 I I I I (Z1s (k := .i64) (l := a0.Services) (enc := Z3) (z := Z9) (n := (IntKind.i64.wrap (v1 - 1))) (cs := (Z3 (a0.Services.getD (IntKind.i64.wrap (v1 - 1)).toNat Z9)).cells) (full := false) I s41 I I hg41 I) <| Z12 10 I I I I (Z2f (cs := (Z3 (a0.Services.getD (IntKind.i64.wrap (v1 - 1)).toNat Z9)).cells) (ds := (Z3 (a0.Services.getD (IntKind.i64.wrap (v1 - 1)).toNat Z9)).cells) I Z8u I I I) <| Z12 11 I I I I (Z28 (cs := (Z3 (a0.Services.getD (IntKind.i64.wrap (v1 - 1)).toNat Z9)).cells) (v := (.str (a0.Services.getD (IntKind.i64.wrap (v1 - 1)).toNat Z9).Name)) I o9 I I) <| Z12 12 I I I I (Z3d (a := (a0.Services.getD v1.toNat Z9).Name) (b := (a0.Services.getD (IntKind.i64.wrap (v1 - 1)).toNat Z9).Name) (c := (slt (a0.Services.getD v1.toNat Z9).Name (a0.Services.getD (IntKind.i64.wrap (v1 - 1)).toNat Z9).Name || (a0.Services.getD v1.toNat Z9).Name == (a0.Services.getD (IntKind.i64.wrap (v1 - 1)).toNat Z9).Name)) I I I I) <| Zb 13 I (Z23 (v := (.bool (slt (a0.Services.getD v1.toNat Z9).Name (a0.Services.getD (IntKind.i64.wrap (v1 - 1)).toNat Z9).Name || (a0.Services.getD v1.toNat Z9).Name == (a0.Services.getD (IntKind.i64.wrap (v1 - 1)).toNat Z9).Name))) I I I) <| Zb 14 I (Zm (v := (.bool (slt (a0.Services.getD v1.toNat Z9).Name (a0.Services.getD (IntKind.i64.wrap (v1 - 1)).toNat Z9).Name || (a0.Services.getD v1.toNat Z9).Name == (a0.Services.getD (IntKind.i64.wrap (v1 - 1)).toNat Z9).Name))) I I) <| Z1t (by kernel_rfl) I <| Zi ?_
        have hif := Z1w h
        refine Z16 I (fun hc => ?_) (fun hc => ?_)
        ·have h := hif.1 hc
         refine Zj <| Zd <| Z1 I (Zm (v := (.int .i64 8)) I I) I <| Zh <| Zi <| Z1c <| Z1u <| Z1u ?_
         refine Z18 ?_
         refine Z18 (Z1u ?_)
         refine Z18 ?_
         have h := Option.some.inj h
         subst h
         refine (hret _ ?_).1
         exact ⟨[(.int .i64 8)], ⟨rfl, trivial⟩, rfl, trivial⟩
        ·have h := hif.2 hc
         refine Zj ?_
         refine AWp.join (V := Bool) (lp := fun v => Z9s K (Z4h K a0 (Z66 K a0) k2) v1 v = some r) (sh := fun v => ⟨[(1, (.ptr 1 0)), (16, (.sl 4 (a0.Services.map Z3) false)), (17, (.int .i64 (a0.Services.length : Int))), (18, (.int .i64 v1)), (43, (.bool v))], [(1, (.box (Zc a0).cells))]⟩) ?_ ?_
         ·intro v h
          revert h
          revert v
          intro v42 h
          try dsimp only at h ⊢
          unfold Z9s at h
          refine Zi ?_
          have hif := Z1w h
          refine Z16 I (fun hc => ?_) (fun hc => ?_)
          ·have h := hif.1 hc
           refine Zj <| Zd <| Z1 I (Zm (v := (.int .i64 2)) I I) I <| Zh <| Zi <| Z1c <| Z1u <| Z1u ?_
           refine Z18 ?_
           refine Z18 (Z1u ?_)
           refine Z18 ?_
           have h := Option.some.inj h
           subst h
           refine (hret _ ?_).1
           exact ⟨[(.int .i64 2)], ⟨rfl, trivial⟩, rfl, trivial⟩
          ·have h := hif.2 hc
           refine Z1a ?_
           exact Z13 (st' := ⟨[(1, (.ptr 1 0)), (16, (.sl 4 (a0.Services.map Z3) false)), (17, (.int .i64 (a0.Services.length : Int))), (18, (.int .i64 v1))], [(1, (.box (Zc a0).cells))]⟩) ⟨rfl, rfl, rfl, rfl, trivial⟩ ⟨rfl, trivial⟩ (J40 () h)
         ·intro J43
          refine Zd <| Z1 I (Zr (m := 4) (o := 0) I Zce I I) I <| Z1 I (Zy (cs := (Z3 (a0.Services.getD v1.toNat Z9)).cells) (v := (.int .i64 (a0.Services.getD v1.toNat Z9).Spans)) I o3 I I I) I ?_
          have ⟨v45, hv45, h⟩ := Z1d h
          refine Z1 I (Z1e (ar := [(.int .i64 (a0.Services.getD v1.toNat Z9).Spans), (.int .i64 1), (.int .i64 1152921504606846976)]) (caps := []) Tryz.call57 (Z68 K (a0.Services.getD v1.toNat Z9).Spans 1 1152921504606846976 v45 hv45) I I ⟨rfl, rfl, rfl, trivial⟩ I) I <| Z1 I (Z3q (b := v45) I I) I <| Z1 I (Zl (v := (.bool (!v45))) I I) I ?_
          have hif := Z1w h
          refine AOps.split (fun hc => ?_) (fun hc => ?_)
          ·have h := hif.1 hc
           refine Zs I I I I I I I <| Zs I I I I I I I <| Zs I I I I I I I <| Zs I I I I I I I <| Zs I I I I I I I <| Zs I I I I I I I <| Z1 I (Z23 (v := (.bool true)) I I I) I <| Z1 I (Zl (v := (.bool true)) I I) I ?_
           refine Zs I I I I I I I <| Zs I I I I I I I <| Zs I I I I I I I <| Zs I I I I I I I <| Zs I I I I I I I <| Zs I I I I I I I <| Z1 I (Z23 (v := (.bool true)) I I I) I <| Z1 I (Zm (v := (.bool true)) I I) I ?_
           refine Zh ?_
           exact Z13 (st' := ⟨[(1, (.ptr 1 0)), (16, (.sl 4 (a0.Services.map Z3) false)), (17, (.int .i64 (a0.Services.length : Int))), (18, (.int .i64 v1)), (43, (.bool true))], [(1, (.box (Zc a0).cells))]⟩) ⟨rfl, rfl, rfl, rfl, rfl, trivial⟩ ⟨rfl, trivial⟩ (J43 true h)
          ·have h := hif.2 hc
           refine Zz I I I I (Zr (m := 4) (o := 0) I f68_2 I I) I <| Zz I I I I (Zy (cs := (Z3 (a0.Services.getD v1.toNat Z9)).cells) (v := (.int .i64 (a0.Services.getD v1.toNat Z9).Errors)) I o3 I I I) I <| Zz I I I I (Zr (m := 4) (o := 0) I Zce I I) I <| Zz I I I I (Zy (cs := (Z3 (a0.Services.getD v1.toNat Z9)).cells) (v := (.int .i64 (a0.Services.getD v1.toNat Z9).Spans)) I o3 I I I) I ?_
           have ⟨v47, hv47, h⟩ := Z1d h
           refine Zz I I I I (Z1e (ar := [(.int .i64 (a0.Services.getD v1.toNat Z9).Errors), (.int .i64 0), (.int .i64 (a0.Services.getD v1.toNat Z9).Spans)]) (caps := []) Tryz.call57 (Z68 K (a0.Services.getD v1.toNat Z9).Errors 0 (a0.Services.getD v1.toNat Z9).Spans v47 hv47) I I ⟨rfl, rfl, rfl, trivial⟩ I) I <| Zz I I I I (Z3q (b := v47) I I) I <| Z1 I (Z20 (v := (.bool (!v47))) I I I) I <| Z1 I (Zl (v := (.bool (!v47))) I I) I ?_
           have hif := Z1w h
           refine AOps.split (fun hc => ?_) (fun hc => ?_)
           ·have h := hif.1 hc
            refine Zs I I I I I I I <| Zs I I I I I I I <| Zs I I I I I I I <| Zs I I I I I I I <| Zs I I I I I I I <| Zs I I I I I I I <| Z1 I (Z23 (v := (.bool true)) I I I) I <| Z1 I (Zm (v := (.bool true)) I I) I ?_
            refine Zh ?_
            exact Z13 (st' := ⟨[(1, (.ptr 1 0)), (16, (.sl 4 (a0.Services.map Z3) false)), (17, (.int .i64 (a0.Services.length : Int))), (18, (.int .i64 v1)), (43, (.bool true))], [(1, (.box (Zc a0).cells))]⟩) ⟨rfl, rfl, rfl, rfl, rfl, trivial⟩ ⟨rfl, trivial⟩ (J43 true h)
           ·have h := hif.2 hc
            refine Zz I I I I (Zr (m := 4) (o := 0) I f68_3 I I) I <| Zz I I I I (Zy (cs := (Z3 (a0.Services.getD v1.toNat Z9)).cells) (v := (.int .i64 (a0.Services.getD v1.toNat Z9).Roots)) I o3 I I I) I <| Zz I I I I (Zr (m := 4) (o := 0) I Zce I I) I <| Zz I I I I (Zy (cs := (Z3 (a0.Services.getD v1.toNat Z9)).cells) (v := (.int .i64 (a0.Services.getD v1.toNat Z9).Spans)) I o3 I I I) I ?_
            have ⟨v49, hv49, h⟩ := Z1d h
            refine Zz I I I I (Z1e (ar := [(.int .i64 (a0.Services.getD v1.toNat Z9).Roots), (.int .i64 0), (.int .i64 (a0.Services.getD v1.toNat Z9).Spans)]) (caps := []) Tryz.call57 (Z68 K (a0.Services.getD v1.toNat Z9).Roots 0 (a0.Services.getD v1.toNat Z9).Spans v49 hv49) I I ⟨rfl, rfl, rfl, trivial⟩ I) I <| Zz I I I I (Z3q (b := v49) I I) I <| Z1 I (Z20 (v := (.bool (!v49))) I I I) I <| Z1 I (Zm (v := (.bool (!v49))) I I) I <| Zh ?_
            exact Z13 (st' := ⟨[(1, (.ptr 1 0)), (16, (.sl 4 (a0.Services.map Z3) false)), (17, (.int .i64 (a0.Services.length : Int))), (18, (.int .i64 v1)), (43, (.bool (!v49)))], [(1, (.box (Zc a0).cells))]⟩) ⟨rfl, rfl, rfl, rfl, rfl, trivial⟩ ⟨rfl, trivial⟩ (J43 (!v49) h)
       ·have h := hif.2 hc
        refine Zx 3 I I I I I I I <| Zx 4 I I I I I I I <| Zx 5 I I I I I I I <| Zx 6 I I I I I I I <| Zx 7 I I I I I I I <| Zx 8 I I I I I I I <| Zx 9 I I I I I I I <| Zx 10 I I I I I I I ?_
        refine Zx 11 I I I I I I I <| Zx 12 I I I I I I I <| Zb 13 I (Z20 (v := (.bool false)) I I I) <| Zb 14 I (Zm (v := (.bool false)) I I) <| Z1t (by kernel_rfl) I <| Zi ?_
        refine Z16 (b := false) I (fun hc => ?_) (fun hc => ?_)
        ·cases hc
        refine Zj ?_
        refine AWp.join (V := Bool) (lp := fun v => Z9p K (Z4h K a0 (Z66 K a0) k2) v1 v = some r) (sh := fun v => ⟨[(1, (.ptr 1 0)), (16, (.sl 4 (a0.Services.map Z3) false)), (17, (.int .i64 (a0.Services.length : Int))), (18, (.int .i64 v1)), (43, (.bool v))], [(1, (.box (Zc a0).cells))]⟩) ?_ ?_
        ·intro v h
         revert h
         revert v
         intro v50 h
         try dsimp only at h ⊢
         unfold Z9p at h
         refine Zi ?_
         have hif := Z1w h
         refine Z16 I (fun hc => ?_) (fun hc => ?_)
         ·have h := hif.1 hc
          refine Zj <| Zd <| Z1 I (Zm (v := (.int .i64 2)) I I) I <| Zh <| Zi <| Z1c <| Z1u <| Z1u ?_
          refine Z18 ?_
          refine Z18 (Z1u ?_)
          refine Z18 ?_
          have h := Option.some.inj h
          subst h
          refine (hret _ ?_).1
          exact ⟨[(.int .i64 2)], ⟨rfl, trivial⟩, rfl, trivial⟩
         ·have h := hif.2 hc
          refine Z1a ?_
          exact Z13 (st' := ⟨[(1, (.ptr 1 0)), (16, (.sl 4 (a0.Services.map Z3) false)), (17, (.int .i64 (a0.Services.length : Int))), (18, (.int .i64 v1))], [(1, (.box (Zc a0).cells))]⟩) ⟨rfl, rfl, rfl, rfl, trivial⟩ ⟨rfl, trivial⟩ (J40 () h)
        ·intro J51
         refine Zd <| Z1 I (Zr (m := 4) (o := 0) I Zce I I) I <| Z1 I (Zy (cs := (Z3 (a0.Services.getD v1.toNat Z9)).cells) (v := (.int .i64 (a0.Services.getD v1.toNat Z9).Spans)) I o3 I I I) I ?_
         have ⟨v53, hv53, h⟩ := Z1d h
         refine Z1 I (Z1e (ar := [(.int .i64 (a0.Services.getD v1.toNat Z9).Spans), (.int .i64 1), (.int .i64 1152921504606846976)]) (caps := []) Tryz.call57 (Z68 K (a0.Services.getD v1.toNat Z9).Spans 1 1152921504606846976 v53 hv53) I I ⟨rfl, rfl, rfl, trivial⟩ I) I <| Z1 I (Z3q (b := v53) I I) I <| Z1 I (Zl (v := (.bool (!v53))) I I) I ?_
         have hif := Z1w h
         refine AOps.split (fun hc => ?_) (fun hc => ?_)
         ·have h := hif.1 hc
          refine Zs I I I I I I I <| Zs I I I I I I I <| Zs I I I I I I I <| Zs I I I I I I I <| Zs I I I I I I I <| Zs I I I I I I I <| Z1 I (Z23 (v := (.bool true)) I I I) I <| Z1 I (Zl (v := (.bool true)) I I) I ?_
          refine Zs I I I I I I I <| Zs I I I I I I I <| Zs I I I I I I I <| Zs I I I I I I I <| Zs I I I I I I I <| Zs I I I I I I I <| Z1 I (Z23 (v := (.bool true)) I I I) I <| Z1 I (Zm (v := (.bool true)) I I) I ?_
          refine Zh ?_
          exact Z13 (st' := ⟨[(1, (.ptr 1 0)), (16, (.sl 4 (a0.Services.map Z3) false)), (17, (.int .i64 (a0.Services.length : Int))), (18, (.int .i64 v1)), (43, (.bool true))], [(1, (.box (Zc a0).cells))]⟩) ⟨rfl, rfl, rfl, rfl, rfl, trivial⟩ ⟨rfl, trivial⟩ (J51 true h)
         ·have h := hif.2 hc
          refine Zz I I I I (Zr (m := 4) (o := 0) I f68_2 I I) I <| Zz I I I I (Zy (cs := (Z3 (a0.Services.getD v1.toNat Z9)).cells) (v := (.int .i64 (a0.Services.getD v1.toNat Z9).Errors)) I o3 I I I) I <| Zz I I I I (Zr (m := 4) (o := 0) I Zce I I) I <| Zz I I I I (Zy (cs := (Z3 (a0.Services.getD v1.toNat Z9)).cells) (v := (.int .i64 (a0.Services.getD v1.toNat Z9).Spans)) I o3 I I I) I ?_
          have ⟨v55, hv55, h⟩ := Z1d h
          refine Zz I I I I (Z1e (ar := [(.int .i64 (a0.Services.getD v1.toNat Z9).Errors), (.int .i64 0), (.int .i64 (a0.Services.getD v1.toNat Z9).Spans)]) (caps := []) Tryz.call57 (Z68 K (a0.Services.getD v1.toNat Z9).Errors 0 (a0.Services.getD v1.toNat Z9).Spans v55 hv55) I I ⟨rfl, rfl, rfl, trivial⟩ I) I <| Zz I I I I (Z3q (b := v55) I I) I <| Z1 I (Z20 (v := (.bool (!v55))) I I I) I <| Z1 I (Zl (v := (.bool (!v55))) I I) I ?_
          have hif := Z1w h
          refine AOps.split (fun hc => ?_) (fun hc => ?_)
          ·have h := hif.1 hc
           refine Zs I I I I I I I <| Zs I I I I I I I <| Zs I I I I I I I <| Zs I I I I I I I <| Zs I I I I I I I <| Zs I I I I I I I <| Z1 I (Z23 (v := (.bool true)) I I I) I <| Z1 I (Zm (v := (.bool true)) I I) I ?_
           refine Zh ?_
           exact Z13 (st' := ⟨[(1, (.ptr 1 0)), (16, (.sl 4 (a0.Services.map Z3) false)), (17, (.int .i64 (a0.Services.length : Int))), (18, (.int .i64 v1)), (43, (.bool true))], [(1, (.box (Zc a0).cells))]⟩) ⟨rfl, rfl, rfl, rfl, rfl, trivial⟩ ⟨rfl, trivial⟩ (J51 true h)
          ·have h := hif.2 hc
           refine Zz I I I I (Zr (m := 4) (o := 0) I f68_3 I I) I <| Zz I I I I (Zy (cs := (Z3 (a0.Services.getD v1.toNat Z9)).cells) (v := (.int .i64 (a0.Services.getD v1.toNat Z9).Roots)) I o3 I I I) I <| Zz I I I I (Zr (m := 4) (o := 0) I Zce I I) I <| Zz I I I I (Zy (cs := (Z3 (a0.Services.getD v1.toNat Z9)).cells) (v := (.int .i64 (a0.Services.getD v1.toNat Z9).Spans)) I o3 I I I) I ?_
           have ⟨v57, hv57, h⟩ := Z1d h
           refine Zz I I I I (Z1e (ar := [(.int .i64 (a0.Services.getD v1.toNat Z9).Roots), (.int .i64 0), (.int .i64 (a0.Services.getD v1.toNat Z9).Spans)]) (caps := []) Tryz.call57 (Z68 K (a0.Services.getD v1.toNat Z9).Roots 0 (a0.Services.getD v1.toNat Z9).Spans v57 hv57) I I ⟨rfl, rfl, rfl, trivial⟩ I) I <| Zz I I I I (Z3q (b := v57) I I) I <| Z1 I (Z20 (v := (.bool (!v57))) I I I) I <| Z1 I (Zm (v := (.bool (!v57))) I I) I <| Zh ?_
           exact Z13 (st' := ⟨[(1, (.ptr 1 0)), (16, (.sl 4 (a0.Services.map Z3) false)), (17, (.int .i64 (a0.Services.length : Int))), (18, (.int .i64 v1)), (43, (.bool (!v57)))], [(1, (.box (Zc a0).cells))]⟩) ⟨rfl, rfl, rfl, rfl, rfl, trivial⟩ ⟨rfl, trivial⟩ (J51 (!v57) h)
    ·have h := hif.2 hc
     refine AWp.exit <| At.thru ?_
     exact Z13 (st' := ⟨[(1, (.ptr 1 0))], [(1, (.box (Zc a0).cells))]⟩) ⟨rfl, trivial⟩ ⟨rfl, trivial⟩ (J2 () h)
end Go.AM.TopZ
