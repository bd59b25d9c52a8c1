/- What these functions compute, each with its walk: F101, F56, F57, F21. -/
import Derived.Test.YtkhbjnkckblkjaaGreatTopZT
import Derived.Test.YtkhbjnkckblkjaaGreatTopZG0
import Derived.Test.YtkhbjnkckblkjaaGreatTopZG2
namespace Go.AM.TopZ
open Go Go.AM Go.Proofs
set_option maxRecDepth 100000
set_option maxHeartbeats 2000000
def F101_c3 (K : Nat) : Option (Bool) :=
 some true
def F101_l2 (K : Nat) (a0 : Str) (a1 : Int) (a2 : Int) (c4 : Option (Bool)) : Nat → Int → Option (Bool)
 | 0, _ => none
 | k2 + 1, v1 =>
  if (decide (v1 < (a0.length : Int))) = true then
   if (0 : Int) ≤ v1 ∧ v1 < a0.length then
    if (decide ((byteAt a0 v1) < a1)) = true then
     some false
    else
     if (0 : Int) ≤ v1 ∧ v1 < a0.length then
      if (decide ((byteAt a0 v1) > a2)) = true then
       some false
      else
       (F101_l2 K a0 a1 a2 c4 k2) (IntKind.i64.wrap (v1 + 1))
     else none
   else none
  else
   c4
def F101 (K : Nat) (a0 : Str) (a1 : Int) (a2 : Int) : Option (Bool) :=
 F101_l2 K a0 a1 a2 (F101_c3 K) K 0
theorem F101_ok (K : Nat) (a0 : Str) (a1 : Int) (a2 : Int) (r : Bool) (h : F101 K a0 a1 a2 = some r) : ACall P 101 ⟨[(.str a0), (.int .u8 a1), (.int .u8 a2)], [], (.bool r), [], []⟩ := by
 refine Z1i Tryz.func101 Tryz.results101 rfl Tryz.ntmps101 rfl rfl rfl ?_
 intro E Q hP hN hro hret
 obtain ⟨P', nt', w0, F0, p0, S0, β0, ro0⟩ := E
 simp only at hP hN
 subst hP hN
 dsimp only [argT]
 unfold F101 at h
 refine Zg <| Zd <| Z1 I (Zi (v := (.bool false)) I I) I <| Ze <| Zf <| Zg <| Zg <| Zd ?_
 refine Z1 I (Zj (v := (.str a0)) I I) I <| Z1 I (st_lenS I u9 I) I <| Z1 I (Zj (v := (.int .i64 0)) I I) I <| Ze <| Zf <| AWp.weaken (st' := ⟨[(0, (.str a0)), (1, (.int .u8 a1)), (2, (.int .u8 a2)), (9, (.int .i64 (a0.length : Int))), (10, (.int .i64 0))], []⟩) ⟨rfl, rfl, rfl, rfl, rfl, trivial⟩ trivial ?_
 refine Z1g (V := Int) (X := Unit) (lp := fun k v => F101_l2 K a0 a1 a2 (F101_c3 K) k v = some r) (sh := fun v => ⟨[(0, (.str a0)), (1, (.int .u8 a1)), (2, (.int .u8 a2)), (9, (.int .i64 (a0.length : Int))), (10, (.int .i64 v))], []⟩) (x := fun v => F101_c3 K = some r) (shx := fun v => ⟨[], []⟩) (k := K) (v := 0) h ?_ ?_
 ·intro v h
  try dsimp only at h ⊢
  unfold F101_c3 at h
  refine Zf <| Zg <| Zd <| Z1 I (Zi (v := (.bool true)) I I) I <| Ze <| Zf <| Z15 ?_
  have h := Option.some.inj h
  subst h
  refine (hret _ ?_).1
  exact ⟨[(.bool true)], ⟨rfl, trivial⟩, rfl, trivial⟩
 ·intro N k2 v h IH2 J2
  revert h
  revert v
  intro v1 h
  try dsimp only at h IH2 J2 ⊢
  cases k2 with
  | zero => cases h
  | succ k2 =>
   rw [F101_l2] at h
   refine Zg <| Zd <| Z1 I (st_cmp (k := .i64) (a := v1) (b := (a0.length : Int)) (c := (decide (v1 < (a0.length : Int)))) I I I I) I <| Ze <| Zf <| Zg ?_
   have hif := of_if h
   refine Z12 I (fun hc => ?_) (fun hc => ?_)
   ·have h := hif.1 hc
    refine Z19 <| Zf <| Zg <| AWp.block <| Zg <| Zd <| Z1 I (Zj (v := (.int .i64 v1)) I I) I <| Z1 I (Zi (v := (.int .i64 v1)) I I) I ?_
    refine Ze <| Zf <| Zg <| Zd <| Z1 I (Zj (v := (.str a0)) I I) I <| Z1 I (Zj (v := (.int .i64 v1)) I I) I ?_
    have ⟨hg6, h⟩ := Z16 h
    refine Z1 I (st_indexS (k := .i64) I u9 I I hg6) I <| Z1 I (Zj (v := (.int .u8 a1)) I I) I <| Z1 I (st_cmp (k := .u8) (a := (byteAt a0 v1)) (b := a1) (c := (decide ((byteAt a0 v1) < a1))) I I I I) I <| Z1 I (Zj (v := (.bool (decide ((byteAt a0 v1) < a1)))) I I) I ?_
    have hif := of_if h
    refine AOps.split (fun hc => ?_) (fun hc => ?_)
    ·have h := hif.1 hc
     refine Zn I I I I I I I <| Zn I I I I I I I <| Zn I I I I I I I <| Zn I I I I I I I <| Zn I I I I I I I <| Z1 I (st_pickT (v := (.bool true)) I I I) I <| Ze <| Zf ?_
     refine Z12 (b := true) I (fun hc => ?_) (fun hc => ?_)
     rotate_left
     ·cases hc
     refine Zg <| Zd <| Z1 I (Zi (v := (.bool false)) I I) I <| Ze <| Zf <| Z15 <| Z1a <| Zy ?_
     refine Zy (Z1a ?_)
     refine Zy ?_
     have h := Option.some.inj h
     subst h
     refine (hret _ ?_).1
     exact ⟨[(.bool false)], ⟨rfl, trivial⟩, rfl, trivial⟩
    ·have h := hif.2 hc
     refine Zp I I I I (Zj (v := (.str a0)) I I) I <| Zp I I I I (Zj (v := (.int .i64 v1)) I I) I ?_
     have ⟨hg7, h⟩ := Z16 h
     refine Zp I I I I (st_indexS (k := .i64) I u9 I I hg7) I <| Zp I I I I (Zj (v := (.int .u8 a2)) I I) I <| Zp I I I I (st_cmp (k := .u8) (a := (byteAt a0 v1)) (b := a2) (c := (decide ((byteAt a0 v1) > a2))) I I I I) I <| Z1 I (st_pickF (v := (.bool (decide ((byteAt a0 v1) > a2)))) I I I) I <| Ze <| Zf ?_
     have hif := of_if h
     refine Z12 I (fun hc => ?_) (fun hc => ?_)
     ·have h := hif.1 hc
      refine Zg <| Zd <| Z1 I (Zi (v := (.bool false)) I I) I <| Ze <| Zf <| Z15 <| Z1a <| Zy ?_
      refine Zy (Z1a ?_)
      refine Zy ?_
      have h := Option.some.inj h
      subst h
      refine (hret _ ?_).1
      exact ⟨[(.bool false)], ⟨rfl, trivial⟩, rfl, trivial⟩
     ·have h := hif.2 hc
      refine Z19 <| At.end <| Zf <| Zd <| Z1 I (st_arith (k := .i64) (a := v1) (b := 1) (c := (IntKind.i64.wrap (v1 + 1))) I I I I) I <| Z1 I (Zj (v := (.int .i64 (IntKind.i64.wrap (v1 + 1)))) I I) I <| Ze ?_
      exact Zw (st' := ⟨[(0, (.str a0)), (1, (.int .u8 a1)), (2, (.int .u8 a2)), (9, (.int .i64 (a0.length : Int))), (10, (.int .i64 (IntKind.i64.wrap (v1 + 1))))], []⟩) ⟨rfl, rfl, rfl, rfl, rfl, trivial⟩ trivial (IH2 _ (IntKind.i64.wrap (v1 + 1)) (Nat.lt_succ_self _) h)
   ·have h := hif.2 hc
    refine AWp.exit <| At.thru ?_
    exact Zw (st' := ⟨[], []⟩) trivial trivial (J2 () h)
def F56_j2 (K : Nat) (v1 : Bool) : Option (Bool) :=
 some v1
def F56 (K : Nat) (a0 : Str) : Option (Bool) :=
 if (!(a0 == [])) = true then
  if (decide ((a0.length : Int) ≤ 64)) = true then
   (F101 K a0 33 126).bind fun v4 =>
    F56_j2 K v4
  else
   F56_j2 K false
 else
  F56_j2 K false
theorem F56_ok (K : Nat) (a0 : Str) (r : Bool) (h : F56 K a0 = some r) : ACall P 56 ⟨[(.str a0)], [], (.bool r), [], []⟩ := by
 refine Z1i Tryz.func56 Tryz.results56 rfl Tryz.ntmps56 rfl rfl rfl ?_
 intro E Q hP hN hro hret
 obtain ⟨P', nt', w0, F0, p0, S0, β0, ro0⟩ := E
 simp only at hP hN
 subst hP hN
 dsimp only [argT]
 unfold F56 at h
 refine Zg <| Zd <| Z1 I (Zi (v := (.bool false)) I I) I <| Ze <| Zf <| Zg ?_
 refine AWp.join (V := Bool) (lp := fun v => F56_j2 K v = some r) (sh := fun v => ⟨[(2, (.bool v))], []⟩) ?_ ?_
 ·intro v h
  revert h
  revert v
  intro v1 h
  try dsimp only at h ⊢
  unfold F56_j2 at h
  refine Zf <| Z15 ?_
  have h := Option.some.inj h
  subst h
  refine (hret _ ?_).1
  exact ⟨[(.bool v1)], ⟨rfl, trivial⟩, rfl, trivial⟩
 ·intro J2
  refine Zd <| Z1 I (Zj (v := (.str a0)) I I) I <| Z1 I (st_cmpS (a := a0) (b := []) (c := (!(a0 == []))) I I I I) I <| Z1 I (Zj (v := (.bool (!(a0 == [])))) I I) I ?_
  have hif := of_if h
  refine AOps.split (fun hc => ?_) (fun hc => ?_)
  ·have h := hif.1 hc
   refine Zp I I I I (Zj (v := (.str a0)) I I) I <| Zp I I I I (st_lenS I u9 I) I <| Zp I I I I (st_cmp (k := .i64) (a := (a0.length : Int)) (b := 64) (c := (decide ((a0.length : Int) ≤ 64))) I I I I) I <| Z1 I (st_pickT (v := (.bool (decide ((a0.length : Int) ≤ 64)))) I I I) I <| Z1 I (Zj (v := (.bool (decide ((a0.length : Int) ≤ 64)))) I I) I ?_
   have hif := of_if h
   refine AOps.split (fun hc => ?_) (fun hc => ?_)
   ·have h := hif.1 hc
    refine Zp I I I I (Zj (v := (.str a0)) I I) I ?_
    have ⟨v4, hv4, h⟩ := Z18 h
    refine Zp I I I I (Z17 (ar := [(.str a0), (.int .u8 33), (.int .u8 126)]) (caps := []) Tryz.call101 (F101_ok K a0 33 126 v4 hv4) I I ⟨rfl, rfl, rfl, trivial⟩ I) I <| Z1 I (st_pickT (v := (.bool v4)) I I I) I <| Z1 I (Zi (v := (.bool v4)) I I) I <| Ze ?_
    exact Zw (st' := ⟨[(2, (.bool v4))], []⟩) ⟨rfl, trivial⟩ trivial (J2 v4 h)
   ·have h := hif.2 hc
    refine Zn I I I I I I I <| Zn I I I I I I I <| Z1 I (st_pickF (v := (.bool false)) I I I) I <| Z1 I (Zi (v := (.bool false)) I I) I <| Ze ?_
    exact Zw (st' := ⟨[(2, (.bool false))], []⟩) ⟨rfl, trivial⟩ trivial (J2 false h)
  ·have h := hif.2 hc
   refine Zn I I I I I I I <| Zn I I I I I I I <| Zn I I I I I I I <| Z1 I (st_pickF (v := (.bool false)) I I I) I <| Z1 I (Zj (v := (.bool false)) I I) I <| Zn I I I I I I I <| Zn I I I I I I I <| Z1 I (st_pickF (v := (.bool false)) I I I) I ?_
   refine Z1 I (Zi (v := (.bool false)) I I) I <| Ze ?_
   exact Zw (st' := ⟨[(2, (.bool false))], []⟩) ⟨rfl, trivial⟩ trivial (J2 false h)
def F57 (K : Nat) (a0 : Int) (a1 : Int) (a2 : Int) : Option (Bool) :=
 if (decide (a1 ≤ a0)) = true then
  some (decide (a0 ≤ a2))
 else
  some false
theorem F57_ok (K : Nat) (a0 : Int) (a1 : Int) (a2 : Int) (r : Bool) (h : F57 K a0 a1 a2 = some r) : ACall P 57 ⟨[(.int .i64 a0), (.int .i64 a1), (.int .i64 a2)], [], (.bool r), [], []⟩ := by
 refine Z1i Tryz.func57 Tryz.results57 rfl Tryz.ntmps57 rfl rfl rfl ?_
 intro E Q hP hN hro hret
 obtain ⟨P', nt', w0, F0, p0, S0, β0, ro0⟩ := E
 simp only at hP hN
 subst hP hN
 dsimp only [argT]
 unfold F57 at h
 refine Zg <| Zd <| Z1 I (Zi (v := (.bool false)) I I) I <| Ze <| Zf <| Zg <| Zd <| Z1 I (Zj (v := (.int .i64 a1)) I I) I ?_
 refine Z1 I (Zj (v := (.int .i64 a0)) I I) I <| Z1 I (st_cmp (k := .i64) (a := a1) (b := a0) (c := (decide (a1 ≤ a0))) I I I I) I <| Z1 I (Zj (v := (.bool (decide (a1 ≤ a0)))) I I) I ?_
 have hif := of_if h
 refine AOps.split (fun hc => ?_) (fun hc => ?_)
 ·have h := hif.1 hc
  refine Zp I I I I (Zj (v := (.int .i64 a0)) I I) I <| Zp I I I I (Zj (v := (.int .i64 a2)) I I) I <| Zp I I I I (st_cmp (k := .i64) (a := a0) (b := a2) (c := (decide (a0 ≤ a2))) I I I I) I <| Z1 I (st_pickT (v := (.bool (decide (a0 ≤ a2)))) I I I) I <| Z1 I (Zi (v := (.bool (decide (a0 ≤ a2)))) I I) I <| Ze <| Zf <| Z15 ?_
  have h := Option.some.inj h
  subst h
  refine (hret _ ?_).1
  exact ⟨[(.bool (decide (a0 ≤ a2)))], ⟨rfl, trivial⟩, rfl, trivial⟩
 ·have h := hif.2 hc
  refine Zn I I I I I I I <| Zn I I I I I I I <| Zn I I I I I I I <| Z1 I (st_pickF (v := (.bool false)) I I I) I <| Z1 I (Zi (v := (.bool false)) I I) I <| Ze <| Zf <| Z15 ?_
  have h := Option.some.inj h
  subst h
  refine (hret _ ?_).1
  exact ⟨[(.bool false)], ⟨rfl, trivial⟩, rfl, trivial⟩
def F21_c7 (K : Nat) : Option (Int) :=
 some 0
def F21_j15 (K : Nat) (b9 : Int → Option (Int)) (v5 : Int) : Option (Int) :=
 b9 (IntKind.i64.wrap (v5 + 1))
def F21_j21 (K : Nat) (b9 : Int → Option (Int)) (v5 : Int) (v20 : Bool) : Option (Int) :=
 if v20 = true then
  some 2
 else
  F21_j15 K b9 v5
def F21_j29 (K : Nat) (b9 : Int → Option (Int)) (v5 : Int) (v28 : Bool) : Option (Int) :=
 if v28 = true then
  some 2
 else
  F21_j15 K b9 v5
def F21_l6 (K : Nat) (a0 : Zb) (c8 : Option (Int)) : Nat → Int → Option (Int)
 | 0, _ => none
 | k6 + 1, v5 =>
  if (decide (v5 < (a0.Calls.length : Int))) = true then
   if (0 : Int) ≤ v5 ∧ v5 < a0.Calls.length then
    (F58 K a0 (a0.Calls.getD v5.toNat Z3).Caller).bind fun v12 =>
     (F58 K a0 (a0.Calls.getD v5.toNat Z3).Callee).bind fun v14 =>
      if (!v12.2) = true then
       some 10
      else
       if (!v14.2) = true then
        some 10
       else
        if ((a0.Calls.getD v5.toNat Z3).Caller == (a0.Calls.getD v5.toNat Z3).Callee) = true then
         some 17
        else
         if (decide (v5 > 0)) = true then
          if (0 : Int) ≤ (IntKind.i64.wrap (v5 - 1)) ∧ (IntKind.i64.wrap (v5 - 1)) < a0.Calls.length then
           if (0 : Int) ≤ (IntKind.i64.wrap (v5 - 1)) ∧ (IntKind.i64.wrap (v5 - 1)) < a0.Calls.length then
            (F59 K (⟨(a0.Calls.getD v5.toNat Z3).Caller, (a0.Calls.getD v5.toNat Z3).Callee⟩ : Zr) (⟨(a0.Calls.getD (IntKind.i64.wrap (v5 - 1)).toNat Z3).Caller, (a0.Calls.getD (IntKind.i64.wrap (v5 - 1)).toNat Z3).Callee⟩ : Zr)).bind fun v19 =>
             if (decide (v19 ≤ 0)) = true then
              some 8
             else
              (F57 K (a0.Calls.getD v5.toNat Z3).Count 1 1152921504606846976).bind fun v23 =>
               if (!v23) = true then
                F21_j21 K (F21_l6 K a0 c8 k6) v5 true
               else
                (F57 K (a0.Calls.getD v5.toNat Z3).Errors 0 (a0.Calls.getD v5.toNat Z3).Count).bind fun v25 =>
                 if (!v25) = true then
                  F21_j21 K (F21_l6 K a0 c8 k6) v5 true
                 else
                  (F57 K (a0.Calls.getD v5.toNat Z3).Time 0 1152921504606846976).bind fun v27 =>
                   F21_j21 K (F21_l6 K a0 c8 k6) v5 (!v27)
           else none
          else none
         else
          (F57 K (a0.Calls.getD v5.toNat Z3).Count 1 1152921504606846976).bind fun v31 =>
           if (!v31) = true then
            F21_j29 K (F21_l6 K a0 c8 k6) v5 true
           else
            (F57 K (a0.Calls.getD v5.toNat Z3).Errors 0 (a0.Calls.getD v5.toNat Z3).Count).bind fun v33 =>
             if (!v33) = true then
              F21_j29 K (F21_l6 K a0 c8 k6) v5 true
             else
              (F57 K (a0.Calls.getD v5.toNat Z3).Time 0 1152921504606846976).bind fun v35 =>
               F21_j29 K (F21_l6 K a0 c8 k6) v5 (!v35)
   else none
  else
   c8
def F21_c3 (K : Nat) (a0 : Zb) : Option (Int) :=
 F21_l6 K a0 (F21_c7 K) K 0
def F21_j40 (K : Nat) (b36 : Int → Option (Int)) (v1 : Int) : Option (Int) :=
 b36 (IntKind.i64.wrap (v1 + 1))
def F21_j43 (K : Nat) (b36 : Int → Option (Int)) (v1 : Int) (v42 : Bool) : Option (Int) :=
 if v42 = true then
  some 2
 else
  F21_j40 K b36 v1
def F21_j51 (K : Nat) (b36 : Int → Option (Int)) (v1 : Int) (v50 : Bool) : Option (Int) :=
 if v50 = true then
  some 2
 else
  F21_j40 K b36 v1
def F21_l2 (K : Nat) (a0 : Zb) (c4 : Option (Int)) : Nat → Int → Option (Int)
 | 0, _ => none
 | k2 + 1, v1 =>
  if (decide (v1 < (a0.Services.length : Int))) = true then
   if (0 : Int) ≤ v1 ∧ v1 < a0.Services.length then
    (F56 K (a0.Services.getD v1.toNat Z4).Name).bind fun v39 =>
     if (!v39) = true then
      some 11
     else
      if (decide (v1 > 0)) = true then
       if (0 : Int) ≤ (IntKind.i64.wrap (v1 - 1)) ∧ (IntKind.i64.wrap (v1 - 1)) < a0.Services.length then
        if (slt (a0.Services.getD v1.toNat Z4).Name (a0.Services.getD (IntKind.i64.wrap (v1 - 1)).toNat Z4).Name || (a0.Services.getD v1.toNat Z4).Name == (a0.Services.getD (IntKind.i64.wrap (v1 - 1)).toNat Z4).Name) = true then
         some 8
        else
         (F57 K (a0.Services.getD v1.toNat Z4).Spans 1 1152921504606846976).bind fun v45 =>
          if (!v45) = true then
           F21_j43 K (F21_l2 K a0 c4 k2) v1 true
          else
           (F57 K (a0.Services.getD v1.toNat Z4).Errors 0 (a0.Services.getD v1.toNat Z4).Spans).bind fun v47 =>
            if (!v47) = true then
             F21_j43 K (F21_l2 K a0 c4 k2) v1 true
            else
             (F57 K (a0.Services.getD v1.toNat Z4).Roots 0 (a0.Services.getD v1.toNat Z4).Spans).bind fun v49 =>
              F21_j43 K (F21_l2 K a0 c4 k2) v1 (!v49)
       else none
      else
       (F57 K (a0.Services.getD v1.toNat Z4).Spans 1 1152921504606846976).bind fun v53 =>
        if (!v53) = true then
         F21_j51 K (F21_l2 K a0 c4 k2) v1 true
        else
         (F57 K (a0.Services.getD v1.toNat Z4).Errors 0 (a0.Services.getD v1.toNat Z4).Spans).bind fun v55 =>
          if (!v55) = true then
           F21_j51 K (F21_l2 K a0 c4 k2) v1 true
          else
           (F57 K (a0.Services.getD v1.toNat Z4).Roots 0 (a0.Services.getD v1.toNat Z4).Spans).bind fun v57 =>
            F21_j51 K (F21_l2 K a0 c4 k2) v1 (!v57)
   else none
  else
   c4
def F21 (K : Nat) (a0 : Zb) : Option (Int) :=
 if (decide ((a0.Services.length : Int) > 256)) = true then
  some 6
 else
  F21_l2 K a0 (F21_c3 K a0) K 0
theorem F21_ok (K : Nat) (a0 : Zb) (r : Int) (h : F21 K a0 = some r) : ACall P 21 ⟨[(Z6 a0)], [], (.int .i64 r), [], []⟩ := by
 refine Z1i Tryz.func21 Tryz.results21 rfl Tryz.ntmps21 rfl rfl rfl ?_
 intro E Q hP hN hro hret
 obtain ⟨P', nt', w0, F0, p0, S0, β0, ro0⟩ := E
 simp only at hP hN
 subst hP hN
 dsimp only [argT]
 unfold F21 at h
 refine Zg <| Zd <| Z1 I (st_box (v := (Z6 a0)) (cs := (Z6 a0).cells) I I I I I) I <| Z1 I (Zi (v := (.int .i64 0)) I I) I <| Ze <| Zf <| Zg <| Zg ?_
 refine Zd <| Z1 I (Zo (m := 1) (o := 0) I f44_0 I I) I <| Z1 I (Zq (cs := (Z6 a0).cells) (v := (.sl 4 (a0.Services.map Z2) false)) I o41 I I I) I <| Z1 I (stx_len (l := a0.Services) (enc := Z2) I s41 I) I <| Z1 I (st_cmp (k := .i64) (a := (a0.Services.length : Int)) (b := 256) (c := (decide ((a0.Services.length : Int) > 256))) I I I I) I <| Ze <| Zf ?_
 have hif := of_if h
 refine Z12 I (fun hc => ?_) (fun hc => ?_)
 ·have h := hif.1 hc
  refine Zg <| Zd <| Z1 I (Zi (v := (.int .i64 6)) I I) I <| Ze <| Zf <| Z15 <| Zy ?_
  have h := Option.some.inj h
  subst h
  refine (hret _ ?_).1
  exact ⟨[(.int .i64 6)], ⟨rfl, trivial⟩, rfl, trivial⟩
 ·have h := hif.2 hc
  refine Z19 <| Zf <| Zg <| Zg <| Zd <| Z1 I (Zo (m := 1) (o := 0) I f44_0 I I) I <| Z1 I (Zq (cs := (Z6 a0).cells) (v := (.sl 4 (a0.Services.map Z2) false)) I o41 I I I) I <| Z1 I (stx_len (l := a0.Services) (enc := Z2) I s41 I) I ?_
  refine Z1 I (Zj (v := (.int .i64 0)) I I) I <| Ze <| Zf <| AWp.weaken (st' := ⟨[(1, (.ptr 1 0)), (16, (.sl 4 (a0.Services.map Z2) false)), (17, (.int .i64 (a0.Services.length : Int))), (18, (.int .i64 0))], [(1, (.box (Z6 a0).cells))]⟩) ⟨rfl, rfl, rfl, rfl, trivial⟩ ⟨rfl, trivial⟩ ?_
  refine Z1g (V := Int) (X := Unit) (lp := fun k v => F21_l2 K a0 (F21_c3 K a0) k v = some r) (sh := fun v => ⟨[(1, (.ptr 1 0)), (16, (.sl 4 (a0.Services.map Z2) false)), (17, (.int .i64 (a0.Services.length : Int))), (18, (.int .i64 v))], [(1, (.box (Z6 a0).cells))]⟩) (x := fun v => F21_c3 K a0 = some r) (shx := fun v => ⟨[(1, (.ptr 1 0))], [(1, (.box (Z6 a0).cells))]⟩) (k := K) (v := 0) h ?_ ?_
  ·intro v h
   try dsimp only at h ⊢
   unfold F21_c3 at h
   refine Zf <| Zg <| Zg <| Zd <| Z1 I (Zo (m := 1) (o := 0) I f44_1 I I) I <| Z1 I (Zq (cs := (Z6 a0).cells) (v := (.sl 5 (a0.Calls.map Z5) false)) I o42 I I I) I <| Z1 I (stx_len (l := a0.Calls) (enc := Z5) I s42 I) I <| Z1 I (Zj (v := (.int .i64 0)) I I) I ?_
   refine Ze <| Zf <| AWp.weaken (st' := ⟨[(1, (.ptr 1 0)), (66, (.sl 5 (a0.Calls.map Z5) false)), (67, (.int .i64 (a0.Calls.length : Int))), (68, (.int .i64 0))], [(1, (.box (Z6 a0).cells))]⟩) ⟨rfl, rfl, rfl, rfl, trivial⟩ ⟨rfl, trivial⟩ ?_
   refine Z1g (V := Int) (X := Unit) (lp := fun k v => F21_l6 K a0 (F21_c7 K) k v = some r) (sh := fun v => ⟨[(1, (.ptr 1 0)), (66, (.sl 5 (a0.Calls.map Z5) false)), (67, (.int .i64 (a0.Calls.length : Int))), (68, (.int .i64 v))], [(1, (.box (Z6 a0).cells))]⟩) (x := fun v => F21_c7 K = some r) (shx := fun v => ⟨[], []⟩) (k := K) (v := 0) h ?_ ?_
   ·intro v h
    try dsimp only at h ⊢
    unfold F21_c7 at h
    refine Zf <| Zg <| Zd <| Z1 I (Zi (v := (.int .i64 0)) I I) I <| Ze <| Zf <| Z15 ?_
    have h := Option.some.inj h
    subst h
    refine (hret _ ?_).1
    exact ⟨[(.int .i64 0)], ⟨rfl, trivial⟩, rfl, trivial⟩
   ·intro N k6 v h IH6 J6
    revert h
    revert v
    intro v5 h
    try dsimp only at h IH6 J6 ⊢
    cases k6 with
    | zero => cases h
    | succ k6 =>
     rw [F21_l6] at h
     refine Zg <| Zd <| Z1 I (st_cmp (k := .i64) (a := v5) (b := (a0.Calls.length : Int)) (c := (decide (v5 < (a0.Calls.length : Int)))) I I I I) I <| Ze <| Zf <| Zg ?_
     have hif := of_if h
     refine Z12 I (fun hc => ?_) (fun hc => ?_)
     ·have h := hif.1 hc
      refine Z19 <| Zf <| Zg <| AWp.block <| Zg <| Zd <| Z1 I (Zj (v := (.int .i64 v5)) I I) I ?_
      have ⟨hg10, h⟩ := Z16 h
      refine Z1 I (st_index (k := .i64) (l := a0.Calls) (enc := Z5) (z := Z3) (n := v5) (cs := (Z5 (a0.Calls.getD v5.toNat Z3)).cells) (full := false) I s42 I I hg10 I) I <| Z1 I (st_loadIA (cs := (Z5 (a0.Calls.getD v5.toNat Z3)).cells) (vs := (Z5 (a0.Calls.getD v5.toNat Z3)).cells) I a88 I I I) I <| Z1 I (st_alloc (cs := [(.str []), (.str []), (.int .i64 0), (.int .i64 0), (.int .i64 0)]) I z88 I I I) I <| Z1 I (Zi (v := (.int .i64 v5)) I I) I <| Z1 I (Z1e (cs := [(.str []), (.str []), (.int .i64 0), (.int .i64 0), (.int .i64 0)]) (vs := (Z5 (a0.Calls.getD v5.toNat Z3)).cells) (ds := (Z5 (a0.Calls.getD v5.toNat Z3)).cells) (v := (Z5 (a0.Calls.getD v5.toNat Z3))) sz88 I I I I I I I I) I <| Ze <| Zf <| Zg ?_
      refine Zd <| Z1 I (st_loadPA (cs := (Z6 a0).cells) (vs := (Z6 a0).cells) I a44 I I I I) I <| Z1 I (Zo (m := 6) (o := 0) I f88_0 I I) I <| Z1 I (Zq (cs := (Z5 (a0.Calls.getD v5.toNat Z3)).cells) (v := (.str (a0.Calls.getD v5.toNat Z3).Caller)) I o9 I I I) I ?_
      have ⟨v12, hv12, h⟩ := Z18 h
      refine Z1 I (Z17 (ar := [(Z6 a0), (.str (a0.Calls.getD v5.toNat Z3).Caller)]) (caps := []) Tryz.call58 (F58_ok K a0 (a0.Calls.getD v5.toNat Z3).Caller v12 hv12) I I ⟨rfl, rfl, trivial⟩ I) I <| Z1 I (Zj (v := (.tup [(.int .i64 v12.1), (.bool v12.2)])) I I) I <| Z1 I (st_extract (vs := [(.int .i64 v12.1), (.bool v12.2)]) (v := (.int .i64 v12.1)) I I I) I <| Z1 I (st_extract (vs := [(.int .i64 v12.1), (.bool v12.2)]) (v := (.bool v12.2)) I I I) I <| Z1 I (Zi (v := (.int .i64 v12.1)) I I) I <| Z1 I (Zi (v := (.bool v12.2)) I I) I <| Ze <| Zf ?_
      refine Zg <| Zd <| Z1 I (st_loadPA (cs := (Z6 a0).cells) (vs := (Z6 a0).cells) I a44 I I I I) I <| Z1 I (Zo (m := 6) (o := 0) I f88_1 I I) I <| Z1 I (Zq (cs := (Z5 (a0.Calls.getD v5.toNat Z3)).cells) (v := (.str (a0.Calls.getD v5.toNat Z3).Callee)) I o9 I I I) I ?_
      have ⟨v14, hv14, h⟩ := Z18 h
      refine Z1 I (Z17 (ar := [(Z6 a0), (.str (a0.Calls.getD v5.toNat Z3).Callee)]) (caps := []) Tryz.call58 (F58_ok K a0 (a0.Calls.getD v5.toNat Z3).Callee v14 hv14) I I ⟨rfl, rfl, trivial⟩ I) I <| Z1 I (Zj (v := (.tup [(.int .i64 v14.1), (.bool v14.2)])) I I) I <| Z1 I (st_extract (vs := [(.int .i64 v14.1), (.bool v14.2)]) (v := (.int .i64 v14.1)) I I I) I <| Z1 I (st_extract (vs := [(.int .i64 v14.1), (.bool v14.2)]) (v := (.bool v14.2)) I I I) I <| Z1 I (Zi (v := (.int .i64 v14.1)) I I) I <| Z1 I (Zi (v := (.bool v14.2)) I I) I <| Ze <| Zf ?_
      refine AWp.block <| Zg <| Zd <| Z1 I (Zj (v := (.bool v12.2)) I I) I <| Z1 I (st_not (b := v12.2) I I) I <| Z1 I (Zj (v := (.bool (!v12.2))) I I) I ?_
      have hif := of_if h
      refine AOps.split (fun hc => ?_) (fun hc => ?_)
      ·have h := hif.1 hc
       refine Zn I I I I I I I <| Zn I I I I I I I <| Z1 I (st_pickT (v := (.bool true)) I I I) I <| Z1 I (Zi (v := (.bool true)) I I) I <| Ze <| Zf ?_
       refine Z12 (b := true) I (fun hc => ?_) (fun hc => ?_)
       rotate_left
       ·cases hc
       refine Zg <| Zd <| Z1 I (Zi (v := (.int .i64 10)) I I) I <| Ze <| Zf <| Z15 <| Z1a <| Z1a ?_
       refine Zy ?_
       refine Zy (Z1a ?_)
       refine Zy ?_
       have h := Option.some.inj h
       subst h
       refine (hret _ ?_).1
       exact ⟨[(.int .i64 10)], ⟨rfl, trivial⟩, rfl, trivial⟩
      ·have h := hif.2 hc
       refine Zp I I I I (Zj (v := (.bool v14.2)) I I) I <| Zp I I I I (st_not (b := v14.2) I I) I <| Z1 I (st_pickF (v := (.bool (!v14.2))) I I I) I <| Z1 I (Zi (v := (.bool (!v14.2))) I I) I <| Ze <| Zf ?_
       refine AWp.join (V := Unit) (lp := fun v => F21_j15 K (F21_l6 K a0 (F21_c7 K) k6) v5 = some r) (sh := fun v => ⟨[(1, (.ptr 1 0)), (66, (.sl 5 (a0.Calls.map Z5) false)), (67, (.int .i64 (a0.Calls.length : Int))), (68, (.int .i64 v5))], [(1, (.box (Z6 a0).cells))]⟩) ?_ ?_
       ·intro v h
        try dsimp only at h ⊢
        unfold F21_j15 at h
        refine At.end <| At.end <| Zf <| Zd <| Z1 I (st_arith (k := .i64) (a := v5) (b := 1) (c := (IntKind.i64.wrap (v5 + 1))) I I I I) I <| Z1 I (Zj (v := (.int .i64 (IntKind.i64.wrap (v5 + 1)))) I I) I <| Ze ?_
        exact Zw (st' := ⟨[(1, (.ptr 1 0)), (66, (.sl 5 (a0.Calls.map Z5) false)), (67, (.int .i64 (a0.Calls.length : Int))), (68, (.int .i64 (IntKind.i64.wrap (v5 + 1))))], [(1, (.box (Z6 a0).cells))]⟩) ⟨rfl, rfl, rfl, rfl, trivial⟩ ⟨rfl, trivial⟩ (IH6 _ (IntKind.i64.wrap (v5 + 1)) (Nat.lt_succ_self _) h)
       ·intro J15
        have hif := of_if h
        refine Z12 I (fun hc => ?_) (fun hc => ?_)
        ·have h := hif.1 hc
         refine Zg <| Zd <| Z1 I (Zi (v := (.int .i64 10)) I I) I <| Ze <| Zf <| Z15 <| Z1a <| Z1a ?_
         refine Zy ?_
         refine Zy (Z1a ?_)
         refine Zy ?_
         have h := Option.some.inj h
         subst h
         refine (hret _ ?_).1
         exact ⟨[(.int .i64 10)], ⟨rfl, trivial⟩, rfl, trivial⟩
        ·have h := hif.2 hc
         refine Zg <| Zd <| Z1 I (Zo (m := 6) (o := 0) I f88_0 I I) I <| Z1 I (Zq (cs := (Z5 (a0.Calls.getD v5.toNat Z3)).cells) (v := (.str (a0.Calls.getD v5.toNat Z3).Caller)) I o9 I I I) I <| Z1 I (Zo (m := 6) (o := 0) I f88_1 I I) I <| Z1 I (Zq (cs := (Z5 (a0.Calls.getD v5.toNat Z3)).cells) (v := (.str (a0.Calls.getD v5.toNat Z3).Callee)) I o9 I I I) I <| Z1 I (st_cmpS (a := (a0.Calls.getD v5.toNat Z3).Caller) (b := (a0.Calls.getD v5.toNat Z3).Callee) (c := ((a0.Calls.getD v5.toNat Z3).Caller == (a0.Calls.getD v5.toNat Z3).Callee)) I I I I) I <| Z1 I (Zi (v := (.bool ((a0.Calls.getD v5.toNat Z3).Caller == (a0.Calls.getD v5.toNat Z3).Callee))) I I) I ?_
         refine Ze <| Zf ?_
         have hif := of_if h
         refine Z12 I (fun hc => ?_) (fun hc => ?_)
         ·have h := hif.1 hc
          refine Zg <| Zd <| Z1 I (Zi (v := (.int .i64 17)) I I) I <| Ze <| Zf <| Z15 <| Z1a <| Z1a ?_
          refine Zy ?_
          refine Zy (Z1a ?_)
          refine Zy ?_
          have h := Option.some.inj h
          subst h
          refine (hret _ ?_).1
          exact ⟨[(.int .i64 17)], ⟨rfl, trivial⟩, rfl, trivial⟩
         ·have h := hif.2 hc
          refine Zg <| AWp.regionD mixed <| Z9 0 I (Zj (v := (.int .i64 v5)) I I) <| Z9 1 I (st_cmp (k := .i64) (a := v5) (b := 0) (c := (decide (v5 > 0))) I I I I) <| Z9 2 I (Zj (v := (.bool (decide (v5 > 0)))) I I) ?_
          have hif := of_if h
          refine AOpsD.split (fun hc => ?_) (fun hc => ?_)
          ·have h := hif.1 hc
           refine Zt 3 I I I I (Zo (m := 6) (o := 0) I f88_0 I I) <| Zt 4 I I I I (Zq (cs := (Z5 (a0.Calls.getD v5.toNat Z3)).cells) (v := (.str (a0.Calls.getD v5.toNat Z3).Caller)) I o9 I I I) <| Zt 5 I I I I (Zo (m := 6) (o := 0) I f88_1 I I) <| Zt 6 I I I I (Zq (cs := (Z5 (a0.Calls.getD v5.toNat Z3)).cells) (v := (.str (a0.Calls.getD v5.toNat Z3).Callee)) I o9 I I I) <| Zt 7 I I I I (stx_build (vs := [(0, (.str (a0.Calls.getD v5.toNat Z3).Caller)), (1, (.str (a0.Calls.getD v5.toNat Z3).Callee))]) (cs := [(.str (a0.Calls.getD v5.toNat Z3).Caller), (.str (a0.Calls.getD v5.toNat Z3).Callee)]) I st126 ⟨rfl, rfl, rfl, rfl, trivial⟩ I) <| Zt 8 I I I I (Zo (m := 1) (o := 0) I f44_1 I I) <| Zt 9 I I I I (Zq (cs := (Z6 a0).cells) (v := (.sl 5 (a0.Calls.map Z5) false)) I o42 I I I) <| Zt 10 I I I I (Zj (v := (.int .i64 v5)) I I) ?_
           refine Zt 11 I I I I (st_arith (k := .i64) (a := v5) (b := 1) (c := (IntKind.i64.wrap (v5 - 1))) I I I I) ?_
           have ⟨hg16, h⟩ := Z16 h
           refine Zt 12 I I I I (st_index (k := .i64) (l := a0.Calls) (enc := Z5) (z := Z3) (n := (IntKind.i64.wrap (v5 - 1))) (cs := (Z5 (a0.Calls.getD (IntKind.i64.wrap (v5 - 1)).toNat Z3)).cells) (full := false) I s42 I I hg16 I) <| Zt 13 I I I I (st_fieldI (cs := (Z5 (a0.Calls.getD (IntKind.i64.wrap (v5 - 1)).toNat Z3)).cells) (ds := (Z5 (a0.Calls.getD (IntKind.i64.wrap (v5 - 1)).toNat Z3)).cells) I f88_0 I I I) <| Zt 14 I I I I (st_loadI (cs := (Z5 (a0.Calls.getD (IntKind.i64.wrap (v5 - 1)).toNat Z3)).cells) (v := (.str (a0.Calls.getD (IntKind.i64.wrap (v5 - 1)).toNat Z3).Caller)) I o9 I I) <| Zt 15 I I I I (Zo (m := 1) (o := 0) I f44_1 I I) <| Zt 16 I I I I (Zq (cs := (Z6 a0).cells) (v := (.sl 5 (a0.Calls.map Z5) false)) I o42 I I I) <| Zt 17 I I I I (Zj (v := (.int .i64 v5)) I I) <| Zt 18 I I I I (st_arith (k := .i64) (a := v5) (b := 1) (c := (IntKind.i64.wrap (v5 - 1))) I I I I) ?_
           have ⟨hg17, h⟩ := Z16 h
           refine Zt 19 I I I I (st_index (k := .i64) (l := a0.Calls) (enc := Z5) (z := Z3) (n := (IntKind.i64.wrap (v5 - 1))) (cs := (Z5 (a0.Calls.getD (IntKind.i64.wrap (v5 - 1)).toNat Z3)).cells) (full := false) I s42 I I hg17 I) <| Zt 20 I I I I (st_fieldI (cs := (Z5 (a0.Calls.getD (IntKind.i64.wrap (v5 - 1)).toNat Z3)).cells) (ds := [(.str (a0.Calls.getD (IntKind.i64.wrap (v5 - 1)).toNat Z3).Callee), (.int .i64 (a0.Calls.getD (IntKind.i64.wrap (v5 - 1)).toNat Z3).Count), (.int .i64 (a0.Calls.getD (IntKind.i64.wrap (v5 - 1)).toNat Z3).Errors), (.int .i64 (a0.Calls.getD (IntKind.i64.wrap (v5 - 1)).toNat Z3).Time)]) I f88_1 I I I) <| Zt 21 I I I I (st_loadI (cs := [(.str (a0.Calls.getD (IntKind.i64.wrap (v5 - 1)).toNat Z3).Callee), (.int .i64 (a0.Calls.getD (IntKind.i64.wrap (v5 - 1)).toNat Z3).Count), (.int .i64 (a0.Calls.getD (IntKind.i64.wrap (v5 - 1)).toNat Z3).Errors), (.int .i64 (a0.Calls.getD (IntKind.i64.wrap (v5 - 1)).toNat Z3).Time)]) (v := (.str (a0.Calls.getD (IntKind.i64.wrap (v5 - 1)).toNat Z3).Callee)) I o9 I I) <| Zt 22 I I I I (stx_build (vs := [(0, (.str (a0.Calls.getD (IntKind.i64.wrap (v5 - 1)).toNat Z3).Caller)), (1, (.str (a0.Calls.getD (IntKind.i64.wrap (v5 - 1)).toNat Z3).Callee))]) (cs := [(.str (a0.Calls.getD (IntKind.i64.wrap (v5 - 1)).toNat Z3).Caller), (.str (a0.Calls.getD (IntKind.i64.wrap (v5 - 1)).toNat Z3).Callee)]) I st126 ⟨rfl, rfl, rfl, rfl, trivial⟩ I) ?_
           have ⟨v19, hv19, h⟩ := Z18 h
           refine Zt 23 I I I I (Z17 (ar := [(.ag [(.str (a0.Calls.getD v5.toNat Z3).Caller), (.str (a0.Calls.getD v5.toNat Z3).Callee)]), (.ag [(.str (a0.Calls.getD (IntKind.i64.wrap (v5 - 1)).toNat Z3).Caller), (.str (a0.Calls.getD (IntKind.i64.wrap (v5 - 1)).toNat Z3).Callee)])]) (caps := []) Tryz.call59 (F59_ok K (⟨(a0.Calls.getD v5.toNat Z3).Caller, (a0.Calls.getD v5.toNat Z3).Callee⟩ : Zr) (⟨(a0.Calls.getD (IntKind.i64.wrap (v5 - 1)).toNat Z3).Caller, (a0.Calls.getD (IntKind.i64.wrap (v5 - 1)).toNat Z3).Callee⟩ : Zr) v19 hv19) I I ⟨rfl, rfl, trivial⟩ I) <| Zt 24 I I I I (st_cmp (k := .i64) (a := v19) (b := 0) (c := (decide (v19 ≤ 0))) I I I I) <| Z9 25 I (st_pickT (v := (.bool (decide (v19 ≤ 0)))) I I I) <| Z9 26 I (Zi (v := (.bool (decide (v19 ≤ 0)))) I I) <| AOpsD.nil (by kernel_rfl) I <| Zf ?_
           have hif := of_if h
           refine Z12 I (fun hc => ?_) (fun hc => ?_)
           ·have h := hif.1 hc
            refine Zg <| Zd <| Z1 I (Zi (v := (.int .i64 8)) I I) I <| Ze <| Zf <| Z15 <| Z1a <| Z1a ?_
            refine Zy ?_
            refine Zy (Z1a ?_)
            refine Zy ?_
            have h := Option.some.inj h
            subst h
            refine (hret _ ?_).1
            exact ⟨[(.int .i64 8)], ⟨rfl, trivial⟩, rfl, trivial⟩
           ·have h := hif.2 hc
            refine Zg ?_
            refine AWp.join (V := Bool) (lp := fun v => F21_j21 K (F21_l6 K a0 (F21_c7 K) k6) v5 v = some r) (sh := fun v => ⟨[(1, (.ptr 1 0)), (66, (.sl 5 (a0.Calls.map Z5) false)), (67, (.int .i64 (a0.Calls.length : Int))), (68, (.int .i64 v5)), (127, (.bool v))], [(1, (.box (Z6 a0).cells))]⟩) ?_ ?_
            ·intro v h
             revert h
             revert v
             intro v20 h
             try dsimp only at h ⊢
             unfold F21_j21 at h
             refine Zf ?_
             have hif := of_if h
             refine Z12 I (fun hc => ?_) (fun hc => ?_)
             ·have h := hif.1 hc
              refine Zg <| Zd <| Z1 I (Zi (v := (.int .i64 2)) I I) I <| Ze <| Zf <| Z15 <| Z1a <| Z1a ?_
              refine Zy ?_
              refine Zy (Z1a ?_)
              refine Zy ?_
              have h := Option.some.inj h
              subst h
              refine (hret _ ?_).1
              exact ⟨[(.int .i64 2)], ⟨rfl, trivial⟩, rfl, trivial⟩
             ·have h := hif.2 hc
              refine Z19 ?_
              exact Zw (st' := ⟨[(1, (.ptr 1 0)), (66, (.sl 5 (a0.Calls.map Z5) false)), (67, (.int .i64 (a0.Calls.length : Int))), (68, (.int .i64 v5))], [(1, (.box (Z6 a0).cells))]⟩) ⟨rfl, rfl, rfl, rfl, trivial⟩ ⟨rfl, trivial⟩ (J15 () h)
            ·intro J21
             refine Zd <| Z1 I (Zo (m := 6) (o := 0) I f88_2 I I) I <| Z1 I (Zq (cs := (Z5 (a0.Calls.getD v5.toNat Z3)).cells) (v := (.int .i64 (a0.Calls.getD v5.toNat Z3).Count)) I o3 I I I) I ?_
             have ⟨v23, hv23, h⟩ := Z18 h
             refine Z1 I (Z17 (ar := [(.int .i64 (a0.Calls.getD v5.toNat Z3).Count), (.int .i64 1), (.int .i64 1152921504606846976)]) (caps := []) Tryz.call57 (F57_ok K (a0.Calls.getD v5.toNat Z3).Count 1 1152921504606846976 v23 hv23) I I ⟨rfl, rfl, rfl, trivial⟩ I) I <| Z1 I (st_not (b := v23) I I) I <| Z1 I (Zj (v := (.bool (!v23))) I I) I ?_
             have hif := of_if h
             refine AOps.split (fun hc => ?_) (fun hc => ?_)
             ·have h := hif.1 hc
              refine Zn I I I I I I I <| Zn I I I I I I I <| Zn I I I I I I I <| Zn I I I I I I I <| Zn I I I I I I I <| Zn I I I I I I I <| Z1 I (st_pickT (v := (.bool true)) I I I) I <| Z1 I (Zj (v := (.bool true)) I I) I ?_
              refine Zn I I I I I I I <| Zn I I I I I I I <| Zn I I I I I I I <| Zn I I I I I I I <| Z1 I (st_pickT (v := (.bool true)) I I I) I <| Z1 I (Zi (v := (.bool true)) I I) I <| Ze ?_
              exact Zw (st' := ⟨[(1, (.ptr 1 0)), (66, (.sl 5 (a0.Calls.map Z5) false)), (67, (.int .i64 (a0.Calls.length : Int))), (68, (.int .i64 v5)), (127, (.bool true))], [(1, (.box (Z6 a0).cells))]⟩) ⟨rfl, rfl, rfl, rfl, rfl, trivial⟩ ⟨rfl, trivial⟩ (J21 true h)
             ·have h := hif.2 hc
              refine Zp I I I I (Zo (m := 6) (o := 0) I f88_3 I I) I <| Zp I I I I (Zq (cs := (Z5 (a0.Calls.getD v5.toNat Z3)).cells) (v := (.int .i64 (a0.Calls.getD v5.toNat Z3).Errors)) I o3 I I I) I <| Zp I I I I (Zo (m := 6) (o := 0) I f88_2 I I) I <| Zp I I I I (Zq (cs := (Z5 (a0.Calls.getD v5.toNat Z3)).cells) (v := (.int .i64 (a0.Calls.getD v5.toNat Z3).Count)) I o3 I I I) I ?_
              have ⟨v25, hv25, h⟩ := Z18 h
              refine Zp I I I I (Z17 (ar := [(.int .i64 (a0.Calls.getD v5.toNat Z3).Errors), (.int .i64 0), (.int .i64 (a0.Calls.getD v5.toNat Z3).Count)]) (caps := []) Tryz.call57 (F57_ok K (a0.Calls.getD v5.toNat Z3).Errors 0 (a0.Calls.getD v5.toNat Z3).Count v25 hv25) I I ⟨rfl, rfl, rfl, trivial⟩ I) I <| Zp I I I I (st_not (b := v25) I I) I <| Z1 I (st_pickF (v := (.bool (!v25))) I I I) I <| Z1 I (Zj (v := (.bool (!v25))) I I) I ?_
              have hif := of_if h
              refine AOps.split (fun hc => ?_) (fun hc => ?_)
              ·have h := hif.1 hc
               refine Zn I I I I I I I <| Zn I I I I I I I <| Zn I I I I I I I <| Zn I I I I I I I <| Z1 I (st_pickT (v := (.bool true)) I I I) I <| Z1 I (Zi (v := (.bool true)) I I) I <| Ze ?_
               exact Zw (st' := ⟨[(1, (.ptr 1 0)), (66, (.sl 5 (a0.Calls.map Z5) false)), (67, (.int .i64 (a0.Calls.length : Int))), (68, (.int .i64 v5)), (127, (.bool true))], [(1, (.box (Z6 a0).cells))]⟩) ⟨rfl, rfl, rfl, rfl, rfl, trivial⟩ ⟨rfl, trivial⟩ (J21 true h)
              ·have h := hif.2 hc
               refine Zp I I I I (Zo (m := 6) (o := 0) I f88_4 I I) I <| Zp I I I I (Zq (cs := (Z5 (a0.Calls.getD v5.toNat Z3)).cells) (v := (.int .i64 (a0.Calls.getD v5.toNat Z3).Time)) I o3 I I I) I ?_
               have ⟨v27, hv27, h⟩ := Z18 h
               refine Zp I I I I (Z17 (ar := [(.int .i64 (a0.Calls.getD v5.toNat Z3).Time), (.int .i64 0), (.int .i64 1152921504606846976)]) (caps := []) Tryz.call57 (F57_ok K (a0.Calls.getD v5.toNat Z3).Time 0 1152921504606846976 v27 hv27) I I ⟨rfl, rfl, rfl, trivial⟩ I) I <| Zp I I I I (st_not (b := v27) I I) I <| Z1 I (st_pickF (v := (.bool (!v27))) I I I) I <| Z1 I (Zi (v := (.bool (!v27))) I I) I <| Ze ?_
               exact Zw (st' := ⟨[(1, (.ptr 1 0)), (66, (.sl 5 (a0.Calls.map Z5) false)), (67, (.int .i64 (a0.Calls.length : Int))), (68, (.int .i64 v5)), (127, (.bool (!v27)))], [(1, (.box (Z6 a0).cells))]⟩) ⟨rfl, rfl, rfl, rfl, rfl, trivial⟩ ⟨rfl, trivial⟩ (J21 (!v27) h)
          ·have h := hif.2 hc
           refine Zs 3 I I I I I I I <| Zs 4 I I I I I I I <| Zs 5 I I I I I I I <| Zs 6 I I I I I I I <| Zs 7 I I I I I I I <| Zs 8 I I I I I I I <| Zs 9 I I I I I I I <| Zs 10 I I I I I I I ?_
           refine Zs 11 I I I I I I I <| Zs 12 I I I I I I I <| Zs 13 I I I I I I I <| Zs 14 I I I I I I I <| Zs 15 I I I I I I I <| Zs 16 I I I I I I I <| Zs 17 I I I I I I I <| Zs 18 I I I I I I I ?_
           refine Zs 19 I I I I I I I <| Zs 20 I I I I I I I <| Zs 21 I I I I I I I <| Zs 22 I I I I I I I <| Zs 23 I I I I I I I <| Zs 24 I I I I I I I <| Z9 25 I (st_pickF (v := (.bool false)) I I I) <| Z9 26 I (Zi (v := (.bool false)) I I) ?_
           refine AOpsD.nil (by kernel_rfl) I <| Zf ?_
           refine Z12 (b := false) I (fun hc => ?_) (fun hc => ?_)
           ·cases hc
           refine Zg ?_
           refine AWp.join (V := Bool) (lp := fun v => F21_j29 K (F21_l6 K a0 (F21_c7 K) k6) v5 v = some r) (sh := fun v => ⟨[(1, (.ptr 1 0)), (66, (.sl 5 (a0.Calls.map Z5) false)), (67, (.int .i64 (a0.Calls.length : Int))), (68, (.int .i64 v5)), (127, (.bool v))], [(1, (.box (Z6 a0).cells))]⟩) ?_ ?_
           ·intro v h
            revert h
            revert v
            intro v28 h
            try dsimp only at h ⊢
            unfold F21_j29 at h
            refine Zf ?_
            have hif := of_if h
            refine Z12 I (fun hc => ?_) (fun hc => ?_)
            ·have h := hif.1 hc
             refine Zg <| Zd <| Z1 I (Zi (v := (.int .i64 2)) I I) I <| Ze <| Zf <| Z15 <| Z1a <| Z1a ?_
             refine Zy ?_
             refine Zy (Z1a ?_)
             refine Zy ?_
             have h := Option.some.inj h
             subst h
             refine (hret _ ?_).1
             exact ⟨[(.int .i64 2)], ⟨rfl, trivial⟩, rfl, trivial⟩
            ·have h := hif.2 hc
             refine Z19 ?_
             exact Zw (st' := ⟨[(1, (.ptr 1 0)), (66, (.sl 5 (a0.Calls.map Z5) false)), (67, (.int .i64 (a0.Calls.length : Int))), (68, (.int .i64 v5))], [(1, (.box (Z6 a0).cells))]⟩) ⟨rfl, rfl, rfl, rfl, trivial⟩ ⟨rfl, trivial⟩ (J15 () h)
           ·intro J29
            refine Zd <| Z1 I (Zo (m := 6) (o := 0) I f88_2 I I) I <| Z1 I (Zq (cs := (Z5 (a0.Calls.getD v5.toNat Z3)).cells) (v := (.int .i64 (a0.Calls.getD v5.toNat Z3).Count)) I o3 I I I) I ?_
            have ⟨v31, hv31, h⟩ := Z18 h
            refine Z1 I (Z17 (ar := [(.int .i64 (a0.Calls.getD v5.toNat Z3).Count), (.int .i64 1), (.int .i64 1152921504606846976)]) (caps := []) Tryz.call57 (F57_ok K (a0.Calls.getD v5.toNat Z3).Count 1 1152921504606846976 v31 hv31) I I ⟨rfl, rfl, rfl, trivial⟩ I) I <| Z1 I (st_not (b := v31) I I) I <| Z1 I (Zj (v := (.bool (!v31))) I I) I ?_
            have hif := of_if h
            refine AOps.split (fun hc => ?_) (fun hc => ?_)
            ·have h := hif.1 hc
             refine Zn I I I I I I I <| Zn I I I I I I I <| Zn I I I I I I I <| Zn I I I I I I I <| Zn I I I I I I I <| Zn I I I I I I I <| Z1 I (st_pickT (v := (.bool true)) I I I) I <| Z1 I (Zj (v := (.bool true)) I I) I ?_
             refine Zn I I I I I I I <| Zn I I I I I I I <| Zn I I I I I I I <| Zn I I I I I I I <| Z1 I (st_pickT (v := (.bool true)) I I I) I <| Z1 I (Zi (v := (.bool true)) I I) I <| Ze ?_
             exact Zw (st' := ⟨[(1, (.ptr 1 0)), (66, (.sl 5 (a0.Calls.map Z5) false)), (67, (.int .i64 (a0.Calls.length : Int))), (68, (.int .i64 v5)), (127, (.bool true))], [(1, (.box (Z6 a0).cells))]⟩) ⟨rfl, rfl, rfl, rfl, rfl, trivial⟩ ⟨rfl, trivial⟩ (J29 true h)
            ·have h := hif.2 hc
             refine Zp I I I I (Zo (m := 6) (o := 0) I f88_3 I I) I <| Zp I I I I (Zq (cs := (Z5 (a0.Calls.getD v5.toNat Z3)).cells) (v := (.int .i64 (a0.Calls.getD v5.toNat Z3).Errors)) I o3 I I I) I <| Zp I I I I (Zo (m := 6) (o := 0) I f88_2 I I) I <| Zp I I I I (Zq (cs := (Z5 (a0.Calls.getD v5.toNat Z3)).cells) (v := (.int .i64 (a0.Calls.getD v5.toNat Z3).Count)) I o3 I I I) I ?_
             have ⟨v33, hv33, h⟩ := Z18 h
             refine Zp I I I I (Z17 (ar := [(.int .i64 (a0.Calls.getD v5.toNat Z3).Errors), (.int .i64 0), (.int .i64 (a0.Calls.getD v5.toNat Z3).Count)]) (caps := []) Tryz.call57 (F57_ok K (a0.Calls.getD v5.toNat Z3).Errors 0 (a0.Calls.getD v5.toNat Z3).Count v33 hv33) I I ⟨rfl, rfl, rfl, trivial⟩ I) I <| Zp I I I I (st_not (b := v33) I I) I <| Z1 I (st_pickF (v := (.bool (!v33))) I I I) I <| Z1 I (Zj (v := (.bool (!v33))) I I) I ?_
             have hif := of_if h
             refine AOps.split (fun hc => ?_) (fun hc => ?_)
             ·have h := hif.1 hc
              refine Zn I I I I I I I <| Zn I I I I I I I <| Zn I I I I I I I <| Zn I I I I I I I <| Z1 I (st_pickT (v := (.bool true)) I I I) I <| Z1 I (Zi (v := (.bool true)) I I) I <| Ze ?_
              exact Zw (st' := ⟨[(1, (.ptr 1 0)), (66, (.sl 5 (a0.Calls.map Z5) false)), (67, (.int .i64 (a0.Calls.length : Int))), (68, (.int .i64 v5)), (127, (.bool true))], [(1, (.box (Z6 a0).cells))]⟩) ⟨rfl, rfl, rfl, rfl, rfl, trivial⟩ ⟨rfl, trivial⟩ (J29 true h)
             ·have h := hif.2 hc
              refine Zp I I I I (Zo (m := 6) (o := 0) I f88_4 I I) I <| Zp I I I I (Zq (cs := (Z5 (a0.Calls.getD v5.toNat Z3)).cells) (v := (.int .i64 (a0.Calls.getD v5.toNat Z3).Time)) I o3 I I I) I ?_
              have ⟨v35, hv35, h⟩ := Z18 h
              refine Zp I I I I (Z17 (ar := [(.int .i64 (a0.Calls.getD v5.toNat Z3).Time), (.int .i64 0), (.int .i64 1152921504606846976)]) (caps := []) Tryz.call57 (F57_ok K (a0.Calls.getD v5.toNat Z3).Time 0 1152921504606846976 v35 hv35) I I ⟨rfl, rfl, rfl, trivial⟩ I) I <| Zp I I I I (st_not (b := v35) I I) I <| Z1 I (st_pickF (v := (.bool (!v35))) I I I) I <| Z1 I (Zi (v := (.bool (!v35))) I I) I <| Ze ?_
              exact Zw (st' := ⟨[(1, (.ptr 1 0)), (66, (.sl 5 (a0.Calls.map Z5) false)), (67, (.int .i64 (a0.Calls.length : Int))), (68, (.int .i64 v5)), (127, (.bool (!v35)))], [(1, (.box (Z6 a0).cells))]⟩) ⟨rfl, rfl, rfl, rfl, rfl, trivial⟩ ⟨rfl, trivial⟩ (J29 (!v35) h)
     ·have h := hif.2 hc
      refine AWp.exit <| At.thru ?_
      exact Zw (st' := ⟨[], []⟩) trivial trivial (J6 () h)
  ·intro N k2 v h IH2 J2
   revert h
   revert v
   intro v1 h
   try dsimp only at h IH2 J2 ⊢
   cases k2 with
   | zero => cases h
   | succ k2 =>
    rw [F21_l2] at h
    refine Zg <| Zd <| Z1 I (st_cmp (k := .i64) (a := v1) (b := (a0.Services.length : Int)) (c := (decide (v1 < (a0.Services.length : Int)))) I I I I) I <| Ze <| Zf <| Zg ?_
    have hif := of_if h
    refine Z12 I (fun hc => ?_) (fun hc => ?_)
    ·have h := hif.1 hc
     refine Z19 <| Zf <| Zg <| AWp.block <| Zg <| Zd <| Z1 I (Zj (v := (.int .i64 v1)) I I) I ?_
     have ⟨hg37, h⟩ := Z16 h
     refine Z1 I (st_index (k := .i64) (l := a0.Services) (enc := Z2) (z := Z4) (n := v1) (cs := (Z2 (a0.Services.getD v1.toNat Z4)).cells) (full := false) I s41 I I hg37 I) I <| Z1 I (st_loadIA (cs := (Z2 (a0.Services.getD v1.toNat Z4)).cells) (vs := (Z2 (a0.Services.getD v1.toNat Z4)).cells) I a68 I I I) I <| Z1 I (st_alloc (cs := [(.str []), (.int .i64 0), (.int .i64 0), (.int .i64 0)]) I z68 I I I) I <| Z1 I (Zi (v := (.int .i64 v1)) I I) I <| Z1 I (Z1e (cs := [(.str []), (.int .i64 0), (.int .i64 0), (.int .i64 0)]) (vs := (Z2 (a0.Services.getD v1.toNat Z4)).cells) (ds := (Z2 (a0.Services.getD v1.toNat Z4)).cells) (v := (Z2 (a0.Services.getD v1.toNat Z4))) sz68 I I I I I I I I) I <| Ze <| Zf <| AWp.block ?_
     refine Zg <| Zd <| Z1 I (Zo (m := 4) (o := 0) I f68_0 I I) I <| Z1 I (Zq (cs := (Z2 (a0.Services.getD v1.toNat Z4)).cells) (v := (.str (a0.Services.getD v1.toNat Z4).Name)) I o9 I I I) I ?_
     have ⟨v39, hv39, h⟩ := Z18 h
     refine Z1 I (Z17 (ar := [(.str (a0.Services.getD v1.toNat Z4).Name)]) (caps := []) Tryz.call56 (F56_ok K (a0.Services.getD v1.toNat Z4).Name v39 hv39) I I ⟨rfl, trivial⟩ I) I <| Z1 I (st_not (b := v39) I I) I <| Z1 I (Zi (v := (.bool (!v39))) I I) I <| Ze <| Zf ?_
     refine AWp.join (V := Unit) (lp := fun v => F21_j40 K (F21_l2 K a0 (F21_c3 K a0) k2) v1 = some r) (sh := fun v => ⟨[(1, (.ptr 1 0)), (16, (.sl 4 (a0.Services.map Z2) false)), (17, (.int .i64 (a0.Services.length : Int))), (18, (.int .i64 v1))], [(1, (.box (Z6 a0).cells))]⟩) ?_ ?_
     ·intro v h
      try dsimp only at h ⊢
      unfold F21_j40 at h
      refine At.end <| At.end <| Zf <| Zd <| Z1 I (st_arith (k := .i64) (a := v1) (b := 1) (c := (IntKind.i64.wrap (v1 + 1))) I I I I) I <| Z1 I (Zj (v := (.int .i64 (IntKind.i64.wrap (v1 + 1)))) I I) I <| Ze ?_
      exact Zw (st' := ⟨[(1, (.ptr 1 0)), (16, (.sl 4 (a0.Services.map Z2) false)), (17, (.int .i64 (a0.Services.length : Int))), (18, (.int .i64 (IntKind.i64.wrap (v1 + 1))))], [(1, (.box (Z6 a0).cells))]⟩) ⟨rfl, rfl, rfl, rfl, trivial⟩ ⟨rfl, trivial⟩ (IH2 _ (IntKind.i64.wrap (v1 + 1)) (Nat.lt_succ_self _) h)
     ·intro J40
      have hif := of_if h
      refine Z12 I (fun hc => ?_) (fun hc => ?_)
      ·have h := hif.1 hc
       refine Zg <| Zd <| Z1 I (Zi (v := (.int .i64 11)) I I) I <| Ze <| Zf <| Z15 <| Z1a <| Z1a ?_
       refine Zy ?_
       refine Zy (Z1a ?_)
       refine Zy ?_
       have h := Option.some.inj h
       subst h
       refine (hret _ ?_).1
       exact ⟨[(.int .i64 11)], ⟨rfl, trivial⟩, rfl, trivial⟩
      ·have h := hif.2 hc
       refine Zg <| AWp.regionD mixed <| Z9 0 I (Zj (v := (.int .i64 v1)) I I) <| Z9 1 I (st_cmp (k := .i64) (a := v1) (b := 0) (c := (decide (v1 > 0))) I I I I) <| Z9 2 I (Zj (v := (.bool (decide (v1 > 0)))) I I) ?_
       have hif := of_if h
       refine AOpsD.split (fun hc => ?_) (fun hc => ?_)
       ·have h := hif.1 hc
        refine Zt 3 I I I I (Zo (m := 4) (o := 0) I f68_0 I I) <| Zt 4 I I I I (Zq (cs := (Z2 (a0.Services.getD v1.toNat Z4)).cells) (v := (.str (a0.Services.getD v1.toNat Z4).Name)) I o9 I I I) <| Zt 5 I I I I (Zo (m := 1) (o := 0) I f44_0 I I) <| Zt 6 I I I I (Zq (cs := (Z6 a0).cells) (v := (.sl 4 (a0.Services.map Z2) false)) I o41 I I I) <| Zt 7 I I I I (Zj (v := (.int .i64 v1)) I I) <| Zt 8 I I I I (st_arith (k := .i64) (a := v1) (b := 1) (c := (IntKind.i64.wrap (v1 - 1))) I I I I) ?_
        have ⟨hg41, h⟩ := Z16 h
        refine Zt 9 I I I I (st_index (k := .i64) (l := a0.Services) (enc := Z2) (z := Z4) (n := (IntKind.i64.wrap (v1 - 1))) (cs := (Z2 (a0.Services.getD (IntKind.i64.wrap (v1 - 1)).toNat Z4)).cells) (full := false) I s41 I I hg41 I) <| Zt 10 I I I I (st_fieldI (cs := (Z2 (a0.Services.getD (IntKind.i64.wrap (v1 - 1)).toNat Z4)).cells) (ds := (Z2 (a0.Services.getD (IntKind.i64.wrap (v1 - 1)).toNat Z4)).cells) I f68_0 I I I) <| Zt 11 I I I I (st_loadI (cs := (Z2 (a0.Services.getD (IntKind.i64.wrap (v1 - 1)).toNat Z4)).cells) (v := (.str (a0.Services.getD (IntKind.i64.wrap (v1 - 1)).toNat Z4).Name)) I o9 I I) <| Zt 12 I I I I (st_cmpS (a := (a0.Services.getD v1.toNat Z4).Name) (b := (a0.Services.getD (IntKind.i64.wrap (v1 - 1)).toNat Z4).Name) (c := (slt (a0.Services.getD v1.toNat Z4).Name (a0.Services.getD (IntKind.i64.wrap (v1 - 1)).toNat Z4).Name || (a0.Services.getD v1.toNat Z4).Name == (a0.Services.getD (IntKind.i64.wrap (v1 - 1)).toNat Z4).Name)) I I I I) <| Z9 13 I (st_pickT (v := (.bool (slt (a0.Services.getD v1.toNat Z4).Name (a0.Services.getD (IntKind.i64.wrap (v1 - 1)).toNat Z4).Name || (a0.Services.getD v1.toNat Z4).Name == (a0.Services.getD (IntKind.i64.wrap (v1 - 1)).toNat Z4).Name))) I I I) <| Z9 14 I (Zi (v := (.bool (slt (a0.Services.getD v1.toNat Z4).Name (a0.Services.getD (IntKind.i64.wrap (v1 - 1)).toNat Z4).Name || (a0.Services.getD v1.toNat Z4).Name == (a0.Services.getD (IntKind.i64.wrap (v1 - 1)).toNat Z4).Name))) I I) <| AOpsD.nil (by kernel_rfl) I <| Zf ?_
        have hif := of_if h
        refine Z12 I (fun hc => ?_) (fun hc => ?_)
        ·have h := hif.1 hc
         refine Zg <| Zd <| Z1 I (Zi (v := (.int .i64 8)) I I) I <| Ze <| Zf <| Z15 <| Z1a <| Z1a ?_
         refine Zy ?_
         refine Zy (Z1a ?_)
         refine Zy ?_
         have h := Option.some.inj h
         subst h
         refine (hret _ ?_).1
         exact ⟨[(.int .i64 8)], ⟨rfl, trivial⟩, rfl, trivial⟩
        ·have h := hif.2 hc
         refine Zg ?_
         refine AWp.join (V := Bool) (lp := fun v => F21_j43 K (F21_l2 K a0 (F21_c3 K a0) k2) v1 v = some r) (sh := fun v => ⟨[(1, (.ptr 1 0)), (16, (.sl 4 (a0.Services.map Z2) false)), (17, (.int .i64 (a0.Services.length : Int))), (18, (.int .i64 v1)), (43, (.bool v))], [(1, (.box (Z6 a0).cells))]⟩) ?_ ?_
         ·intro v h
          revert h
          revert v
          intro v42 h
          try dsimp only at h ⊢
          unfold F21_j43 at h
          refine Zf ?_
          have hif := of_if h
          refine Z12 I (fun hc => ?_) (fun hc => ?_)
          ·have h := hif.1 hc
           refine Zg <| Zd <| Z1 I (Zi (v := (.int .i64 2)) I I) I <| Ze <| Zf <| Z15 <| Z1a <| Z1a ?_
           refine Zy ?_
           refine Zy (Z1a ?_)
           refine Zy ?_
           have h := Option.some.inj h
           subst h
           refine (hret _ ?_).1
           exact ⟨[(.int .i64 2)], ⟨rfl, trivial⟩, rfl, trivial⟩
          ·have h := hif.2 hc
           refine Z19 ?_
           exact Zw (st' := ⟨[(1, (.ptr 1 0)), (16, (.sl 4 (a0.Services.map Z2) false)), (17, (.int .i64 (a0.Services.length : Int))), (18, (.int .i64 v1))], [(1, (.box (Z6 a0).cells))]⟩) ⟨rfl, rfl, rfl, rfl, trivial⟩ ⟨rfl, trivial⟩ (J40 () h)
         ·intro J43
          refine Zd <| Z1 I (Zo (m := 4) (o := 0) I f68_1 I I) I <| Z1 I (Zq (cs := (Z2 (a0.Services.getD v1.toNat Z4)).cells) (v := (.int .i64 (a0.Services.getD v1.toNat Z4).Spans)) I o3 I I I) I ?_
          have ⟨v45, hv45, h⟩ := Z18 h
          refine Z1 I (Z17 (ar := [(.int .i64 (a0.Services.getD v1.toNat Z4).Spans), (.int .i64 1), (.int .i64 1152921504606846976)]) (caps := []) Tryz.call57 (F57_ok K (a0.Services.getD v1.toNat Z4).Spans 1 1152921504606846976 v45 hv45) I I ⟨rfl, rfl, rfl, trivial⟩ I) I <| Z1 I (st_not (b := v45) I I) I <| Z1 I (Zj (v := (.bool (!v45))) I I) I ?_
          have hif := of_if h
          refine AOps.split (fun hc => ?_) (fun hc => ?_)
          ·have h := hif.1 hc
           refine Zn I I I I I I I <| Zn I I I I I I I <| Zn I I I I I I I <| Zn I I I I I I I <| Zn I I I I I I I <| Zn I I I I I I I <| Z1 I (st_pickT (v := (.bool true)) I I I) I <| Z1 I (Zj (v := (.bool true)) I I) I ?_
           refine Zn I I I I I I I <| Zn I I I I I I I <| Zn I I I I I I I <| Zn I I I I I I I <| Zn I I I I I I I <| Zn I I I I I I I <| Z1 I (st_pickT (v := (.bool true)) I I I) I <| Z1 I (Zi (v := (.bool true)) I I) I ?_
           refine Ze ?_
           exact Zw (st' := ⟨[(1, (.ptr 1 0)), (16, (.sl 4 (a0.Services.map Z2) false)), (17, (.int .i64 (a0.Services.length : Int))), (18, (.int .i64 v1)), (43, (.bool true))], [(1, (.box (Z6 a0).cells))]⟩) ⟨rfl, rfl, rfl, rfl, rfl, trivial⟩ ⟨rfl, trivial⟩ (J43 true h)
          ·have h := hif.2 hc
           refine Zp I I I I (Zo (m := 4) (o := 0) I f68_2 I I) I <| Zp I I I I (Zq (cs := (Z2 (a0.Services.getD v1.toNat Z4)).cells) (v := (.int .i64 (a0.Services.getD v1.toNat Z4).Errors)) I o3 I I I) I <| Zp I I I I (Zo (m := 4) (o := 0) I f68_1 I I) I <| Zp I I I I (Zq (cs := (Z2 (a0.Services.getD v1.toNat Z4)).cells) (v := (.int .i64 (a0.Services.getD v1.toNat Z4).Spans)) I o3 I I I) I ?_
           have ⟨v47, hv47, h⟩ := Z18 h
           refine Zp I I I I (Z17 (ar := [(.int .i64 (a0.Services.getD v1.toNat Z4).Errors), (.int .i64 0), (.int .i64 (a0.Services.getD v1.toNat Z4).Spans)]) (caps := []) Tryz.call57 (F57_ok K (a0.Services.getD v1.toNat Z4).Errors 0 (a0.Services.getD v1.toNat Z4).Spans v47 hv47) I I ⟨rfl, rfl, rfl, trivial⟩ I) I <| Zp I I I I (st_not (b := v47) I I) I <| Z1 I (st_pickF (v := (.bool (!v47))) I I I) I <| Z1 I (Zj (v := (.bool (!v47))) I I) I ?_
           have hif := of_if h
           refine AOps.split (fun hc => ?_) (fun hc => ?_)
           ·have h := hif.1 hc
            refine Zn I I I I I I I <| Zn I I I I I I I <| Zn I I I I I I I <| Zn I I I I I I I <| Zn I I I I I I I <| Zn I I I I I I I <| Z1 I (st_pickT (v := (.bool true)) I I I) I <| Z1 I (Zi (v := (.bool true)) I I) I ?_
            refine Ze ?_
            exact Zw (st' := ⟨[(1, (.ptr 1 0)), (16, (.sl 4 (a0.Services.map Z2) false)), (17, (.int .i64 (a0.Services.length : Int))), (18, (.int .i64 v1)), (43, (.bool true))], [(1, (.box (Z6 a0).cells))]⟩) ⟨rfl, rfl, rfl, rfl, rfl, trivial⟩ ⟨rfl, trivial⟩ (J43 true h)
           ·have h := hif.2 hc
            refine Zp I I I I (Zo (m := 4) (o := 0) I f68_3 I I) I <| Zp I I I I (Zq (cs := (Z2 (a0.Services.getD v1.toNat Z4)).cells) (v := (.int .i64 (a0.Services.getD v1.toNat Z4).Roots)) I o3 I I I) I <| Zp I I I I (Zo (m := 4) (o := 0) I f68_1 I I) I <| Zp I I I I (Zq (cs := (Z2 (a0.Services.getD v1.toNat Z4)).cells) (v := (.int .i64 (a0.Services.getD v1.toNat Z4).Spans)) I o3 I I I) I ?_
            have ⟨v49, hv49, h⟩ := Z18 h
            refine Zp I I I I (Z17 (ar := [(.int .i64 (a0.Services.getD v1.toNat Z4).Roots), (.int .i64 0), (.int .i64 (a0.Services.getD v1.toNat Z4).Spans)]) (caps := []) Tryz.call57 (F57_ok K (a0.Services.getD v1.toNat Z4).Roots 0 (a0.Services.getD v1.toNat Z4).Spans v49 hv49) I I ⟨rfl, rfl, rfl, trivial⟩ I) I <| Zp I I I I (st_not (b := v49) I I) I <| Z1 I (st_pickF (v := (.bool (!v49))) I I I) I <| Z1 I (Zi (v := (.bool (!v49))) I I) I <| Ze ?_
            exact Zw (st' := ⟨[(1, (.ptr 1 0)), (16, (.sl 4 (a0.Services.map Z2) false)), (17, (.int .i64 (a0.Services.length : Int))), (18, (.int .i64 v1)), (43, (.bool (!v49)))], [(1, (.box (Z6 a0).cells))]⟩) ⟨rfl, rfl, rfl, rfl, rfl, trivial⟩ ⟨rfl, trivial⟩ (J43 (!v49) h)
       ·have h := hif.2 hc
        refine Zs 3 I I I I I I I <| Zs 4 I I I I I I I <| Zs 5 I I I I I I I <| Zs 6 I I I I I I I <| Zs 7 I I I I I I I <| Zs 8 I I I I I I I <| Zs 9 I I I I I I I <| Zs 10 I I I I I I I ?_
        refine Zs 11 I I I I I I I <| Zs 12 I I I I I I I <| Z9 13 I (st_pickF (v := (.bool false)) I I I) <| Z9 14 I (Zi (v := (.bool false)) I I) <| AOpsD.nil (by kernel_rfl) I <| Zf ?_
        refine Z12 (b := false) I (fun hc => ?_) (fun hc => ?_)
        ·cases hc
        refine Zg ?_
        refine AWp.join (V := Bool) (lp := fun v => F21_j51 K (F21_l2 K a0 (F21_c3 K a0) k2) v1 v = some r) (sh := fun v => ⟨[(1, (.ptr 1 0)), (16, (.sl 4 (a0.Services.map Z2) false)), (17, (.int .i64 (a0.Services.length : Int))), (18, (.int .i64 v1)), (43, (.bool v))], [(1, (.box (Z6 a0).cells))]⟩) ?_ ?_
        ·intro v h
         revert h
         revert v
         intro v50 h
         try dsimp only at h ⊢
         unfold F21_j51 at h
         refine Zf ?_
         have hif := of_if h
         refine Z12 I (fun hc => ?_) (fun hc => ?_)
         ·have h := hif.1 hc
          refine Zg <| Zd <| Z1 I (Zi (v := (.int .i64 2)) I I) I <| Ze <| Zf <| Z15 <| Z1a <| Z1a ?_
          refine Zy ?_
          refine Zy (Z1a ?_)
          refine Zy ?_
          have h := Option.some.inj h
          subst h
          refine (hret _ ?_).1
          exact ⟨[(.int .i64 2)], ⟨rfl, trivial⟩, rfl, trivial⟩
         ·have h := hif.2 hc
          refine Z19 ?_
          exact Zw (st' := ⟨[(1, (.ptr 1 0)), (16, (.sl 4 (a0.Services.map Z2) false)), (17, (.int .i64 (a0.Services.length : Int))), (18, (.int .i64 v1))], [(1, (.box (Z6 a0).cells))]⟩) ⟨rfl, rfl, rfl, rfl, trivial⟩ ⟨rfl, trivial⟩ (J40 () h)
        ·intro J51
         refine Zd <| Z1 I (Zo (m := 4) (o := 0) I f68_1 I I) I <| Z1 I (Zq (cs := (Z2 (a0.Services.getD v1.toNat Z4)).cells) (v := (.int .i64 (a0.Services.getD v1.toNat Z4).Spans)) I o3 I I I) I ?_
         have ⟨v53, hv53, h⟩ := Z18 h
         refine Z1 I (Z17 (ar := [(.int .i64 (a0.Services.getD v1.toNat Z4).Spans), (.int .i64 1), (.int .i64 1152921504606846976)]) (caps := []) Tryz.call57 (F57_ok K (a0.Services.getD v1.toNat Z4).Spans 1 1152921504606846976 v53 hv53) I I ⟨rfl, rfl, rfl, trivial⟩ I) I <| Z1 I (st_not (b := v53) I I) I <| Z1 I (Zj (v := (.bool (!v53))) I I) I ?_
         have hif := of_if h
         refine AOps.split (fun hc => ?_) (fun hc => ?_)
         ·have h := hif.1 hc
          refine Zn I I I I I I I <| Zn I I I I I I I <| Zn I I I I I I I <| Zn I I I I I I I <| Zn I I I I I I I <| Zn I I I I I I I <| Z1 I (st_pickT (v := (.bool true)) I I I) I <| Z1 I (Zj (v := (.bool true)) I I) I ?_
          refine Zn I I I I I I I <| Zn I I I I I I I <| Zn I I I I I I I <| Zn I I I I I I I <| Zn I I I I I I I <| Zn I I I I I I I <| Z1 I (st_pickT (v := (.bool true)) I I I) I <| Z1 I (Zi (v := (.bool true)) I I) I ?_
          refine Ze ?_
          exact Zw (st' := ⟨[(1, (.ptr 1 0)), (16, (.sl 4 (a0.Services.map Z2) false)), (17, (.int .i64 (a0.Services.length : Int))), (18, (.int .i64 v1)), (43, (.bool true))], [(1, (.box (Z6 a0).cells))]⟩) ⟨rfl, rfl, rfl, rfl, rfl, trivial⟩ ⟨rfl, trivial⟩ (J51 true h)
         ·have h := hif.2 hc
          refine Zp I I I I (Zo (m := 4) (o := 0) I f68_2 I I) I <| Zp I I I I (Zq (cs := (Z2 (a0.Services.getD v1.toNat Z4)).cells) (v := (.int .i64 (a0.Services.getD v1.toNat Z4).Errors)) I o3 I I I) I <| Zp I I I I (Zo (m := 4) (o := 0) I f68_1 I I) I <| Zp I I I I (Zq (cs := (Z2 (a0.Services.getD v1.toNat Z4)).cells) (v := (.int .i64 (a0.Services.getD v1.toNat Z4).Spans)) I o3 I I I) I ?_
          have ⟨v55, hv55, h⟩ := Z18 h
          refine Zp I I I I (Z17 (ar := [(.int .i64 (a0.Services.getD v1.toNat Z4).Errors), (.int .i64 0), (.int .i64 (a0.Services.getD v1.toNat Z4).Spans)]) (caps := []) Tryz.call57 (F57_ok K (a0.Services.getD v1.toNat Z4).Errors 0 (a0.Services.getD v1.toNat Z4).Spans v55 hv55) I I ⟨rfl, rfl, rfl, trivial⟩ I) I <| Zp I I I I (st_not (b := v55) I I) I <| Z1 I (st_pickF (v := (.bool (!v55))) I I I) I <| Z1 I (Zj (v := (.bool (!v55))) I I) I ?_
          have hif := of_if h
          refine AOps.split (fun hc => ?_) (fun hc => ?_)
          ·have h := hif.1 hc
           refine Zn I I I I I I I <| Zn I I I I I I I <| Zn I I I I I I I <| Zn I I I I I I I <| Zn I I I I I I I <| Zn I I I I I I I <| Z1 I (st_pickT (v := (.bool true)) I I I) I <| Z1 I (Zi (v := (.bool true)) I I) I ?_
           refine Ze ?_
           exact Zw (st' := ⟨[(1, (.ptr 1 0)), (16, (.sl 4 (a0.Services.map Z2) false)), (17, (.int .i64 (a0.Services.length : Int))), (18, (.int .i64 v1)), (43, (.bool true))], [(1, (.box (Z6 a0).cells))]⟩) ⟨rfl, rfl, rfl, rfl, rfl, trivial⟩ ⟨rfl, trivial⟩ (J51 true h)
          ·have h := hif.2 hc
           refine Zp I I I I (Zo (m := 4) (o := 0) I f68_3 I I) I <| Zp I I I I (Zq (cs := (Z2 (a0.Services.getD v1.toNat Z4)).cells) (v := (.int .i64 (a0.Services.getD v1.toNat Z4).Roots)) I o3 I I I) I <| Zp I I I I (Zo (m := 4) (o := 0) I f68_1 I I) I <| Zp I I I I (Zq (cs := (Z2 (a0.Services.getD v1.toNat Z4)).cells) (v := (.int .i64 (a0.Services.getD v1.toNat Z4).Spans)) I o3 I I I) I ?_
           have ⟨v57, hv57, h⟩ := Z18 h
           refine Zp I I I I (Z17 (ar := [(.int .i64 (a0.Services.getD v1.toNat Z4).Roots), (.int .i64 0), (.int .i64 (a0.Services.getD v1.toNat Z4).Spans)]) (caps := []) Tryz.call57 (F57_ok K (a0.Services.getD v1.toNat Z4).Roots 0 (a0.Services.getD v1.toNat Z4).Spans v57 hv57) I I ⟨rfl, rfl, rfl, trivial⟩ I) I <| Zp I I I I (st_not (b := v57) I I) I <| Z1 I (st_pickF (v := (.bool (!v57))) I I I) I <| Z1 I (Zi (v := (.bool (!v57))) I I) I <| Ze ?_
           exact Zw (st' := ⟨[(1, (.ptr 1 0)), (16, (.sl 4 (a0.Services.map Z2) false)), (17, (.int .i64 (a0.Services.length : Int))), (18, (.int .i64 v1)), (43, (.bool (!v57)))], [(1, (.box (Z6 a0).cells))]⟩) ⟨rfl, rfl, rfl, rfl, rfl, trivial⟩ ⟨rfl, trivial⟩ (J51 (!v57) h)
    ·have h := hif.2 hc
     refine AWp.exit <| At.thru ?_
     exact Zw (st' := ⟨[(1, (.ptr 1 0))], [(1, (.box (Z6 a0).cells))]⟩) ⟨rfl, trivial⟩ ⟨rfl, trivial⟩ (J2 () h)
end Go.AM.TopZ
