/- What these functions compute, each with its walk: F12, F82, F153, F122, F154, F123, F124, F83, F39, F13. -/
import Derived.Test.YtkhbjnkckblkjaaGreatTopZT
namespace Go.AM.TopZ
open Go Go.AM Go.Proofs
set_option maxRecDepth 100000
set_option maxHeartbeats 2000000
def Zdu (K : Nat) (a0 : Zy) : Option (Bool) :=
 if (decide ((a0.Trees.length : Int) ≤ 3)) = true then
  some (decide ((a0.Syncs.length : Int) ≤ 6))
 else
  some false
def Zbw (K : Nat) (a0 : Zy) (c4 : Option (Bool)) : Nat → Int → Option (Bool)
 | 0, _ => none
 | k2 + 1, v1 =>
  if (decide (v1 < (a0.Trees.length : Int))) = true then
   if (0 : Int) ≤ v1 ∧ v1 < a0.Trees.length then
    if (decide (((a0.Trees.getD v1.toNat Z7).Calls.length : Int) > 8)) = true then
     some false
    else
     (Zbw K a0 c4 k2) (IntKind.i64.wrap (v1 + 1))
   else none
  else
   c4
def F12 (K : Nat) (a0 : Zy) : Option (Bool) :=
 Zbw K a0 (Zdu K a0) K 0
theorem F12_ok (K : Nat) (a0 : Zy) (r : Bool) (h : F12 K a0 = some r) : ACall P 12 ⟨[(Zo a0)], [], (.bool r), [], []⟩ := by
 refine Z1v Tryz.func12 Tryz.results12 rfl Tryz.ntmps12 rfl rfl rfl ?_
 intro E Q hP hN hro hret
 obtain ⟨P', nt', w0, F0, p0, S0, β0, ro0⟩ := E
 simp only at hP hN
 subst hP hN
 dsimp only [argT]
 unfold F12 at h
 refine Zl <| Zd <| Z2 I (Z2s (v := (Zo a0)) (cs := (Zo a0).cells) I I I I I) I <| Z2 I (Zq (v := (.bool false)) I I) I <| Zi <| Zj <| Zl <| Zl ?_
 refine Zd <| Z2 I (Zq (v := (.int .i64 0)) I I) I <| Zi <| Zj <| AWp.weaken (st' := ⟨[(1, (.ptr 1 0)), (3, (.int .i64 0))], [(1, (.box (Zo a0).cells))]⟩) ⟨rfl, rfl, trivial⟩ ⟨rfl, trivial⟩ ?_
 refine Z1l (V := Int) (X := Unit) (lp := fun k v => Zbw K a0 (Zdu K a0) k v = some r) (sh := fun v => ⟨[(1, (.ptr 1 0)), (3, (.int .i64 v))], [(1, (.box (Zo a0).cells))]⟩) (x := fun v => Zdu K a0 = some r) (shx := fun v => ⟨[(1, (.ptr 1 0))], [(1, (.box (Zo a0).cells))]⟩) (k := K) (v := 0) h ?_ ?_
 ·intro v h
  try dsimp only at h ⊢
  unfold Zdu at h
  refine Zj <| Zl <| Zd <| Z2 I (Zu (m := 1) (o := 0) I f27_0 I I) I <| Z2 I (Zz (cs := (Zo a0).cells) (v := (.sl 3 (a0.Trees.map Zw) false)) I o22 I I I) I <| Z2 I (Z23 (l := a0.Trees) (enc := Zw) I s22 I) I <| Z2 I (Z1y (k := .i64) (a := (a0.Trees.length : Int)) (b := 3) (c := (decide ((a0.Trees.length : Int) ≤ 3))) I I I I) I <| Z2 I (Zn (v := (.bool (decide ((a0.Trees.length : Int) ≤ 3)))) I I) I ?_
  have hif := Z21 h
  refine AOps.split (fun hc => ?_) (fun hc => ?_)
  ·have h := hif.1 hc
   refine Z17 I I I I (Zu (m := 1) (o := 0) I f27_2 I I) I <| Z17 I I I I (Zz (cs := (Zo a0).cells) (v := (.sl 5 (a0.Syncs.map Z2t) false)) I o25 I I I) I <| Z17 I I I I (Z23 (l := a0.Syncs) (enc := Z2t) I s25 I) I <| Z17 I I I I (Z1y (k := .i64) (a := (a0.Syncs.length : Int)) (b := 6) (c := (decide ((a0.Syncs.length : Int) ≤ 6))) I I I I) I <| Z2 I (Z2f (v := (.bool (decide ((a0.Syncs.length : Int) ≤ 6)))) I I I) I <| Z2 I (Zq (v := (.bool (decide ((a0.Syncs.length : Int) ≤ 6)))) I I) I <| Zi <| Zj ?_
   refine Z1g ?_
   have h := Option.some.inj h
   subst h
   refine (hret _ ?_).1
   exact ⟨[(.bool (decide ((a0.Syncs.length : Int) ≤ 6)))], ⟨rfl, trivial⟩, rfl, trivial⟩
  ·have h := hif.2 hc
   refine Z13 I I I I I I I <| Z13 I I I I I I I <| Z13 I I I I I I I <| Z13 I I I I I I I <| Z2 I (Z20 (v := (.bool false)) I I I) I <| Z2 I (Zq (v := (.bool false)) I I) I <| Zi <| Zj ?_
   refine Z1g ?_
   have h := Option.some.inj h
   subst h
   refine (hret _ ?_).1
   exact ⟨[(.bool false)], ⟨rfl, trivial⟩, rfl, trivial⟩
 ·intro N k2 v h IH2 J2
  revert h
  revert v
  intro v1 h
  try dsimp only at h IH2 J2 ⊢
  cases k2 with
  | zero => cases h
  | succ k2 =>
   rw [Zbw] at h
   refine Zl <| Zl <| Zd <| Z2 I (Zn (v := (.int .i64 v1)) I I) I <| Z2 I (Zu (m := 1) (o := 0) I f27_0 I I) I <| Z2 I (Zz (cs := (Zo a0).cells) (v := (.sl 3 (a0.Trees.map Zw) false)) I o22 I I I) I <| Z2 I (Z23 (l := a0.Trees) (enc := Zw) I s22 I) I <| Z2 I (Z1y (k := .i64) (a := v1) (b := (a0.Trees.length : Int)) (c := (decide (v1 < (a0.Trees.length : Int)))) I I I I) I ?_
   refine Zi <| Zj ?_
   have hif := Z21 h
   refine Z18 I (fun hc => ?_) (fun hc => ?_)
   ·have h := hif.1 hc
    refine Z1b <| Zj <| Zl <| AWp.block <| Zl <| Zd <| Z2 I (Zu (m := 1) (o := 0) I f27_0 I I) I <| Z2 I (Zz (cs := (Zo a0).cells) (v := (.sl 3 (a0.Trees.map Zw) false)) I o22 I I I) I ?_
    refine Z2 I (Zn (v := (.int .i64 v1)) I I) I ?_
    have ⟨hg6, h⟩ := Z14 h
    refine Z2 I (Z1s (k := .i64) (l := a0.Trees) (enc := Zw) (z := Z7) (n := v1) (cs := (Zw (a0.Trees.getD v1.toNat Z7)).cells) (full := false) I s22 I I hg6 I) I <| Z2 I (Z2d (cs := (Zw (a0.Trees.getD v1.toNat Z7)).cells) (ds := [(.sl 11 ((a0.Trees.getD v1.toNat Z7).Calls.map Zp) false)]) I Z6w I I I) I <| Z2 I (Z24 (cs := [(.sl 11 ((a0.Trees.getD v1.toNat Z7).Calls.map Zp) false)]) (v := (.sl 11 ((a0.Trees.getD v1.toNat Z7).Calls.map Zp) false)) I o103 I I) I <| Z2 I (Z23 (l := (a0.Trees.getD v1.toNat Z7).Calls) (enc := Zp) I s103 I) I <| Z2 I (Z1y (k := .i64) (a := ((a0.Trees.getD v1.toNat Z7).Calls.length : Int)) (b := 8) (c := (decide (((a0.Trees.getD v1.toNat Z7).Calls.length : Int) > 8))) I I I I) I <| Zi <| Zj ?_
    have hif := Z21 h
    refine Z18 I (fun hc => ?_) (fun hc => ?_)
    ·have h := hif.1 hc
     refine Zl <| Zd <| Z2 I (Zq (v := (.bool false)) I I) I <| Zi <| Zj <| Z1g <| At.overR <| Z1o ?_
     refine Z1o (At.overR ?_)
     refine Z1o ?_
     have h := Option.some.inj h
     subst h
     refine (hret _ ?_).1
     exact ⟨[(.bool false)], ⟨rfl, trivial⟩, rfl, trivial⟩
    ·have h := hif.2 hc
     refine Z1b <| At.end <| Zj <| Zd <| Z2 I (Zn (v := (.int .i64 v1)) I I) I <| Z2 I (Z1m (k := .i64) (a := v1) (b := 1) (c := (IntKind.i64.wrap (v1 + 1))) I I I I) I <| Z2 I (Zq (v := (.int .i64 (IntKind.i64.wrap (v1 + 1)))) I I) I <| Zi ?_
     exact Z11 (st' := ⟨[(1, (.ptr 1 0)), (3, (.int .i64 (IntKind.i64.wrap (v1 + 1))))], [(1, (.box (Zo a0).cells))]⟩) ⟨rfl, rfl, trivial⟩ ⟨rfl, trivial⟩ (IH2 _ (IntKind.i64.wrap (v1 + 1)) (Nat.lt_succ_self _) h)
   ·have h := hif.2 hc
    refine AWp.exit <| At.thru ?_
    exact Z11 (st' := ⟨[(1, (.ptr 1 0))], [(1, (.box (Zo a0).cells))]⟩) ⟨rfl, trivial⟩ ⟨rfl, trivial⟩ (J2 () h)
def F82 (K : Nat) (a0 : Zy) (a1 : Int) : Option (Int) :=
 if (0 : Int) ≤ a1 ∧ a1 < a0.Trees.length then
  if (0 : Int) ≤ 20 then
   some (IntKind.i64.wrap ((IntKind.i64.wrap ((IntKind.i64.wrap ((IntKind.i64.wrap ((a0.Trees.getD a1.toNat Z7).Slot.tmod 64)) * 2 ^ (min (20 : Int).toNat IntKind.i64.bits))) + 1)) + a1))
  else none
 else none
theorem F82_ok (K : Nat) (a0 : Zy) (a1 : Int) (r : Int) (h : F82 K a0 a1 = some r) : ACall P 82 ⟨[(Zo a0), (.int .i64 a1)], [], (.int .i64 r), [], []⟩ := by
 refine Z1v Tryz.func82 Tryz.results82 rfl Tryz.ntmps82 rfl rfl rfl ?_
 intro E Q hP hN hro hret
 obtain ⟨P', nt', w0, F0, p0, S0, β0, ro0⟩ := E
 simp only at hP hN
 subst hP hN
 dsimp only [argT]
 unfold F82 at h
 refine Zl <| Zd <| Z2 I (Z2s (v := (Zo a0)) (cs := (Zo a0).cells) I I I I I) I <| Z2 I (Zq (v := (.int .i64 0)) I I) I <| Zi <| Zj <| Zl <| Zd ?_
 refine Z2 I (Zu (m := 2) (o := 0) I f27_0 I I) I <| Z2 I (Zz (cs := (Zo a0).cells) (v := (.sl 3 (a0.Trees.map Zw) false)) I o22 I I I) I <| Z2 I (Zn (v := (.int .i64 a1)) I I) I ?_
 have ⟨hg1, h⟩ := Z14 h
 refine Z2 I (Z1s (k := .i64) (l := a0.Trees) (enc := Zw) (z := Z7) (n := a1) (cs := (Zw (a0.Trees.getD a1.toNat Z7)).cells) (full := false) I s22 I I hg1 I) I <| Z2 I (Z2d (cs := (Zw (a0.Trees.getD a1.toNat Z7)).cells) (ds := (Zw (a0.Trees.getD a1.toNat Z7)).cells) I f105_0 I I I) I <| Z2 I (Z24 (cs := (Zw (a0.Trees.getD a1.toNat Z7)).cells) (v := (.int .u8 (a0.Trees.getD a1.toNat Z7).Slot)) I o5 I I) I <| Z2 I (Z39 (k := .u8) (a := (a0.Trees.getD a1.toNat Z7).Slot) (b := 64) (c := ((a0.Trees.getD a1.toNat Z7).Slot.tmod 64)) I I I I (by decide)) I <| Z2 I (Z3c I us5 u3 I) I ?_
 have ⟨hg2, h⟩ := Z14 h
 refine Z2 I (st_shift (k := .i64) (j := .u64) (a := (IntKind.i64.wrap ((a0.Trees.getD a1.toNat Z7).Slot.tmod 64))) (b := 20) (c := (IntKind.i64.wrap ((IntKind.i64.wrap ((a0.Trees.getD a1.toNat Z7).Slot.tmod 64)) * 2 ^ (min (20 : Int).toNat IntKind.i64.bits)))) I I I I hg2) I <| Z2 I (Z1m (k := .i64) (a := (IntKind.i64.wrap ((IntKind.i64.wrap ((a0.Trees.getD a1.toNat Z7).Slot.tmod 64)) * 2 ^ (min (20 : Int).toNat IntKind.i64.bits)))) (b := 1) (c := (IntKind.i64.wrap ((IntKind.i64.wrap ((IntKind.i64.wrap ((a0.Trees.getD a1.toNat Z7).Slot.tmod 64)) * 2 ^ (min (20 : Int).toNat IntKind.i64.bits))) + 1))) I I I I) I <| Z2 I (Zn (v := (.int .i64 a1)) I I) I <| Z2 I (Z1m (k := .i64) (a := (IntKind.i64.wrap ((IntKind.i64.wrap ((IntKind.i64.wrap ((a0.Trees.getD a1.toNat Z7).Slot.tmod 64)) * 2 ^ (min (20 : Int).toNat IntKind.i64.bits))) + 1))) (b := a1) (c := (IntKind.i64.wrap ((IntKind.i64.wrap ((IntKind.i64.wrap ((IntKind.i64.wrap ((a0.Trees.getD a1.toNat Z7).Slot.tmod 64)) * 2 ^ (min (20 : Int).toNat IntKind.i64.bits))) + 1)) + a1))) I I I I) I <| Z2 I (Zq (v := (.int .i64 (IntKind.i64.wrap ((IntKind.i64.wrap ((IntKind.i64.wrap ((IntKind.i64.wrap ((a0.Trees.getD a1.toNat Z7).Slot.tmod 64)) * 2 ^ (min (20 : Int).toNat IntKind.i64.bits))) + 1)) + a1)))) I I) I <| Zi <| Zj <| Z1g ?_
 have h := Option.some.inj h
 subst h
 refine (hret _ ?_).1
 exact ⟨[(.int .i64 (IntKind.i64.wrap ((IntKind.i64.wrap ((IntKind.i64.wrap ((IntKind.i64.wrap ((a0.Trees.getD a1.toNat Z7).Slot.tmod 64)) * 2 ^ (min (20 : Int).toNat IntKind.i64.bits))) + 1)) + a1)))], ⟨rfl, trivial⟩, rfl, trivial⟩
def F153 (K : Nat) (a0 : Z1w) : Option (Int) :=
 some (IntKind.i64.wrap (1 + (IntKind.i64.wrap (a0.Kind.tmod 5))))
theorem F153_ok (K : Nat) (a0 : Z1w) (r : Int) (h : F153 K a0 = some r) : ACall P 153 ⟨[(Zp a0)], [], (.int .i64 r), [], []⟩ := by
 refine Z1v Tryz.func153 Tryz.results153 rfl Tryz.ntmps153 rfl rfl rfl ?_
 intro E Q hP hN hro hret
 obtain ⟨P', nt', w0, F0, p0, S0, β0, ro0⟩ := E
 simp only at hP hN
 subst hP hN
 dsimp only [argT]
 unfold F153 at h
 refine Zl <| Zd <| Z2 I (Z2s (v := (Zp a0)) (cs := (Zp a0).cells) I I I I I) I <| Z2 I (Zq (v := (.int .i64 0)) I I) I <| Zi <| Zj <| Zl <| Zd ?_
 refine Z2 I (Zu (m := 1) (o := 0) I f241_2 I I) I <| Z2 I (Zz (cs := (Zp a0).cells) (v := (.int .u8 a0.Kind)) I o5 I I I) I <| Z2 I (Z39 (k := .u8) (a := a0.Kind) (b := 5) (c := (a0.Kind.tmod 5)) I I I I (by decide)) I <| Z2 I (Z3c I us5 u3 I) I <| Z2 I (Z1m (k := .i64) (a := 1) (b := (IntKind.i64.wrap (a0.Kind.tmod 5))) (c := (IntKind.i64.wrap (1 + (IntKind.i64.wrap (a0.Kind.tmod 5))))) I I I I) I <| Z2 I (Zq (v := (.int .i64 (IntKind.i64.wrap (1 + (IntKind.i64.wrap (a0.Kind.tmod 5)))))) I I) I <| Zi <| Zj ?_
 refine Z1g ?_
 have h := Option.some.inj h
 subst h
 refine (hret _ ?_).1
 exact ⟨[(.int .i64 (IntKind.i64.wrap (1 + (IntKind.i64.wrap (a0.Kind.tmod 5)))))], ⟨rfl, trivial⟩, rfl, trivial⟩
def Z55 (K : Nat) (v5 : (List Int)) (v12 : (List Int)) : Option ((List Int) × (List Int)) :=
 some (v5, v12)
def Z7g (K : Nat) (b15 : Int → (List Int) → Option ((List Int) × (List Int))) (v9 : Int) (v20 : (List Int)) : Option ((List Int) × (List Int)) :=
 b15 (IntKind.i64.wrap (v9 - 1)) v20
def Z4j (K : Nat) (a0 : Z15) (v9 : Int) (v10 : (List Int)) (b15 : Int → (List Int) → Option ((List Int) × (List Int))) (v18 : Bool) : Option ((List Int) × (List Int)) :=
 if v18 = true then
  if (0 : Int) ≤ ((IntKind.i64.wrap (a0.Calls.getD v9.toNat Z4).Parent).tmod (IntKind.i64.wrap (v9 + 1))) ∧ ((IntKind.i64.wrap (a0.Calls.getD v9.toNat Z4).Parent).tmod (IntKind.i64.wrap (v9 + 1))) < (v10.length : Nat) then
   if ((IntKind.i64.wrap (a0.Calls.getD v9.toNat Z4).Parent).tmod (IntKind.i64.wrap (v9 + 1))).toNat < v10.length then
    if (0 : Int) ≤ v9 ∧ v9 < (v10.length : Nat) then
     if v9.toNat < v10.length then
      if (0 : Int) ≤ ((IntKind.i64.wrap (a0.Calls.getD v9.toNat Z4).Parent).tmod (IntKind.i64.wrap (v9 + 1))) ∧ ((IntKind.i64.wrap (a0.Calls.getD v9.toNat Z4).Parent).tmod (IntKind.i64.wrap (v9 + 1))) < (v10.length : Nat) then
       if ((IntKind.i64.wrap (a0.Calls.getD v9.toNat Z4).Parent).tmod (IntKind.i64.wrap (v9 + 1))).toNat < v10.length then
        Z7g K b15 v9 (v10.set ((IntKind.i64.wrap (a0.Calls.getD v9.toNat Z4).Parent).tmod (IntKind.i64.wrap (v9 + 1))).toNat (if (v10.getD v9.toNat 0) > (v10.getD ((IntKind.i64.wrap (a0.Calls.getD v9.toNat Z4).Parent).tmod (IntKind.i64.wrap (v9 + 1))).toNat 0) then (v10.getD v9.toNat 0) else (v10.getD ((IntKind.i64.wrap (a0.Calls.getD v9.toNat Z4).Parent).tmod (IntKind.i64.wrap (v9 + 1))).toNat 0)))
       else none
      else none
     else none
    else none
   else none
  else none
 else
  Z7g K b15 v9 v10
def Z3e (K : Nat) (a0 : Z15) (c14 : (List Int) → Option ((List Int) × (List Int))) : Nat → Int → (List Int) → Option ((List Int) × (List Int))
 | 0, _, _ => none
 | k11 + 1, v9, v10 =>
  if (decide (v9 > 0)) = true then
   if (0 : Int) ≤ v9 ∧ v9 < a0.Calls.length then
    if (IntKind.i64.wrap (v9 + 1)) ≠ 0 then
     if (decide (((IntKind.i64.wrap (a0.Calls.getD v9.toNat Z4).Parent).tmod (IntKind.i64.wrap (v9 + 1))) < v9)) = true then
      if (0 : Int) ≤ v9 ∧ v9 < a0.Calls.length then
       (F153 K (a0.Calls.getD v9.toNat Z4)).bind fun v30 =>
        if (v30 == 3) = true then
         if (0 : Int) ≤ ((IntKind.i64.wrap (a0.Calls.getD v9.toNat Z4).Parent).tmod (IntKind.i64.wrap (v9 + 1))) ∧ ((IntKind.i64.wrap (a0.Calls.getD v9.toNat Z4).Parent).tmod (IntKind.i64.wrap (v9 + 1))) < a0.Calls.length then
          (F153 K (a0.Calls.getD ((IntKind.i64.wrap (a0.Calls.getD v9.toNat Z4).Parent).tmod (IntKind.i64.wrap (v9 + 1))).toNat Z4)).bind fun v33 =>
           if (v33 == 2) = true then
            if (0 : Int) ≤ ((IntKind.i64.wrap (a0.Calls.getD v9.toNat Z4).Parent).tmod (IntKind.i64.wrap (v9 + 1))) ∧ ((IntKind.i64.wrap (a0.Calls.getD v9.toNat Z4).Parent).tmod (IntKind.i64.wrap (v9 + 1))) < a0.Calls.length then
             Z4j K a0 v9 v10 (Z3e K a0 c14 k11) (!(a0.Calls.getD ((IntKind.i64.wrap (a0.Calls.getD v9.toNat Z4).Parent).tmod (IntKind.i64.wrap (v9 + 1))).toNat Z4).Fail)
            else none
           else
            Z4j K a0 v9 v10 (Z3e K a0 c14 k11) false
         else none
        else
         Z4j K a0 v9 v10 (Z3e K a0 c14 k11) false
      else none
     else
      Z4j K a0 v9 v10 (Z3e K a0 c14 k11) false
    else none
   else none
  else
   c14 v10
def Z6s (K : Nat) (a0 : Z15) (v5 : (List Int)) (v6 : (List Int)) : Option ((List Int) × (List Int)) :=
 Z3e K a0 (Z55 K v5) K (IntKind.i64.wrap ((a0.Calls.length : Int) - 1)) v6
def Z76 (K : Nat) (v2 : (List Int)) (v3 : (List Int)) (a0 : Z15) (v1 : Int) (b35 : Int → (List Int) → (List Int) → Option ((List Int) × (List Int))) (v40 : Int) : Option ((List Int) × (List Int)) :=
 if v2.length + [v40].length ≤ 1073741824 then
  if v3.length + [(IntKind.i64.wrap (v40 + (IntKind.i64.wrap ((a0.Calls.getD v1.toNat Z4).Long.tmod 32))))].length ≤ 1073741824 then
   b35 (IntKind.i64.wrap (v1 + 1)) (v2 ++ [v40]) (v3 ++ [(IntKind.i64.wrap (v40 + (IntKind.i64.wrap ((a0.Calls.getD v1.toNat Z4).Long.tmod 32))))])
  else none
 else none
def Z7e (K : Nat) (v1 : Int) (v2 : (List Int)) (v3 : (List Int)) (a0 : Z15) (b35 : Int → (List Int) → (List Int) → Option ((List Int) × (List Int))) (v38 : Int) : Option ((List Int) × (List Int)) :=
 if (decide (v1 > 0)) = true then
  Z76 K v2 v3 a0 v1 b35 (IntKind.i64.wrap (v38 + (IntKind.i64.wrap ((a0.Calls.getD v1.toNat Z4).Wait.tmod 32))))
 else
  Z76 K v2 v3 a0 v1 b35 v38
def Z4h (K : Nat) (a0 : Z15) (c8 : (List Int) → (List Int) → Option ((List Int) × (List Int))) : Nat → Int → (List Int) → (List Int) → Option ((List Int) × (List Int))
 | 0, _, _, _ => none
 | k4 + 1, v1, v2, v3 =>
  if (decide (v1 < (a0.Calls.length : Int))) = true then
   if (0 : Int) ≤ v1 ∧ v1 < a0.Calls.length then
    if (IntKind.i64.wrap (v1 + 1)) ≠ 0 then
     if (decide (((IntKind.i64.wrap (a0.Calls.getD v1.toNat Z4).Parent).tmod (IntKind.i64.wrap (v1 + 1))) < v1)) = true then
      if (0 : Int) ≤ ((IntKind.i64.wrap (a0.Calls.getD v1.toNat Z4).Parent).tmod (IntKind.i64.wrap (v1 + 1))) ∧ ((IntKind.i64.wrap (a0.Calls.getD v1.toNat Z4).Parent).tmod (IntKind.i64.wrap (v1 + 1))) < (v2.length : Nat) then
       if ((IntKind.i64.wrap (a0.Calls.getD v1.toNat Z4).Parent).tmod (IntKind.i64.wrap (v1 + 1))).toNat < v2.length then
        Z7e K v1 v2 v3 a0 (Z4h K a0 c8 k4) (v2.getD ((IntKind.i64.wrap (a0.Calls.getD v1.toNat Z4).Parent).tmod (IntKind.i64.wrap (v1 + 1))).toNat 0)
       else none
      else none
     else
      Z7e K v1 v2 v3 a0 (Z4h K a0 c8 k4) (IntKind.i64.wrap (1000 + (IntKind.i64.wrap (a0.Start.tmod 32))))
    else none
   else none
  else
   c8 v2 v3
def F122 (K : Nat) (a0 : Z15) : Option ((List Int) × (List Int)) :=
 Z4h K a0 (Z6s K a0) K 0 [] []
theorem F122_ok (K : Nat) (a0 : Z15) (r : (List Int) × (List Int)) (h : F122 K a0 = some r) : ACall P 122 ⟨[(Zw a0)], [], (.tup [(.sl 1 (r.1.map Z1f) false), (.sl 1 (r.2.map Z1f) false)]), [], []⟩ := by
 refine Z1v Tryz.func122 Tryz.results122 rfl Tryz.ntmps122 rfl rfl rfl ?_
 intro E Q hP hN hro hret
 obtain ⟨P', nt', w0, F0, p0, S0, β0, ro0⟩ := E
 simp only at hP hN
 subst hP hN
 dsimp only [argT]
 unfold F122 at h
 refine Zl <| Zd <| Z2 I (Z2s (v := (Zw a0)) (cs := (Zw a0).cells) I I I I I) I <| Z2 I (Zq (v := (.sl 1 [] true)) I I) I <| Z2 I (Zq (v := (.sl 1 [] true)) I I) I <| Zi <| Zj <| Zl ?_
 refine Zl <| Zd <| Z2 I (Zq (v := (.int .i64 0)) I I) I <| Zi <| Zj <| AWp.ghost (st' := ⟨[(1, (.ptr 1 0)), (2, (.vs 2)), (3, (.vs 3)), (4, (.int .i64 0))], [(1, (.box (Zw a0).cells)), (2, (.vec 1 (List.map Z1f ([] : List Int)))), (3, (.vec 1 (List.map Z1f ([] : List Int))))]⟩) (fun a w h => (Z1d ⟨[(1, (.ptr 1 0)), (2, (.vs 2)), (3, (.vs 3)), (4, (.int .i64 0))], [(1, (.box (Zw a0).cells)), (2, (.vec 1 (List.map Z1f ([] : List Int)))), (3, (.vec 1 (List.map Z1f ([] : List Int))))]⟩ (Z4d (k := 3) (m := 3) (sz := 1) I I a w (Z1d ⟨[(3, (.sl 1 [] true)), (1, (.ptr 1 0)), (2, (.vs 2)), (4, (.int .i64 0))], [(1, (.box (Zw a0).cells)), (2, (.vec 1 (List.map Z1f ([] : List Int))))]⟩ (Z1d ⟨[(1, (.ptr 1 0)), (2, (.vs 2)), (3, (.sl 1 [] true)), (4, (.int .i64 0))], [(1, (.box (Zw a0).cells)), (2, (.vec 1 (List.map Z1f ([] : List Int))))]⟩ (Z4d (k := 2) (m := 2) (sz := 1) I I a w (Z1d ⟨[(2, (.sl 1 [] true)), (1, (.ptr 1 0)), (3, (.sl 1 [] true)), (4, (.int .i64 0))], [(1, (.box (Zw a0).cells))]⟩ h ⟨rfl, rfl, rfl, rfl, trivial⟩ ⟨rfl, trivial⟩)) ⟨rfl, rfl, rfl, rfl, trivial⟩ ⟨rfl, rfl, trivial⟩) ⟨rfl, rfl, rfl, rfl, trivial⟩ ⟨rfl, rfl, trivial⟩)) ⟨rfl, rfl, rfl, rfl, trivial⟩ ⟨rfl, rfl, rfl, trivial⟩)) <| AWp.weaken (st' := ⟨[(1, (.ptr 1 0)), (2, (.vs 2)), (3, (.vs 3)), (4, (.int .i64 0))], [(1, (.box (Zw a0).cells)), (2, (.vec 1 (List.map Z1f []))), (3, (.vec 1 (List.map Z1f [])))]⟩) ⟨rfl, rfl, rfl, rfl, trivial⟩ ⟨rfl, rfl, rfl, trivial⟩ ?_
 refine Z1l (V := Int × (List Int) × (List Int)) (X := (List Int) × (List Int)) (lp := fun k v => Z4h K a0 (Z6s K a0) k v.1 v.2.1 v.2.2 = some r) (sh := fun v => ⟨[(1, (.ptr 1 0)), (2, (.vs 2)), (3, (.vs 3)), (4, (.int .i64 v.1))], [(1, (.box (Zw a0).cells)), (2, (.vec 1 (List.map Z1f v.2.1))), (3, (.vec 1 (List.map Z1f v.2.2)))]⟩) (x := fun v => Z6s K a0 v.1 v.2 = some r) (shx := fun v => ⟨[(1, (.ptr 1 0)), (2, (.vs 2)), (3, (.vs 3))], [(1, (.box (Zw a0).cells)), (2, (.vec 1 (List.map Z1f v.1))), (3, (.vec 1 (List.map Z1f v.2)))]⟩) (k := K) (v := (0, [], [])) h ?_ ?_
 ·intro v h
  obtain ⟨v5, v6⟩ := v
  try dsimp only at h ⊢
  unfold Z6s at h
  refine Zj <| Zl <| Zl <| Zd <| Z2 I (Zu (m := 1) (o := 0) I Z6w I I) I <| Z2 I (Zz (cs := (Zw a0).cells) (v := (.sl 11 (a0.Calls.map Zp) false)) I o103 I I I) I <| Z2 I (Z23 (l := a0.Calls) (enc := Zp) I s103 I) I <| Z2 I (Z1m (k := .i64) (a := (a0.Calls.length : Int)) (b := 1) (c := (IntKind.i64.wrap ((a0.Calls.length : Int) - 1))) I I I I) I ?_
  refine Z2 I (Zq (v := (.int .i64 (IntKind.i64.wrap ((a0.Calls.length : Int) - 1)))) I I) I <| Zi <| Zj <| AWp.weaken (st' := ⟨[(1, (.ptr 1 0)), (2, (.vs 2)), (3, (.vs 3)), (8, (.int .i64 (IntKind.i64.wrap ((a0.Calls.length : Int) - 1))))], [(1, (.box (Zw a0).cells)), (2, (.vec 1 (List.map Z1f v5))), (3, (.vec 1 (List.map Z1f v6)))]⟩) ⟨rfl, rfl, rfl, rfl, trivial⟩ ⟨rfl, rfl, rfl, trivial⟩ ?_
  refine Z1l (V := Int × (List Int)) (X := (List Int)) (lp := fun k v => Z3e K a0 (Z55 K v5) k v.1 v.2 = some r) (sh := fun v => ⟨[(1, (.ptr 1 0)), (2, (.vs 2)), (3, (.vs 3)), (8, (.int .i64 v.1))], [(1, (.box (Zw a0).cells)), (2, (.vec 1 (List.map Z1f v5))), (3, (.vec 1 (List.map Z1f v.2)))]⟩) (x := fun v => Z55 K v5 v = some r) (shx := fun v => ⟨[(2, (.vs 2)), (3, (.vs 3))], [(2, (.vec 1 (List.map Z1f v5))), (3, (.vec 1 (List.map Z1f v)))]⟩) (k := K) (v := ((IntKind.i64.wrap ((a0.Calls.length : Int) - 1)), v6)) h ?_ ?_
  ·intro v h
   revert h
   revert v
   intro v12 h
   try dsimp only at h ⊢
   unfold Z55 at h
   refine Zj <| Zl <| Zd <| Z2 I (Zn (v := (.vs 2)) I I) I <| Z2 I (Zn (v := (.vs 3)) I I) I <| Z2 I (Zq (v := (.vs 2)) I I) I <| Z2 I (Zq (v := (.vs 3)) I I) I <| Zi ?_
   refine Zj <| Z1g <| At.ghost (st' := ⟨[(2, (.sl 1 (v5.map Z1f) false)), (3, (.sl 1 (v12.map Z1f) false))], []⟩) (fun a w h => (Z1d ⟨[(2, (.sl 1 (v5.map Z1f) false)), (3, (.sl 1 (v12.map Z1f) false))], []⟩ (Z2c (m := 3) (sz := 1) (es := (List.map Z1f v12)) a w (Z1d ⟨[(2, (.sl 1 (v5.map Z1f) false)), (3, (.vs 3))], [(3, (.vec 1 (List.map Z1f v12)))]⟩ (Z1d ⟨[(2, (.sl 1 (v5.map Z1f) false)), (3, (.vs 3))], [(3, (.vec 1 (List.map Z1f v12)))]⟩ (Z2c (m := 2) (sz := 1) (es := (List.map Z1f v5)) a w (Z1d ⟨[(2, (.vs 2)), (3, (.vs 3))], [(2, (.vec 1 (List.map Z1f v5))), (3, (.vec 1 (List.map Z1f v12)))]⟩ h ⟨rfl, rfl, trivial⟩ ⟨rfl, rfl, trivial⟩)) ⟨rfl, rfl, trivial⟩ ⟨rfl, trivial⟩) ⟨rfl, rfl, trivial⟩ ⟨rfl, trivial⟩)) ⟨rfl, rfl, trivial⟩ trivial)) ?_
   have h := Option.some.inj h
   subst h
   refine (hret _ ?_).1
   exact ⟨[(.sl 1 (v5.map Z1f) false), (.sl 1 (v12.map Z1f) false)], ⟨rfl, rfl, trivial⟩, rfl, trivial⟩
  ·intro N k11 v h IH11 J11
   obtain ⟨v9, v10⟩ := v
   try dsimp only at h IH11 J11 ⊢
   cases k11 with
   | zero => cases h
   | succ k11 =>
    rw [Z3e] at h
    refine Zl <| Zl <| Zd <| Z2 I (Zn (v := (.int .i64 v9)) I I) I <| Z2 I (Z1y (k := .i64) (a := v9) (b := 0) (c := (decide (v9 > 0))) I I I I) I <| Zi <| Zj ?_
    have hif := Z21 h
    refine Z18 I (fun hc => ?_) (fun hc => ?_)
    ·have h := hif.1 hc
     refine Z1b <| Zj <| Zl <| AWp.block <| Zl <| Zd <| Z2 I (Zu (m := 1) (o := 0) I Z6w I I) I <| Z2 I (Zz (cs := (Zw a0).cells) (v := (.sl 11 (a0.Calls.map Zp) false)) I o103 I I I) I ?_
     refine Z2 I (Zn (v := (.int .i64 v9)) I I) I ?_
     have ⟨hg16, h⟩ := Z14 h
     refine Z2 I (Z1s (k := .i64) (l := a0.Calls) (enc := Zp) (z := Z4) (n := v9) (cs := (Zp (a0.Calls.getD v9.toNat Z4)).cells) (full := false) I s103 I I hg16 I) I <| Z2 I (Z2d (cs := (Zp (a0.Calls.getD v9.toNat Z4)).cells) (ds := (Zp (a0.Calls.getD v9.toNat Z4)).cells) I f241_0 I I I) I <| Z2 I (Z24 (cs := (Zp (a0.Calls.getD v9.toNat Z4)).cells) (v := (.int .u8 (a0.Calls.getD v9.toNat Z4).Parent)) I o5 I I) I <| Z2 I (Z3c I us5 u3 I) I <| Z2 I (Zn (v := (.int .i64 v9)) I I) I <| Z2 I (Z1m (k := .i64) (a := v9) (b := 1) (c := (IntKind.i64.wrap (v9 + 1))) I I I I) I ?_
     have ⟨hg17, h⟩ := Z14 h
     refine Z2 I (Z39 (k := .i64) (a := (IntKind.i64.wrap (a0.Calls.getD v9.toNat Z4).Parent)) (b := (IntKind.i64.wrap (v9 + 1))) (c := ((IntKind.i64.wrap (a0.Calls.getD v9.toNat Z4).Parent).tmod (IntKind.i64.wrap (v9 + 1)))) I I I I hg17) I <| Z2 I (Zq (v := (.int .i64 ((IntKind.i64.wrap (a0.Calls.getD v9.toNat Z4).Parent).tmod (IntKind.i64.wrap (v9 + 1))))) I I) I <| Zi <| Zj <| Zl ?_
     refine AWp.join (V := Bool) (lp := fun v => Z4j K a0 v9 v10 (Z3e K a0 (Z55 K v5) k11) v = some r) (sh := fun v => ⟨[(1, (.ptr 1 0)), (2, (.vs 2)), (3, (.vs 3)), (8, (.int .i64 v9)), (9, (.int .i64 ((IntKind.i64.wrap (a0.Calls.getD v9.toNat Z4).Parent).tmod (IntKind.i64.wrap (v9 + 1))))), (108, (.bool v))], [(1, (.box (Zw a0).cells)), (2, (.vec 1 (List.map Z1f v5))), (3, (.vec 1 (List.map Z1f v10)))]⟩) ?_ ?_
     ·intro v h
      revert h
      revert v
      intro v18 h
      try dsimp only at h ⊢
      unfold Z4j at h
      refine Zj ?_
      refine AWp.join (V := (List Int)) (lp := fun v => Z7g K (Z3e K a0 (Z55 K v5) k11) v9 v = some r) (sh := fun v => ⟨[(1, (.ptr 1 0)), (2, (.vs 2)), (3, (.vs 3)), (8, (.int .i64 v9))], [(1, (.box (Zw a0).cells)), (2, (.vec 1 (List.map Z1f v5))), (3, (.vec 1 (List.map Z1f v)))]⟩) ?_ ?_
      ·intro v h
       revert h
       revert v
       intro v20 h
       try dsimp only at h ⊢
       unfold Z7g at h
       refine At.end <| Zj <| Zd <| Z2 I (Zn (v := (.int .i64 v9)) I I) I <| Z2 I (Z1m (k := .i64) (a := v9) (b := 1) (c := (IntKind.i64.wrap (v9 - 1))) I I I I) I <| Z2 I (Zq (v := (.int .i64 (IntKind.i64.wrap (v9 - 1)))) I I) I <| Zi ?_
       exact Z11 (st' := ⟨[(1, (.ptr 1 0)), (2, (.vs 2)), (3, (.vs 3)), (8, (.int .i64 (IntKind.i64.wrap (v9 - 1))))], [(1, (.box (Zw a0).cells)), (2, (.vec 1 (List.map Z1f v5))), (3, (.vec 1 (List.map Z1f v20)))]⟩) ⟨rfl, rfl, rfl, rfl, trivial⟩ ⟨rfl, rfl, rfl, trivial⟩ (IH11 _ ((IntKind.i64.wrap (v9 - 1)), v20) (Nat.lt_succ_self _) h)
      ·intro J21
       have hif := Z21 h
       refine Z18 I (fun hc => ?_) (fun hc => ?_)
       ·have h := hif.1 hc
        refine Z1u mixed <| Z8 0 I (Zn (v := (.vs 3)) I I) <| Z8 1 I (Zn (v := (.int .i64 ((IntKind.i64.wrap (a0.Calls.getD v9.toNat Z4).Parent).tmod (IntKind.i64.wrap (v9 + 1))))) I I) <| Z8 2 I (Zn (v := (.vs 3)) I I) <| Z8 3 I (Zn (v := (.int .i64 ((IntKind.i64.wrap (a0.Calls.getD v9.toNat Z4).Parent).tmod (IntKind.i64.wrap (v9 + 1))))) I I) ?_
        have ⟨hg22, h⟩ := Z14 h
        refine Z8 4 I (Z2v (k := .i64) (v := (.vs 3)) (n := 3) (off := 0) (len := v10.length) (es := (List.map Z1f v10)) (j := ((IntKind.i64.wrap (a0.Calls.getD v9.toNat Z4).Parent).tmod (IntKind.i64.wrap (v9 + 1)))) (m := ((IntKind.i64.wrap (a0.Calls.getD v9.toNat Z4).Parent).tmod (IntKind.i64.wrap (v9 + 1))).toNat) I s65 I I (Z2x _ _ _) I hg22 (Nat.zero_add _)) ?_
        have ⟨hg23, h⟩ := Z14 h
        refine Z8 5 I (Z53 (l := v10) (enc := Z1f) (z := 0) (v := (.int .i64 (v10.getD ((IntKind.i64.wrap (a0.Calls.getD v9.toNat Z4).Parent).tmod (IntKind.i64.wrap (v9 + 1))).toNat 0))) I o3 I I hg23 I) <| Z8 6 I (Zn (v := (.vs 3)) I I) <| Z8 7 I (Zn (v := (.int .i64 v9)) I I) ?_
        have ⟨hg24, h⟩ := Z14 h
        refine Z8 8 I (Z2v (k := .i64) (v := (.vs 3)) (n := 3) (off := 0) (len := v10.length) (es := (List.map Z1f v10)) (j := v9) (m := v9.toNat) I s65 I I (Z2x _ _ _) I hg24 (Nat.zero_add _)) ?_
        have ⟨hg25, h⟩ := Z14 h
        refine Z8 9 I (Z53 (l := v10) (enc := Z1f) (z := 0) (v := (.int .i64 (v10.getD v9.toNat 0))) I o3 I I hg25 I) <| Z8 10 I (st_max (k := .i64) (a := (v10.getD ((IntKind.i64.wrap (a0.Calls.getD v9.toNat Z4).Parent).tmod (IntKind.i64.wrap (v9 + 1))).toNat 0)) (b := (v10.getD v9.toNat 0)) I I I) ?_
        have ⟨hg26, h⟩ := Z14 h
        refine Z8 11 I (Z2v (k := .i64) (v := (.vs 3)) (n := 3) (off := 0) (len := v10.length) (es := (List.map Z1f v10)) (j := ((IntKind.i64.wrap (a0.Calls.getD v9.toNat Z4).Parent).tmod (IntKind.i64.wrap (v9 + 1)))) (m := ((IntKind.i64.wrap (a0.Calls.getD v9.toNat Z4).Parent).tmod (IntKind.i64.wrap (v9 + 1))).toNat) I s65 I I (Z2x _ _ _) I hg26 (Nat.zero_add _)) ?_
        have ⟨hg27, h⟩ := Z14 h
        refine Z8 12 I (Z6x (l := v10) (enc := Z1f) (z := 0) (a := (if (v10.getD v9.toNat 0) > (v10.getD ((IntKind.i64.wrap (a0.Calls.getD v9.toNat Z4).Parent).tmod (IntKind.i64.wrap (v9 + 1))).toNat 0) then (v10.getD v9.toNat 0) else (v10.getD ((IntKind.i64.wrap (a0.Calls.getD v9.toNat Z4).Parent).tmod (IntKind.i64.wrap (v9 + 1))).toNat 0))) (v := (.int .i64 (if (v10.getD v9.toNat 0) > (v10.getD ((IntKind.i64.wrap (a0.Calls.getD v9.toNat Z4).Parent).tmod (IntKind.i64.wrap (v9 + 1))).toNat 0) then (v10.getD v9.toNat 0) else (v10.getD ((IntKind.i64.wrap (a0.Calls.getD v9.toNat Z4).Parent).tmod (IntKind.i64.wrap (v9 + 1))).toNat 0)))) sz3 I I hg27 I Z4e I I I I) <| Z1q (by kernel_rfl) I ?_
        exact Z11 (st' := ⟨[(1, (.ptr 1 0)), (2, (.vs 2)), (3, (.vs 3)), (8, (.int .i64 v9))], [(1, (.box (Zw a0).cells)), (2, (.vec 1 (List.map Z1f v5))), (3, (.vec 1 (List.map Z1f (v10.set ((IntKind.i64.wrap (a0.Calls.getD v9.toNat Z4).Parent).tmod (IntKind.i64.wrap (v9 + 1))).toNat (if (v10.getD v9.toNat 0) > (v10.getD ((IntKind.i64.wrap (a0.Calls.getD v9.toNat Z4).Parent).tmod (IntKind.i64.wrap (v9 + 1))).toNat 0) then (v10.getD v9.toNat 0) else (v10.getD ((IntKind.i64.wrap (a0.Calls.getD v9.toNat Z4).Parent).tmod (IntKind.i64.wrap (v9 + 1))).toNat 0))))))]⟩) ⟨rfl, rfl, rfl, rfl, trivial⟩ ⟨rfl, rfl, rfl, trivial⟩ (J21 (v10.set ((IntKind.i64.wrap (a0.Calls.getD v9.toNat Z4).Parent).tmod (IntKind.i64.wrap (v9 + 1))).toNat (if (v10.getD v9.toNat 0) > (v10.getD ((IntKind.i64.wrap (a0.Calls.getD v9.toNat Z4).Parent).tmod (IntKind.i64.wrap (v9 + 1))).toNat 0) then (v10.getD v9.toNat 0) else (v10.getD ((IntKind.i64.wrap (a0.Calls.getD v9.toNat Z4).Parent).tmod (IntKind.i64.wrap (v9 + 1))).toNat 0))) h)
       ·have h := hif.2 hc
        refine Z1b ?_
        exact Z11 (st' := ⟨[(1, (.ptr 1 0)), (2, (.vs 2)), (3, (.vs 3)), (8, (.int .i64 v9))], [(1, (.box (Zw a0).cells)), (2, (.vec 1 (List.map Z1f v5))), (3, (.vec 1 (List.map Z1f v10)))]⟩) ⟨rfl, rfl, rfl, rfl, trivial⟩ ⟨rfl, rfl, rfl, trivial⟩ (J21 v10 h)
     ·intro J19
      refine Zd <| Z2 I (Zn (v := (.int .i64 ((IntKind.i64.wrap (a0.Calls.getD v9.toNat Z4).Parent).tmod (IntKind.i64.wrap (v9 + 1))))) I I) I <| Z2 I (Zn (v := (.int .i64 v9)) I I) I <| Z2 I (Z1y (k := .i64) (a := ((IntKind.i64.wrap (a0.Calls.getD v9.toNat Z4).Parent).tmod (IntKind.i64.wrap (v9 + 1)))) (b := v9) (c := (decide (((IntKind.i64.wrap (a0.Calls.getD v9.toNat Z4).Parent).tmod (IntKind.i64.wrap (v9 + 1))) < v9))) I I I I) I <| Z2 I (Zn (v := (.bool (decide (((IntKind.i64.wrap (a0.Calls.getD v9.toNat Z4).Parent).tmod (IntKind.i64.wrap (v9 + 1))) < v9)))) I I) I ?_
      have hif := Z21 h
      refine AOps.split (fun hc => ?_) (fun hc => ?_)
      ·have h := hif.1 hc
       refine Z17 I I I I (Zu (m := 1) (o := 0) I Z6w I I) I <| Z17 I I I I (Zz (cs := (Zw a0).cells) (v := (.sl 11 (a0.Calls.map Zp) false)) I o103 I I I) I <| Z17 I I I I (Zn (v := (.int .i64 v9)) I I) I ?_
       have ⟨hg28, h⟩ := Z14 h
       refine Z17 I I I I (Z1s (k := .i64) (l := a0.Calls) (enc := Zp) (z := Z4) (n := v9) (cs := (Zp (a0.Calls.getD v9.toNat Z4)).cells) (full := false) I s103 I I hg28 I) I <| Z17 I I I I (Z2i (cs := (Zp (a0.Calls.getD v9.toNat Z4)).cells) (vs := (Zp (a0.Calls.getD v9.toNat Z4)).cells) I a241 I I I) I ?_
       have ⟨v30, hv30, h⟩ := Z1c h
       refine Z17 I I I I (Z1e (ar := [(Zp (a0.Calls.getD v9.toNat Z4))]) (caps := []) Tryz.call153 (F153_ok K (a0.Calls.getD v9.toNat Z4) v30 hv30) I I ⟨rfl, trivial⟩ I) I <| Z17 I I I I (Z1y (k := .i64) (a := v30) (b := 3) (c := (v30 == 3)) I I I I) I <| Z2 I (Z2f (v := (.bool (v30 == 3))) I I I) I <| Z2 I (Zn (v := (.bool (v30 == 3))) I I) I ?_
       have hif := Z21 h
       refine AOps.split (fun hc => ?_) (fun hc => ?_)
       ·have h := hif.1 hc
        refine Z17 I I I I (Zu (m := 1) (o := 0) I Z6w I I) I <| Z17 I I I I (Zz (cs := (Zw a0).cells) (v := (.sl 11 (a0.Calls.map Zp) false)) I o103 I I I) I <| Z17 I I I I (Zn (v := (.int .i64 ((IntKind.i64.wrap (a0.Calls.getD v9.toNat Z4).Parent).tmod (IntKind.i64.wrap (v9 + 1))))) I I) I ?_
        have ⟨hg31, h⟩ := Z14 h
        refine Z17 I I I I (Z1s (k := .i64) (l := a0.Calls) (enc := Zp) (z := Z4) (n := ((IntKind.i64.wrap (a0.Calls.getD v9.toNat Z4).Parent).tmod (IntKind.i64.wrap (v9 + 1)))) (cs := (Zp (a0.Calls.getD ((IntKind.i64.wrap (a0.Calls.getD v9.toNat Z4).Parent).tmod (IntKind.i64.wrap (v9 + 1))).toNat Z4)).cells) (full := false) I s103 I I hg31 I) I <| Z17 I I I I (Z2i (cs := (Zp (a0.Calls.getD ((IntKind.i64.wrap (a0.Calls.getD v9.toNat Z4).Parent).tmod (IntKind.i64.wrap (v9 + 1))).toNat Z4)).cells) (vs := (Zp (a0.Calls.getD ((IntKind.i64.wrap (a0.Calls.getD v9.toNat Z4).Parent).tmod (IntKind.i64.wrap (v9 + 1))).toNat Z4)).cells) I a241 I I I) I ?_
        have ⟨v33, hv33, h⟩ := Z1c h
        refine Z17 I I I I (Z1e (ar := [(Zp (a0.Calls.getD ((IntKind.i64.wrap (a0.Calls.getD v9.toNat Z4).Parent).tmod (IntKind.i64.wrap (v9 + 1))).toNat Z4))]) (caps := []) Tryz.call153 (F153_ok K (a0.Calls.getD ((IntKind.i64.wrap (a0.Calls.getD v9.toNat Z4).Parent).tmod (IntKind.i64.wrap (v9 + 1))).toNat Z4) v33 hv33) I I ⟨rfl, trivial⟩ I) I <| Z17 I I I I (Z1y (k := .i64) (a := v33) (b := 2) (c := (v33 == 2)) I I I I) I <| Z2 I (Z2f (v := (.bool (v33 == 2))) I I I) I <| Z2 I (Zn (v := (.bool (v33 == 2))) I I) I ?_
        have hif := Z21 h
        refine AOps.split (fun hc => ?_) (fun hc => ?_)
        ·have h := hif.1 hc
         refine Z17 I I I I (Zu (m := 1) (o := 0) I Z6w I I) I <| Z17 I I I I (Zz (cs := (Zw a0).cells) (v := (.sl 11 (a0.Calls.map Zp) false)) I o103 I I I) I <| Z17 I I I I (Zn (v := (.int .i64 ((IntKind.i64.wrap (a0.Calls.getD v9.toNat Z4).Parent).tmod (IntKind.i64.wrap (v9 + 1))))) I I) I ?_
         have ⟨hg34, h⟩ := Z14 h
         refine Z17 I I I I (Z1s (k := .i64) (l := a0.Calls) (enc := Zp) (z := Z4) (n := ((IntKind.i64.wrap (a0.Calls.getD v9.toNat Z4).Parent).tmod (IntKind.i64.wrap (v9 + 1)))) (cs := (Zp (a0.Calls.getD ((IntKind.i64.wrap (a0.Calls.getD v9.toNat Z4).Parent).tmod (IntKind.i64.wrap (v9 + 1))).toNat Z4)).cells) (full := false) I s103 I I hg34 I) I <| Z17 I I I I (Z2d (cs := (Zp (a0.Calls.getD ((IntKind.i64.wrap (a0.Calls.getD v9.toNat Z4).Parent).tmod (IntKind.i64.wrap (v9 + 1))).toNat Z4)).cells) (ds := [(.bool (a0.Calls.getD ((IntKind.i64.wrap (a0.Calls.getD v9.toNat Z4).Parent).tmod (IntKind.i64.wrap (v9 + 1))).toNat Z4).Fail)]) I f241_10 I I I) I <| Z17 I I I I (Z24 (cs := [(.bool (a0.Calls.getD ((IntKind.i64.wrap (a0.Calls.getD v9.toNat Z4).Parent).tmod (IntKind.i64.wrap (v9 + 1))).toNat Z4).Fail)]) (v := (.bool (a0.Calls.getD ((IntKind.i64.wrap (a0.Calls.getD v9.toNat Z4).Parent).tmod (IntKind.i64.wrap (v9 + 1))).toNat Z4).Fail)) I o4 I I) I <| Z17 I I I I (Zcq (b := (a0.Calls.getD ((IntKind.i64.wrap (a0.Calls.getD v9.toNat Z4).Parent).tmod (IntKind.i64.wrap (v9 + 1))).toNat Z4).Fail) I I) I <| Z2 I (Z2f (v := (.bool (!(a0.Calls.getD ((IntKind.i64.wrap (a0.Calls.getD v9.toNat Z4).Parent).tmod (IntKind.i64.wrap (v9 + 1))).toNat Z4).Fail))) I I I) I <| Zi ?_
         exact Z11 (st' := ⟨[(1, (.ptr 1 0)), (2, (.vs 2)), (3, (.vs 3)), (8, (.int .i64 v9)), (9, (.int .i64 ((IntKind.i64.wrap (a0.Calls.getD v9.toNat Z4).Parent).tmod (IntKind.i64.wrap (v9 + 1))))), (108, (.bool (!(a0.Calls.getD ((IntKind.i64.wrap (a0.Calls.getD v9.toNat Z4).Parent).tmod (IntKind.i64.wrap (v9 + 1))).toNat Z4).Fail)))], [(1, (.box (Zw a0).cells)), (2, (.vec 1 (List.map Z1f v5))), (3, (.vec 1 (List.map Z1f v10)))]⟩) ⟨rfl, rfl, rfl, rfl, rfl, rfl, trivial⟩ ⟨rfl, rfl, rfl, trivial⟩ (J19 (!(a0.Calls.getD ((IntKind.i64.wrap (a0.Calls.getD v9.toNat Z4).Parent).tmod (IntKind.i64.wrap (v9 + 1))).toNat Z4).Fail) h)
        ·have h := hif.2 hc
         refine Z13 I I I I I I I <| Z13 I I I I I I I <| Z13 I I I I I I I <| Z13 I I I I I I I <| Z13 I I I I I I I <| Z13 I I I I I I I <| Z13 I I I I I I I <| Z2 I (Z20 (v := (.bool false)) I I I) I ?_
         refine Zi ?_
         exact Z11 (st' := ⟨[(1, (.ptr 1 0)), (2, (.vs 2)), (3, (.vs 3)), (8, (.int .i64 v9)), (9, (.int .i64 ((IntKind.i64.wrap (a0.Calls.getD v9.toNat Z4).Parent).tmod (IntKind.i64.wrap (v9 + 1))))), (108, (.bool false))], [(1, (.box (Zw a0).cells)), (2, (.vec 1 (List.map Z1f v5))), (3, (.vec 1 (List.map Z1f v10)))]⟩) ⟨rfl, rfl, rfl, rfl, rfl, rfl, trivial⟩ ⟨rfl, rfl, rfl, trivial⟩ (J19 false h)
       ·have h := hif.2 hc
        refine Z13 I I I I I I I <| Z13 I I I I I I I <| Z13 I I I I I I I <| Z13 I I I I I I I <| Z13 I I I I I I I <| Z13 I I I I I I I <| Z13 I I I I I I I <| Z2 I (Z20 (v := (.bool false)) I I I) I ?_
        refine Z2 I (Zn (v := (.bool false)) I I) I <| Z13 I I I I I I I <| Z13 I I I I I I I <| Z13 I I I I I I I <| Z13 I I I I I I I <| Z13 I I I I I I I <| Z13 I I I I I I I <| Z13 I I I I I I I ?_
        refine Z2 I (Z20 (v := (.bool false)) I I I) I <| Zi ?_
        exact Z11 (st' := ⟨[(1, (.ptr 1 0)), (2, (.vs 2)), (3, (.vs 3)), (8, (.int .i64 v9)), (9, (.int .i64 ((IntKind.i64.wrap (a0.Calls.getD v9.toNat Z4).Parent).tmod (IntKind.i64.wrap (v9 + 1))))), (108, (.bool false))], [(1, (.box (Zw a0).cells)), (2, (.vec 1 (List.map Z1f v5))), (3, (.vec 1 (List.map Z1f v10)))]⟩) ⟨rfl, rfl, rfl, rfl, rfl, rfl, trivial⟩ ⟨rfl, rfl, rfl, trivial⟩ (J19 false h)
      ·have h := hif.2 hc
       refine Z13 I I I I I I I <| Z13 I I I I I I I <| Z13 I I I I I I I <| Z13 I I I I I I I <| Z13 I I I I I I I <| Z13 I I I I I I I <| Z13 I I I I I I I <| Z2 I (Z20 (v := (.bool false)) I I I) I ?_
       refine Z2 I (Zn (v := (.bool false)) I I) I <| Z13 I I I I I I I <| Z13 I I I I I I I <| Z13 I I I I I I I <| Z13 I I I I I I I <| Z13 I I I I I I I <| Z13 I I I I I I I <| Z13 I I I I I I I ?_
       refine Z2 I (Z20 (v := (.bool false)) I I I) I <| Z2 I (Zn (v := (.bool false)) I I) I <| Z13 I I I I I I I <| Z13 I I I I I I I <| Z13 I I I I I I I <| Z13 I I I I I I I <| Z13 I I I I I I I <| Z13 I I I I I I I ?_
       refine Z13 I I I I I I I <| Z2 I (Z20 (v := (.bool false)) I I I) I <| Zi ?_
       exact Z11 (st' := ⟨[(1, (.ptr 1 0)), (2, (.vs 2)), (3, (.vs 3)), (8, (.int .i64 v9)), (9, (.int .i64 ((IntKind.i64.wrap (a0.Calls.getD v9.toNat Z4).Parent).tmod (IntKind.i64.wrap (v9 + 1))))), (108, (.bool false))], [(1, (.box (Zw a0).cells)), (2, (.vec 1 (List.map Z1f v5))), (3, (.vec 1 (List.map Z1f v10)))]⟩) ⟨rfl, rfl, rfl, rfl, rfl, rfl, trivial⟩ ⟨rfl, rfl, rfl, trivial⟩ (J19 false h)
    ·have h := hif.2 hc
     refine AWp.exit <| At.thru ?_
     exact Z11 (st' := ⟨[(2, (.vs 2)), (3, (.vs 3))], [(2, (.vec 1 (List.map Z1f v5))), (3, (.vec 1 (List.map Z1f v10)))]⟩) ⟨rfl, rfl, trivial⟩ ⟨rfl, rfl, trivial⟩ (J11 v10 h)
 ·intro N k4 v h IH4 J4
  obtain ⟨v1, v2, v3⟩ := v
  try dsimp only at h IH4 J4 ⊢
  cases k4 with
  | zero => cases h
  | succ k4 =>
   rw [Z4h] at h
   refine Zl <| Zl <| Zd <| Z2 I (Zn (v := (.int .i64 v1)) I I) I <| Z2 I (Zu (m := 1) (o := 0) I Z6w I I) I <| Z2 I (Zz (cs := (Zw a0).cells) (v := (.sl 11 (a0.Calls.map Zp) false)) I o103 I I I) I <| Z2 I (Z23 (l := a0.Calls) (enc := Zp) I s103 I) I <| Z2 I (Z1y (k := .i64) (a := v1) (b := (a0.Calls.length : Int)) (c := (decide (v1 < (a0.Calls.length : Int)))) I I I I) I ?_
   refine Zi <| Zj ?_
   have hif := Z21 h
   refine Z18 I (fun hc => ?_) (fun hc => ?_)
   ·have h := hif.1 hc
    refine Z1b <| Zj <| Zl <| AWp.block <| Zl <| Zd <| Z2 I (Zu (m := 1) (o := 0) I Z6w I I) I <| Z2 I (Zz (cs := (Zw a0).cells) (v := (.sl 11 (a0.Calls.map Zp) false)) I o103 I I I) I ?_
    refine Z2 I (Zn (v := (.int .i64 v1)) I I) I ?_
    have ⟨hg36, h⟩ := Z14 h
    refine Z2 I (Z1s (k := .i64) (l := a0.Calls) (enc := Zp) (z := Z4) (n := v1) (cs := (Zp (a0.Calls.getD v1.toNat Z4)).cells) (full := false) I s103 I I hg36 I) I <| Z2 I (Z2i (cs := (Zp (a0.Calls.getD v1.toNat Z4)).cells) (vs := (Zp (a0.Calls.getD v1.toNat Z4)).cells) I a241 I I I) I <| Z2 I (Z1x (cs := [(.int .u8 0), (.int .u8 0), (.int .u8 0), (.int .u8 0), (.int .u8 0), (.int .u8 0), (.int .u8 0), (.int .u8 0), (.int .u8 0), (.int .u8 0), (.bool false)]) I z241 I I I) I <| Z2 I (Z1a (cs := [(.int .u8 0), (.int .u8 0), (.int .u8 0), (.int .u8 0), (.int .u8 0), (.int .u8 0), (.int .u8 0), (.int .u8 0), (.int .u8 0), (.int .u8 0), (.bool false)]) (vs := (Zp (a0.Calls.getD v1.toNat Z4)).cells) (ds := (Zp (a0.Calls.getD v1.toNat Z4)).cells) (v := (Zp (a0.Calls.getD v1.toNat Z4))) sz241 I I I I I I I I) I <| Zi <| Zj <| Zl <| Zd ?_
    refine Z2 I (Zu (m := 1) (o := 0) I f105_1 I I) I <| Z2 I (Zz (cs := (Zw a0).cells) (v := (.int .u8 a0.Start)) I o5 I I I) I <| Z2 I (Z39 (k := .u8) (a := a0.Start) (b := 32) (c := (a0.Start.tmod 32)) I I I I (by decide)) I <| Z2 I (Z3c I us5 u3 I) I <| Z2 I (Z1m (k := .i64) (a := 1000) (b := (IntKind.i64.wrap (a0.Start.tmod 32))) (c := (IntKind.i64.wrap (1000 + (IntKind.i64.wrap (a0.Start.tmod 32))))) I I I I) I <| Z2 I (Zq (v := (.int .i64 (IntKind.i64.wrap (1000 + (IntKind.i64.wrap (a0.Start.tmod 32)))))) I I) I <| Zi <| Zj ?_
    refine Zl <| Zl <| Zd <| Z2 I (Zu (m := 5) (o := 0) I f241_0 I I) I <| Z2 I (Zz (cs := (Zp (a0.Calls.getD v1.toNat Z4)).cells) (v := (.int .u8 (a0.Calls.getD v1.toNat Z4).Parent)) I o5 I I I) I <| Z2 I (Z3c I us5 u3 I) I <| Z2 I (Zn (v := (.int .i64 v1)) I I) I <| Z2 I (Z1m (k := .i64) (a := v1) (b := 1) (c := (IntKind.i64.wrap (v1 + 1))) I I I I) I ?_
    have ⟨hg37, h⟩ := Z14 h
    refine Z2 I (Z39 (k := .i64) (a := (IntKind.i64.wrap (a0.Calls.getD v1.toNat Z4).Parent)) (b := (IntKind.i64.wrap (v1 + 1))) (c := ((IntKind.i64.wrap (a0.Calls.getD v1.toNat Z4).Parent).tmod (IntKind.i64.wrap (v1 + 1)))) I I I I hg37) I <| Z2 I (Zq (v := (.int .i64 ((IntKind.i64.wrap (a0.Calls.getD v1.toNat Z4).Parent).tmod (IntKind.i64.wrap (v1 + 1))))) I I) I <| Zi <| Zj <| Zl <| Zd <| Z2 I (Zn (v := (.int .i64 ((IntKind.i64.wrap (a0.Calls.getD v1.toNat Z4).Parent).tmod (IntKind.i64.wrap (v1 + 1))))) I I) I <| Z2 I (Zn (v := (.int .i64 v1)) I I) I ?_
    refine Z2 I (Z1y (k := .i64) (a := ((IntKind.i64.wrap (a0.Calls.getD v1.toNat Z4).Parent).tmod (IntKind.i64.wrap (v1 + 1)))) (b := v1) (c := (decide (((IntKind.i64.wrap (a0.Calls.getD v1.toNat Z4).Parent).tmod (IntKind.i64.wrap (v1 + 1))) < v1))) I I I I) I <| Zi <| Zj ?_
    refine AWp.join (V := Int) (lp := fun v => Z7e K v1 v2 v3 a0 (Z4h K a0 (Z6s K a0) k4) v = some r) (sh := fun v => ⟨[(1, (.ptr 1 0)), (2, (.vs 2)), (3, (.vs 3)), (4, (.int .i64 v1)), (5, (.ptr 5 0)), (6, (.int .i64 v))], [(1, (.box (Zw a0).cells)), (2, (.vec 1 (List.map Z1f v2))), (3, (.vec 1 (List.map Z1f v3))), (5, (.box (Zp (a0.Calls.getD v1.toNat Z4)).cells))]⟩) ?_ ?_
    ·intro v h
     revert h
     revert v
     intro v38 h
     try dsimp only at h ⊢
     unfold Z7e at h
     refine Zj <| Zl <| Zl <| Zd <| Z2 I (Zn (v := (.int .i64 v1)) I I) I <| Z2 I (Z1y (k := .i64) (a := v1) (b := 0) (c := (decide (v1 > 0))) I I I I) I <| Zi <| Zj ?_
     refine AWp.join (V := Int) (lp := fun v => Z76 K v2 v3 a0 v1 (Z4h K a0 (Z6s K a0) k4) v = some r) (sh := fun v => ⟨[(1, (.ptr 1 0)), (2, (.vs 2)), (3, (.vs 3)), (4, (.int .i64 v1)), (5, (.ptr 5 0)), (6, (.int .i64 v))], [(1, (.box (Zw a0).cells)), (2, (.vec 1 (List.map Z1f v2))), (3, (.vec 1 (List.map Z1f v3))), (5, (.box (Zp (a0.Calls.getD v1.toNat Z4)).cells))]⟩) ?_ ?_
     ·intro v h
      revert h
      revert v
      intro v40 h
      try dsimp only at h ⊢
      unfold Z76 at h
      refine Zj <| Z1u mixed <| Z8 0 I (Zn (v := (.vs 2)) I I) <| Z8 1 I (Zn (v := (.int .i64 v40)) I I) <| Z8 2 I (Z1j (vs := [(.int .i64 v40)]) (enc := Z1f) (l := [v40]) I el65 I I ⟨rfl, trivial⟩ I Z4e I I I I) ?_
      have ⟨hg42, h⟩ := Z14 h
      refine Z8 3 I (Z2l (m := 2) (enc := Z1f) (l := v2) (l' := [v40]) (src := (.vs 50)) (rd := [(50, (.vec 1 (List.map Z1f [v40])))]) I I el65 I u65 I I I I (oneRead I) Z4e hg42) <| Z8 4 I (Zn (v := (.vs 3)) I I) <| Z8 5 I (Zn (v := (.int .i64 v40)) I I) <| Z8 6 I (Zu (m := 5) (o := 0) I f241_7 I I) <| Z8 7 I (Zz (cs := (Zp (a0.Calls.getD v1.toNat Z4)).cells) (v := (.int .u8 (a0.Calls.getD v1.toNat Z4).Long)) I o5 I I I) <| Z8 8 I (Z39 (k := .u8) (a := (a0.Calls.getD v1.toNat Z4).Long) (b := 32) (c := ((a0.Calls.getD v1.toNat Z4).Long.tmod 32)) I I I I (by decide)) <| Z8 9 I (Z3c I us5 u3 I) <| Z8 10 I (Z1m (k := .i64) (a := v40) (b := (IntKind.i64.wrap ((a0.Calls.getD v1.toNat Z4).Long.tmod 32))) (c := (IntKind.i64.wrap (v40 + (IntKind.i64.wrap ((a0.Calls.getD v1.toNat Z4).Long.tmod 32))))) I I I I) ?_
      refine Z8 11 I (Z1j (vs := [(.int .i64 (IntKind.i64.wrap (v40 + (IntKind.i64.wrap ((a0.Calls.getD v1.toNat Z4).Long.tmod 32)))))]) (enc := Z1f) (l := [(IntKind.i64.wrap (v40 + (IntKind.i64.wrap ((a0.Calls.getD v1.toNat Z4).Long.tmod 32))))]) I el65 I I ⟨rfl, trivial⟩ I Z4e I I I I) ?_
      have ⟨hg43, h⟩ := Z14 h
      refine Z8 12 I (Z2l (m := 3) (enc := Z1f) (l := v3) (l' := [(IntKind.i64.wrap (v40 + (IntKind.i64.wrap ((a0.Calls.getD v1.toNat Z4).Long.tmod 32))))]) (src := (.vs 59)) (rd := [(59, (.vec 1 (List.map Z1f [(IntKind.i64.wrap (v40 + (IntKind.i64.wrap ((a0.Calls.getD v1.toNat Z4).Long.tmod 32))))])))]) I I el65 I u65 I I I I (oneRead I) Z4e hg43) <| Z8 13 I (Zq (v := (.vs 2)) I I) <| Z8 14 I (Zq (v := (.vs 3)) I I) <| Z1q (by kernel_rfl) I <| At.end <| Zj <| Zd <| Z2 I (Zn (v := (.int .i64 v1)) I I) I ?_
      refine Z2 I (Z1m (k := .i64) (a := v1) (b := 1) (c := (IntKind.i64.wrap (v1 + 1))) I I I I) I <| Z2 I (Zq (v := (.int .i64 (IntKind.i64.wrap (v1 + 1)))) I I) I <| Zi ?_
      exact Z11 (st' := ⟨[(1, (.ptr 1 0)), (2, (.vs 2)), (3, (.vs 3)), (4, (.int .i64 (IntKind.i64.wrap (v1 + 1))))], [(1, (.box (Zw a0).cells)), (2, (.vec 1 (List.map Z1f (v2 ++ [v40])))), (3, (.vec 1 (List.map Z1f (v3 ++ [(IntKind.i64.wrap (v40 + (IntKind.i64.wrap ((a0.Calls.getD v1.toNat Z4).Long.tmod 32))))]))))]⟩) ⟨rfl, rfl, rfl, rfl, trivial⟩ ⟨rfl, rfl, rfl, trivial⟩ (IH4 _ ((IntKind.i64.wrap (v1 + 1)), (v2 ++ [v40]), (v3 ++ [(IntKind.i64.wrap (v40 + (IntKind.i64.wrap ((a0.Calls.getD v1.toNat Z4).Long.tmod 32))))])) (Nat.lt_succ_self _) h)
     ·intro J41
      have hif := Z21 h
      refine Z18 I (fun hc => ?_) (fun hc => ?_)
      ·have h := hif.1 hc
       refine Zd <| Z2 I (Zn (v := (.int .i64 v38)) I I) I <| Z2 I (Zu (m := 5) (o := 0) I f241_6 I I) I <| Z2 I (Zz (cs := (Zp (a0.Calls.getD v1.toNat Z4)).cells) (v := (.int .u8 (a0.Calls.getD v1.toNat Z4).Wait)) I o5 I I I) I <| Z2 I (Z39 (k := .u8) (a := (a0.Calls.getD v1.toNat Z4).Wait) (b := 32) (c := ((a0.Calls.getD v1.toNat Z4).Wait.tmod 32)) I I I I (by decide)) I <| Z2 I (Z3c I us5 u3 I) I <| Z2 I (Z1m (k := .i64) (a := v38) (b := (IntKind.i64.wrap ((a0.Calls.getD v1.toNat Z4).Wait.tmod 32))) (c := (IntKind.i64.wrap (v38 + (IntKind.i64.wrap ((a0.Calls.getD v1.toNat Z4).Wait.tmod 32))))) I I I I) I <| Z2 I (Zq (v := (.int .i64 (IntKind.i64.wrap (v38 + (IntKind.i64.wrap ((a0.Calls.getD v1.toNat Z4).Wait.tmod 32)))))) I I) I ?_
       refine Zi ?_
       exact Z11 (st' := ⟨[(1, (.ptr 1 0)), (2, (.vs 2)), (3, (.vs 3)), (4, (.int .i64 v1)), (5, (.ptr 5 0)), (6, (.int .i64 (IntKind.i64.wrap (v38 + (IntKind.i64.wrap ((a0.Calls.getD v1.toNat Z4).Wait.tmod 32))))))], [(1, (.box (Zw a0).cells)), (2, (.vec 1 (List.map Z1f v2))), (3, (.vec 1 (List.map Z1f v3))), (5, (.box (Zp (a0.Calls.getD v1.toNat Z4)).cells))]⟩) ⟨rfl, rfl, rfl, rfl, rfl, rfl, trivial⟩ ⟨rfl, rfl, rfl, rfl, trivial⟩ (J41 (IntKind.i64.wrap (v38 + (IntKind.i64.wrap ((a0.Calls.getD v1.toNat Z4).Wait.tmod 32)))) h)
      ·have h := hif.2 hc
       refine Z1b ?_
       exact Z11 (st' := ⟨[(1, (.ptr 1 0)), (2, (.vs 2)), (3, (.vs 3)), (4, (.int .i64 v1)), (5, (.ptr 5 0)), (6, (.int .i64 v38))], [(1, (.box (Zw a0).cells)), (2, (.vec 1 (List.map Z1f v2))), (3, (.vec 1 (List.map Z1f v3))), (5, (.box (Zp (a0.Calls.getD v1.toNat Z4)).cells))]⟩) ⟨rfl, rfl, rfl, rfl, rfl, rfl, trivial⟩ ⟨rfl, rfl, rfl, rfl, trivial⟩ (J41 v38 h)
    ·intro J39
     have hif := Z21 h
     refine Z18 I (fun hc => ?_) (fun hc => ?_)
     ·have h := hif.1 hc
      refine Zd <| Z2 I (Zn (v := (.vs 2)) I I) I <| Z2 I (Zn (v := (.int .i64 ((IntKind.i64.wrap (a0.Calls.getD v1.toNat Z4).Parent).tmod (IntKind.i64.wrap (v1 + 1))))) I I) I ?_
      have ⟨hg44, h⟩ := Z14 h
      refine Z2 I (Z2v (k := .i64) (v := (.vs 2)) (n := 2) (off := 0) (len := v2.length) (es := (List.map Z1f v2)) (j := ((IntKind.i64.wrap (a0.Calls.getD v1.toNat Z4).Parent).tmod (IntKind.i64.wrap (v1 + 1)))) (m := ((IntKind.i64.wrap (a0.Calls.getD v1.toNat Z4).Parent).tmod (IntKind.i64.wrap (v1 + 1))).toNat) I s65 I I (Z2x _ _ _) I hg44 (Nat.zero_add _)) I ?_
      have ⟨hg45, h⟩ := Z14 h
      refine Z2 I (Z53 (l := v2) (enc := Z1f) (z := 0) (v := (.int .i64 (v2.getD ((IntKind.i64.wrap (a0.Calls.getD v1.toNat Z4).Parent).tmod (IntKind.i64.wrap (v1 + 1))).toNat 0))) I o3 I I hg45 I) I <| Z2 I (Zq (v := (.int .i64 (v2.getD ((IntKind.i64.wrap (a0.Calls.getD v1.toNat Z4).Parent).tmod (IntKind.i64.wrap (v1 + 1))).toNat 0))) I I) I <| Zi ?_
      exact Z11 (st' := ⟨[(1, (.ptr 1 0)), (2, (.vs 2)), (3, (.vs 3)), (4, (.int .i64 v1)), (5, (.ptr 5 0)), (6, (.int .i64 (v2.getD ((IntKind.i64.wrap (a0.Calls.getD v1.toNat Z4).Parent).tmod (IntKind.i64.wrap (v1 + 1))).toNat 0)))], [(1, (.box (Zw a0).cells)), (2, (.vec 1 (List.map Z1f v2))), (3, (.vec 1 (List.map Z1f v3))), (5, (.box (Zp (a0.Calls.getD v1.toNat Z4)).cells))]⟩) ⟨rfl, rfl, rfl, rfl, rfl, rfl, trivial⟩ ⟨rfl, rfl, rfl, rfl, trivial⟩ (J39 (v2.getD ((IntKind.i64.wrap (a0.Calls.getD v1.toNat Z4).Parent).tmod (IntKind.i64.wrap (v1 + 1))).toNat 0) h)
     ·have h := hif.2 hc
      refine Z1b ?_
      exact Z11 (st' := ⟨[(1, (.ptr 1 0)), (2, (.vs 2)), (3, (.vs 3)), (4, (.int .i64 v1)), (5, (.ptr 5 0)), (6, (.int .i64 (IntKind.i64.wrap (1000 + (IntKind.i64.wrap (a0.Start.tmod 32))))))], [(1, (.box (Zw a0).cells)), (2, (.vec 1 (List.map Z1f v2))), (3, (.vec 1 (List.map Z1f v3))), (5, (.box (Zp (a0.Calls.getD v1.toNat Z4)).cells))]⟩) ⟨rfl, rfl, rfl, rfl, rfl, rfl, trivial⟩ ⟨rfl, rfl, rfl, rfl, trivial⟩ (J39 (IntKind.i64.wrap (1000 + (IntKind.i64.wrap (a0.Start.tmod 32)))) h)
   ·have h := hif.2 hc
    refine AWp.exit <| At.thru ?_
    exact Z11 (st' := ⟨[(1, (.ptr 1 0)), (2, (.vs 2)), (3, (.vs 3))], [(1, (.box (Zw a0).cells)), (2, (.vec 1 (List.map Z1f v2))), (3, (.vec 1 (List.map Z1f v3)))]⟩) ⟨rfl, rfl, rfl, trivial⟩ ⟨rfl, rfl, rfl, trivial⟩ (J4 (v2, v3) h)
def F154 (K : Nat) (a0 : Z1w) : Option ((List Z1h)) :=
 if (0 : Int) ≤ ((IntKind.u8.wrap (a0.Tag.tdiv 8)).tmod 3) ∧ ((IntKind.u8.wrap (a0.Tag.tdiv 8)).tmod 3) < (([[97], [98], [119, 101, 115, 116, 32, 49]]).length : Nat) then
  if ((IntKind.u8.wrap (a0.Tag.tdiv 8)).tmod 3).toNat < ([[97], [98], [119, 101, 115, 116, 32, 49]]).length then
   if (0 : Int) ≤ 0 ∧ 0 ≤ (a0.Tag.tmod 4) ∧ (a0.Tag.tmod 4) ≤ (([(⟨[111, 107], (⟨3, [], (IntKind.i64.wrap ((IntKind.u8.wrap (a0.Tag.tdiv 4)).tmod 2))⟩ : Z1t)⟩ : Z1h), (⟨[115, 105, 122, 101], (⟨2, [], (IntKind.i64.wrap ((IntKind.i64.wrap a0.Tag) - 100))⟩ : Z1t)⟩ : Z1h), (⟨[122, 111, 110, 101], (⟨1, (([[97], [98], [119, 101, 115, 116, 32, 49]]).getD ((IntKind.u8.wrap (a0.Tag.tdiv 8)).tmod 3).toNat []), 0⟩ : Z1t)⟩ : Z1h)]).length : Nat) then
    if (0 + (0 : Int).toNat) + ((a0.Tag.tmod 4).toNat - (0 : Int).toNat) ≤ ([(⟨[111, 107], (⟨3, [], (IntKind.i64.wrap ((IntKind.u8.wrap (a0.Tag.tdiv 4)).tmod 2))⟩ : Z1t)⟩ : Z1h), (⟨[115, 105, 122, 101], (⟨2, [], (IntKind.i64.wrap ((IntKind.i64.wrap a0.Tag) - 100))⟩ : Z1t)⟩ : Z1h), (⟨[122, 111, 110, 101], (⟨1, (([[97], [98], [119, 101, 115, 116, 32, 49]]).getD ((IntKind.u8.wrap (a0.Tag.tdiv 8)).tmod 3).toNat []), 0⟩ : Z1t)⟩ : Z1h)]).length then
     some ((([(⟨[111, 107], (⟨3, [], (IntKind.i64.wrap ((IntKind.u8.wrap (a0.Tag.tdiv 4)).tmod 2))⟩ : Z1t)⟩ : Z1h), (⟨[115, 105, 122, 101], (⟨2, [], (IntKind.i64.wrap ((IntKind.i64.wrap a0.Tag) - 100))⟩ : Z1t)⟩ : Z1h), (⟨[122, 111, 110, 101], (⟨1, (([[97], [98], [119, 101, 115, 116, 32, 49]]).getD ((IntKind.u8.wrap (a0.Tag.tdiv 8)).tmod 3).toNat []), 0⟩ : Z1t)⟩ : Z1h)]).drop (0 + (0 : Int).toNat)).take ((a0.Tag.tmod 4).toNat - (0 : Int).toNat))
    else none
   else none
  else none
 else none
theorem F154_ok (K : Nat) (a0 : Z1w) (r : (List Z1h)) (h : F154 K a0 = some r) : ACall P 154 ⟨[(Zp a0)], [], (.sl 4 (r.map Zv) false), [], []⟩ := by
 refine Z1v Tryz.func154 Tryz.results154 rfl Tryz.ntmps154 rfl rfl rfl ?_
 intro E Q hP hN hro hret
 obtain ⟨P', nt', w0, F0, p0, S0, β0, ro0⟩ := E
 simp only at hP hN
 subst hP hN
 dsimp only [argT]
 unfold F154 at h
 refine Zl <| Zd <| Z2 I (Z2s (v := (Zp a0)) (cs := (Zp a0).cells) I I I I I) I <| Z2 I (Zq (v := (.sl 4 [] false)) I I) I <| Zi <| Zj <| Zl <| Z1u mixed ?_
 refine Z8 0 I (Zu (m := 1) (o := 0) I f241_9 I I) <| Z8 1 I (Zz (cs := (Zp a0).cells) (v := (.int .u8 a0.Tag)) I o5 I I I) <| Z8 2 I (Z39 (k := .u8) (a := a0.Tag) (b := 4) (c := (IntKind.u8.wrap (a0.Tag.tdiv 4))) I I I I (by decide)) <| Z8 3 I (Z39 (k := .u8) (a := (IntKind.u8.wrap (a0.Tag.tdiv 4))) (b := 2) (c := ((IntKind.u8.wrap (a0.Tag.tdiv 4)).tmod 2)) I I I I (by decide)) <| Z8 4 I (Z3c I us5 u3 I) <| Z8 5 I (Z29 (vs := [(0, (.int .i64 3)), (2, (.int .i64 (IntKind.i64.wrap ((IntKind.u8.wrap (a0.Tag.tdiv 4)).tmod 2))))]) (cs := [(.int .i64 3), (.str []), (.int .i64 (IntKind.i64.wrap ((IntKind.u8.wrap (a0.Tag.tdiv 4)).tmod 2)))]) I st172 ⟨rfl, rfl, rfl, rfl, trivial⟩ I) <| Z8 6 I (Z29 (vs := [(0, (.str [111, 107])), (1, (.ag [(.int .i64 3), (.str []), (.int .i64 (IntKind.i64.wrap ((IntKind.u8.wrap (a0.Tag.tdiv 4)).tmod 2)))]))]) (cs := [(.str [111, 107]), (.int .i64 3), (.str []), (.int .i64 (IntKind.i64.wrap ((IntKind.u8.wrap (a0.Tag.tdiv 4)).tmod 2)))]) I st174 ⟨rfl, rfl, rfl, rfl, trivial⟩ I) <| Z8 7 I (Zu (m := 1) (o := 0) I f241_9 I I) ?_
 refine Z8 8 I (Zz (cs := (Zp a0).cells) (v := (.int .u8 a0.Tag)) I o5 I I I) <| Z8 9 I (Z3c I us5 u3 I) <| Z8 10 I (Z1m (k := .i64) (a := (IntKind.i64.wrap a0.Tag)) (b := 100) (c := (IntKind.i64.wrap ((IntKind.i64.wrap a0.Tag) - 100))) I I I I) <| Z8 11 I (Z29 (vs := [(0, (.int .i64 2)), (2, (.int .i64 (IntKind.i64.wrap ((IntKind.i64.wrap a0.Tag) - 100))))]) (cs := [(.int .i64 2), (.str []), (.int .i64 (IntKind.i64.wrap ((IntKind.i64.wrap a0.Tag) - 100)))]) I st172 ⟨rfl, rfl, rfl, rfl, trivial⟩ I) <| Z8 12 I (Z29 (vs := [(0, (.str [115, 105, 122, 101])), (1, (.ag [(.int .i64 2), (.str []), (.int .i64 (IntKind.i64.wrap ((IntKind.i64.wrap a0.Tag) - 100)))]))]) (cs := [(.str [115, 105, 122, 101]), (.int .i64 2), (.str []), (.int .i64 (IntKind.i64.wrap ((IntKind.i64.wrap a0.Tag) - 100)))]) I st174 ⟨rfl, rfl, rfl, rfl, trivial⟩ I) <| Z8 13 I (Z1j (vs := [(.str [97]), (.str [98]), (.str [119, 101, 115, 116, 32, 49])]) (enc := Z1r) (l := [[97], [98], [119, 101, 115, 116, 32, 49]]) I el73 I I ⟨rfl, rfl, rfl, trivial⟩ I els_str I I I I) <| Z8 14 I (Zu (m := 1) (o := 0) I f241_9 I I) <| Z8 15 I (Zz (cs := (Zp a0).cells) (v := (.int .u8 a0.Tag)) I o5 I I I) ?_
 refine Z8 16 I (Z39 (k := .u8) (a := a0.Tag) (b := 8) (c := (IntKind.u8.wrap (a0.Tag.tdiv 8))) I I I I (by decide)) <| Z8 17 I (Z39 (k := .u8) (a := (IntKind.u8.wrap (a0.Tag.tdiv 8))) (b := 3) (c := ((IntKind.u8.wrap (a0.Tag.tdiv 8)).tmod 3)) I I I I (by decide)) ?_
 have ⟨hg1, h⟩ := Z14 h
 refine Z8 18 I (Z2v (k := .u8) (v := (.vs 17)) (n := 17) (off := 0) (len := ([[97], [98], [119, 101, 115, 116, 32, 49]]).length) (es := (List.map Z1r ([[97], [98], [119, 101, 115, 116, 32, 49]]))) (j := ((IntKind.u8.wrap (a0.Tag.tdiv 8)).tmod 3)) (m := ((IntKind.u8.wrap (a0.Tag.tdiv 8)).tmod 3).toNat) I s73 I I (Z2x _ _ _) I hg1 (Nat.zero_add _)) ?_
 have ⟨hg2, h⟩ := Z14 h
 refine Z8 19 I (Z53 (l := ([[97], [98], [119, 101, 115, 116, 32, 49]])) (enc := Z1r) (z := []) (v := (.str (([[97], [98], [119, 101, 115, 116, 32, 49]]).getD ((IntKind.u8.wrap (a0.Tag.tdiv 8)).tmod 3).toNat []))) I o9 I I hg2 I) <| Z8 20 I (Z29 (vs := [(0, (.int .i64 1)), (1, (.str (([[97], [98], [119, 101, 115, 116, 32, 49]]).getD ((IntKind.u8.wrap (a0.Tag.tdiv 8)).tmod 3).toNat [])))]) (cs := [(.int .i64 1), (.str (([[97], [98], [119, 101, 115, 116, 32, 49]]).getD ((IntKind.u8.wrap (a0.Tag.tdiv 8)).tmod 3).toNat [])), (.int .i64 0)]) I st172 ⟨rfl, rfl, rfl, rfl, trivial⟩ I) <| Z8 21 I (Z29 (vs := [(0, (.str [122, 111, 110, 101])), (1, (.ag [(.int .i64 1), (.str (([[97], [98], [119, 101, 115, 116, 32, 49]]).getD ((IntKind.u8.wrap (a0.Tag.tdiv 8)).tmod 3).toNat [])), (.int .i64 0)]))]) (cs := [(.str [122, 111, 110, 101]), (.int .i64 1), (.str (([[97], [98], [119, 101, 115, 116, 32, 49]]).getD ((IntKind.u8.wrap (a0.Tag.tdiv 8)).tmod 3).toNat [])), (.int .i64 0)]) I st174 ⟨rfl, rfl, rfl, rfl, trivial⟩ I) <| Z8 22 I (Z1j (vs := [(.ag [(.str [111, 107]), (.int .i64 3), (.str []), (.int .i64 (IntKind.i64.wrap ((IntKind.u8.wrap (a0.Tag.tdiv 4)).tmod 2)))]), (.ag [(.str [115, 105, 122, 101]), (.int .i64 2), (.str []), (.int .i64 (IntKind.i64.wrap ((IntKind.i64.wrap a0.Tag) - 100)))]), (.ag [(.str [122, 111, 110, 101]), (.int .i64 1), (.str (([[97], [98], [119, 101, 115, 116, 32, 49]]).getD ((IntKind.u8.wrap (a0.Tag.tdiv 8)).tmod 3).toNat [])), (.int .i64 0)])]) (enc := Zv) (l := [(⟨[111, 107], (⟨3, [], (IntKind.i64.wrap ((IntKind.u8.wrap (a0.Tag.tdiv 4)).tmod 2))⟩ : Z1t)⟩ : Z1h), (⟨[115, 105, 122, 101], (⟨2, [], (IntKind.i64.wrap ((IntKind.i64.wrap a0.Tag) - 100))⟩ : Z1t)⟩ : Z1h), (⟨[122, 111, 110, 101], (⟨1, (([[97], [98], [119, 101, 115, 116, 32, 49]]).getD ((IntKind.u8.wrap (a0.Tag.tdiv 8)).tmod 3).toNat []), 0⟩ : Z1t)⟩ : Z1h)]) I el53 I I ⟨rfl, rfl, rfl, trivial⟩ I Z5y I I I I) <| Z8 23 I (Zq (v := (.vs 26)) I I) <| Z1q (by kernel_rfl) I <| Zj <| Zl ?_
 refine Zd <| Z2 I (Zn (v := (.vs 26)) I I) I <| Z2 I (Zu (m := 1) (o := 0) I f241_9 I I) I <| Z2 I (Zz (cs := (Zp a0).cells) (v := (.int .u8 a0.Tag)) I o5 I I I) I <| Z2 I (Z39 (k := .u8) (a := a0.Tag) (b := 4) (c := (a0.Tag.tmod 4)) I I I I (by decide)) I ?_
 have ⟨hg3, h⟩ := Z14 h
 have ⟨hg4, h⟩ := Z14 h
 refine Z2 I (Z88 (v := (.vs 26)) (n := 26) (off := 0) (len := ([(⟨[111, 107], (⟨3, [], (IntKind.i64.wrap ((IntKind.u8.wrap (a0.Tag.tdiv 4)).tmod 2))⟩ : Z1t)⟩ : Z1h), (⟨[115, 105, 122, 101], (⟨2, [], (IntKind.i64.wrap ((IntKind.i64.wrap a0.Tag) - 100))⟩ : Z1t)⟩ : Z1h), (⟨[122, 111, 110, 101], (⟨1, (([[97], [98], [119, 101, 115, 116, 32, 49]]).getD ((IntKind.u8.wrap (a0.Tag.tdiv 8)).tmod 3).toNat []), 0⟩ : Z1t)⟩ : Z1h)]).length) (l := ([(⟨[111, 107], (⟨3, [], (IntKind.i64.wrap ((IntKind.u8.wrap (a0.Tag.tdiv 4)).tmod 2))⟩ : Z1t)⟩ : Z1h), (⟨[115, 105, 122, 101], (⟨2, [], (IntKind.i64.wrap ((IntKind.i64.wrap a0.Tag) - 100))⟩ : Z1t)⟩ : Z1h), (⟨[122, 111, 110, 101], (⟨1, (([[97], [98], [119, 101, 115, 116, 32, 49]]).getD ((IntKind.u8.wrap (a0.Tag.tdiv 8)).tmod 3).toNat []), 0⟩ : Z1t)⟩ : Z1h)])) (enc := Zv) (kh := .u8) (hi := (a0.Tag.tmod 4)) I s53 I I (Z2x _ _ _) I hg3 I) I <| Z2 I (Zq (v := (.vsub 26 (0 + (0 : Int).toNat) ((a0.Tag.tmod 4).toNat - (0 : Int).toNat) false)) I I) I <| Zi <| Zj <| Z1g <| At.ghost (st' := ⟨[(2, (.sl 4 (((([(⟨[111, 107], (⟨3, [], (IntKind.i64.wrap ((IntKind.u8.wrap (a0.Tag.tdiv 4)).tmod 2))⟩ : Z1t)⟩ : Z1h), (⟨[115, 105, 122, 101], (⟨2, [], (IntKind.i64.wrap ((IntKind.i64.wrap a0.Tag) - 100))⟩ : Z1t)⟩ : Z1h), (⟨[122, 111, 110, 101], (⟨1, (([[97], [98], [119, 101, 115, 116, 32, 49]]).getD ((IntKind.u8.wrap (a0.Tag.tdiv 8)).tmod 3).toNat []), 0⟩ : Z1t)⟩ : Z1h)]).drop (0 + (0 : Int).toNat)).take ((a0.Tag.tmod 4).toNat - (0 : Int).toNat)).map Zv) false))], []⟩) (fun a w h => (Z1d ⟨[(2, (.sl 4 (((([(⟨[111, 107], (⟨3, [], (IntKind.i64.wrap ((IntKind.u8.wrap (a0.Tag.tdiv 4)).tmod 2))⟩ : Z1t)⟩ : Z1h), (⟨[115, 105, 122, 101], (⟨2, [], (IntKind.i64.wrap ((IntKind.i64.wrap a0.Tag) - 100))⟩ : Z1t)⟩ : Z1h), (⟨[122, 111, 110, 101], (⟨1, (([[97], [98], [119, 101, 115, 116, 32, 49]]).getD ((IntKind.u8.wrap (a0.Tag.tdiv 8)).tmod 3).toNat []), 0⟩ : Z1t)⟩ : Z1h)]).drop (0 + (0 : Int).toNat)).take ((a0.Tag.tmod 4).toNat - (0 : Int).toNat)).map Zv) false))], []⟩ (Z2c (m := 26) (sz := 4) (es := (List.map Zv ([(⟨[111, 107], (⟨3, [], (IntKind.i64.wrap ((IntKind.u8.wrap (a0.Tag.tdiv 4)).tmod 2))⟩ : Z1t)⟩ : Z1h), (⟨[115, 105, 122, 101], (⟨2, [], (IntKind.i64.wrap ((IntKind.i64.wrap a0.Tag) - 100))⟩ : Z1t)⟩ : Z1h), (⟨[122, 111, 110, 101], (⟨1, (([[97], [98], [119, 101, 115, 116, 32, 49]]).getD ((IntKind.u8.wrap (a0.Tag.tdiv 8)).tmod 3).toNat []), 0⟩ : Z1t)⟩ : Z1h)]))) a w (Z1d ⟨[(2, (.vsub 26 (0 + (0 : Int).toNat) ((a0.Tag.tmod 4).toNat - (0 : Int).toNat) false))], [(26, (.vec 4 (List.map Zv ([(⟨[111, 107], (⟨3, [], (IntKind.i64.wrap ((IntKind.u8.wrap (a0.Tag.tdiv 4)).tmod 2))⟩ : Z1t)⟩ : Z1h), (⟨[115, 105, 122, 101], (⟨2, [], (IntKind.i64.wrap ((IntKind.i64.wrap a0.Tag) - 100))⟩ : Z1t)⟩ : Z1h), (⟨[122, 111, 110, 101], (⟨1, (([[97], [98], [119, 101, 115, 116, 32, 49]]).getD ((IntKind.u8.wrap (a0.Tag.tdiv 8)).tmod 3).toNat []), 0⟩ : Z1t)⟩ : Z1h)]))))]⟩ h ⟨rfl, trivial⟩ ⟨rfl, trivial⟩)) ⟨(congrArg some (frz_sub hg4)), trivial⟩ trivial)) ?_
 have h := Option.some.inj h
 subst h
 refine (hret _ ?_).1
 exact ⟨[(.sl 4 (((([(⟨[111, 107], (⟨3, [], (IntKind.i64.wrap ((IntKind.u8.wrap (a0.Tag.tdiv 4)).tmod 2))⟩ : Z1t)⟩ : Z1h), (⟨[115, 105, 122, 101], (⟨2, [], (IntKind.i64.wrap ((IntKind.i64.wrap a0.Tag) - 100))⟩ : Z1t)⟩ : Z1h), (⟨[122, 111, 110, 101], (⟨1, (([[97], [98], [119, 101, 115, 116, 32, 49]]).getD ((IntKind.u8.wrap (a0.Tag.tdiv 8)).tmod 3).toNat []), 0⟩ : Z1t)⟩ : Z1h)]).drop (0 + (0 : Int).toNat)).take ((a0.Tag.tmod 4).toNat - (0 : Int).toNat)).map Zv) false)], ⟨rfl, trivial⟩, rfl, trivial⟩
def Z77 (K : Nat) (a0 : Zy) (a1 : Int) (a2 : Int) (v16 : Zh) (v20 : (List Z22)) : Option (Zh) :=
 (F154 K ((a0.Trees.getD a1.toNat Z7).Calls.getD a2.toNat Z4)).bind fun v23 =>
  some (⟨v16.Trace, v16.Id, v16.Parent, v16.Revision, v16.Clock, v16.Kind, v16.Service, v16.Version, v16.Operation, v16.Start, v16.End, v16.Error, v23, v20⟩ : Zh)
def Z5u (K : Nat) (a0 : Zy) (a1 : Int) (a2 : Int) (a3 : (List Int)) (v16 : Zh) : Option (Zh) :=
 if (decide ((IntKind.i64.wrap (((a0.Trees.getD a1.toNat Z7).Calls.getD a2.toNat Z4).Link.tmod 16)) < a2)) = true then
  if (0 : Int) ≤ (IntKind.i64.wrap (((a0.Trees.getD a1.toNat Z7).Calls.getD a2.toNat Z4).Link.tmod 16)) ∧ (IntKind.i64.wrap (((a0.Trees.getD a1.toNat Z7).Calls.getD a2.toNat Z4).Link.tmod 16)) < a3.length then
   if (0 : Int) ≤ a2 ∧ a2 < a3.length then
    if (decide ((a3.getD (IntKind.i64.wrap (((a0.Trees.getD a1.toNat Z7).Calls.getD a2.toNat Z4).Link.tmod 16)).toNat 0) ≤ (a3.getD a2.toNat 0))) = true then
     Z77 K a0 a1 a2 v16 [(⟨v16.Trace, (IntKind.i64.wrap ((IntKind.i64.wrap (((a0.Trees.getD a1.toNat Z7).Calls.getD a2.toNat Z4).Link.tmod 16)) + 1))⟩ : Z22)]
    else
     Z77 K a0 a1 a2 v16 v16.Links
   else none
  else none
 else
  (F154 K ((a0.Trees.getD a1.toNat Z7).Calls.getD a2.toNat Z4)).bind fun v25 =>
   some (⟨v16.Trace, v16.Id, v16.Parent, v16.Revision, v16.Clock, v16.Kind, v16.Service, v16.Version, v16.Operation, v16.Start, v16.End, v16.Error, v25, v16.Links⟩ : Zh)
def F123 (K : Nat) (a0 : Zy) (a1 : Int) (a2 : Int) (a3 : (List Int)) (a4 : (List Int)) : Option (Zh) :=
 if (0 : Int) ≤ a1 ∧ a1 < a0.Trees.length then
  if (0 : Int) ≤ a2 ∧ a2 < (a0.Trees.getD a1.toNat Z7).Calls.length then
   (F82 K a0 a1).bind fun v4 =>
    (F153 K ((a0.Trees.getD a1.toNat Z7).Calls.getD a2.toNat Z4)).bind fun v6 =>
     if (0 : Int) ≤ a2 ∧ a2 < a3.length then
      if (0 : Int) ≤ a2 ∧ a2 < a4.length then
       if (0 : Int) ≤ (((a0.Trees.getD a1.toNat Z7).Calls.getD a2.toNat Z4).Service.tmod 4) ∧ (((a0.Trees.getD a1.toNat Z7).Calls.getD a2.toNat Z4).Service.tmod 4) < (([[97, 112, 105], [100, 98], [119, 101, 98], [99, 97, 99, 104, 101]]).length : Nat) then
        if (((a0.Trees.getD a1.toNat Z7).Calls.getD a2.toNat Z4).Service.tmod 4).toNat < ([[97, 112, 105], [100, 98], [119, 101, 98], [99, 97, 99, 104, 101]]).length then
         if (0 : Int) ≤ (((a0.Trees.getD a1.toNat Z7).Calls.getD a2.toNat Z4).Version.tmod 3) ∧ (((a0.Trees.getD a1.toNat Z7).Calls.getD a2.toNat Z4).Version.tmod 3) < (([[118, 49], [118, 50], []]).length : Nat) then
          if (((a0.Trees.getD a1.toNat Z7).Calls.getD a2.toNat Z4).Version.tmod 3).toNat < ([[118, 49], [118, 50], []]).length then
           if (0 : Int) ≤ (((a0.Trees.getD a1.toNat Z7).Calls.getD a2.toNat Z4).Operation.tmod 3) ∧ (((a0.Trees.getD a1.toNat Z7).Calls.getD a2.toNat Z4).Operation.tmod 3) < (([[103, 101, 116], [112, 117, 116], [108, 105, 115, 116]]).length : Nat) then
            if (((a0.Trees.getD a1.toNat Z7).Calls.getD a2.toNat Z4).Operation.tmod 3).toNat < ([[103, 101, 116], [112, 117, 116], [108, 105, 115, 116]]).length then
             if (IntKind.i64.wrap (a2 + 1)) ≠ 0 then
              if (decide (((IntKind.i64.wrap ((a0.Trees.getD a1.toNat Z7).Calls.getD a2.toNat Z4).Parent).tmod (IntKind.i64.wrap (a2 + 1))) < a2)) = true then
               Z5u K a0 a1 a2 a3 (⟨v4, (IntKind.i64.wrap (a2 + 1)), (IntKind.i64.wrap (((IntKind.i64.wrap ((a0.Trees.getD a1.toNat Z7).Calls.getD a2.toNat Z4).Parent).tmod (IntKind.i64.wrap (a2 + 1))) + 1)), 0, (IntKind.i64.wrap (1 + (IntKind.i64.wrap (((a0.Trees.getD a1.toNat Z7).Calls.getD a2.toNat Z4).Clock.tmod 4)))), v6, (([[97, 112, 105], [100, 98], [119, 101, 98], [99, 97, 99, 104, 101]]).getD (((a0.Trees.getD a1.toNat Z7).Calls.getD a2.toNat Z4).Service.tmod 4).toNat []), (([[118, 49], [118, 50], []]).getD (((a0.Trees.getD a1.toNat Z7).Calls.getD a2.toNat Z4).Version.tmod 3).toNat []), (([[103, 101, 116], [112, 117, 116], [108, 105, 115, 116]]).getD (((a0.Trees.getD a1.toNat Z7).Calls.getD a2.toNat Z4).Operation.tmod 3).toNat []), (a3.getD a2.toNat 0), (a4.getD a2.toNat 0), ((a0.Trees.getD a1.toNat Z7).Calls.getD a2.toNat Z4).Fail, [], []⟩ : Zh)
              else
               if (decide (a2 > 0)) = true then
                Z5u K a0 a1 a2 a3 (⟨v4, (IntKind.i64.wrap (a2 + 1)), 100, 0, (IntKind.i64.wrap (1 + (IntKind.i64.wrap (((a0.Trees.getD a1.toNat Z7).Calls.getD a2.toNat Z4).Clock.tmod 4)))), v6, (([[97, 112, 105], [100, 98], [119, 101, 98], [99, 97, 99, 104, 101]]).getD (((a0.Trees.getD a1.toNat Z7).Calls.getD a2.toNat Z4).Service.tmod 4).toNat []), (([[118, 49], [118, 50], []]).getD (((a0.Trees.getD a1.toNat Z7).Calls.getD a2.toNat Z4).Version.tmod 3).toNat []), (([[103, 101, 116], [112, 117, 116], [108, 105, 115, 116]]).getD (((a0.Trees.getD a1.toNat Z7).Calls.getD a2.toNat Z4).Operation.tmod 3).toNat []), (a3.getD a2.toNat 0), (a4.getD a2.toNat 0), ((a0.Trees.getD a1.toNat Z7).Calls.getD a2.toNat Z4).Fail, [], []⟩ : Zh)
               else
                Z5u K a0 a1 a2 a3 (⟨v4, (IntKind.i64.wrap (a2 + 1)), 0, 0, (IntKind.i64.wrap (1 + (IntKind.i64.wrap (((a0.Trees.getD a1.toNat Z7).Calls.getD a2.toNat Z4).Clock.tmod 4)))), v6, (([[97, 112, 105], [100, 98], [119, 101, 98], [99, 97, 99, 104, 101]]).getD (((a0.Trees.getD a1.toNat Z7).Calls.getD a2.toNat Z4).Service.tmod 4).toNat []), (([[118, 49], [118, 50], []]).getD (((a0.Trees.getD a1.toNat Z7).Calls.getD a2.toNat Z4).Version.tmod 3).toNat []), (([[103, 101, 116], [112, 117, 116], [108, 105, 115, 116]]).getD (((a0.Trees.getD a1.toNat Z7).Calls.getD a2.toNat Z4).Operation.tmod 3).toNat []), (a3.getD a2.toNat 0), (a4.getD a2.toNat 0), ((a0.Trees.getD a1.toNat Z7).Calls.getD a2.toNat Z4).Fail, [], []⟩ : Zh)
             else none
            else none
           else none
          else none
         else none
        else none
       else none
      else none
     else none
  else none
 else none
theorem F123_ok (K : Nat) (a0 : Zy) (a1 : Int) (a2 : Int) (a3 : (List Int)) (a4 : (List Int)) (r : Zh) (h : F123 K a0 a1 a2 a3 a4 = some r) : ACall P 123 ⟨[(Zo a0), (.int .i64 a1), (.int .i64 a2), (.sl 1 (a3.map Z1f) false), (.sl 1 (a4.map Z1f) false)], [], (Z5 r), [], []⟩ := by
 refine Z1v Tryz.func123 Tryz.results123 rfl Tryz.ntmps123 rfl rfl rfl ?_
 intro E Q hP hN hro hret
 obtain ⟨P', nt', w0, F0, p0, S0, β0, ro0⟩ := E
 simp only at hP hN
 subst hP hN
 dsimp only [argT]
 unfold F123 at h
 refine Zl <| Zd <| Z2 I (Z2s (v := (Zo a0)) (cs := (Zo a0).cells) I I I I I) I <| Z2 I (Z1x (cs := [(.int .i64 0), (.int .i64 0), (.int .i64 0), (.int .i64 0), (.int .i64 0), (.int .i64 0), (.str []), (.str []), (.str []), (.int .i64 0), (.int .i64 0), (.bool false), (.sl 4 [] false), (.sl 2 [] false)]) I z56 I I I) I <| Zi <| Zj <| Zl <| Zd ?_
 refine Z2 I (Zu (m := 5) (o := 0) I f27_0 I I) I <| Z2 I (Zz (cs := (Zo a0).cells) (v := (.sl 3 (a0.Trees.map Zw) false)) I o22 I I I) I <| Z2 I (Zn (v := (.int .i64 a1)) I I) I ?_
 have ⟨hg1, h⟩ := Z14 h
 refine Z2 I (Z1s (k := .i64) (l := a0.Trees) (enc := Zw) (z := Z7) (n := a1) (cs := (Zw (a0.Trees.getD a1.toNat Z7)).cells) (full := false) I s22 I I hg1 I) I <| Z2 I (Z2d (cs := (Zw (a0.Trees.getD a1.toNat Z7)).cells) (ds := [(.sl 11 ((a0.Trees.getD a1.toNat Z7).Calls.map Zp) false)]) I Z6w I I I) I <| Z2 I (Z24 (cs := [(.sl 11 ((a0.Trees.getD a1.toNat Z7).Calls.map Zp) false)]) (v := (.sl 11 ((a0.Trees.getD a1.toNat Z7).Calls.map Zp) false)) I o103 I I) I <| Z2 I (Zn (v := (.int .i64 a2)) I I) I ?_
 have ⟨hg2, h⟩ := Z14 h
 refine Z2 I (Z1s (k := .i64) (l := (a0.Trees.getD a1.toNat Z7).Calls) (enc := Zp) (z := Z4) (n := a2) (cs := (Zp ((a0.Trees.getD a1.toNat Z7).Calls.getD a2.toNat Z4)).cells) (full := false) I s103 I I hg2 I) I <| Z2 I (Z2i (cs := (Zp ((a0.Trees.getD a1.toNat Z7).Calls.getD a2.toNat Z4)).cells) (vs := (Zp ((a0.Trees.getD a1.toNat Z7).Calls.getD a2.toNat Z4)).cells) I a241 I I I) I <| Z2 I (Z1x (cs := [(.int .u8 0), (.int .u8 0), (.int .u8 0), (.int .u8 0), (.int .u8 0), (.int .u8 0), (.int .u8 0), (.int .u8 0), (.int .u8 0), (.int .u8 0), (.bool false)]) I z241 I I I) I <| Z2 I (Z1a (cs := [(.int .u8 0), (.int .u8 0), (.int .u8 0), (.int .u8 0), (.int .u8 0), (.int .u8 0), (.int .u8 0), (.int .u8 0), (.int .u8 0), (.int .u8 0), (.bool false)]) (vs := (Zp ((a0.Trees.getD a1.toNat Z7).Calls.getD a2.toNat Z4)).cells) (ds := (Zp ((a0.Trees.getD a1.toNat Z7).Calls.getD a2.toNat Z4)).cells) (v := (Zp ((a0.Trees.getD a1.toNat Z7).Calls.getD a2.toNat Z4))) sz241 I I I I I I I I) I <| Zi <| Zj <| Zl <| Z1u mixed ?_
 refine Z8 0 I (Z1k (cs := (Zo a0).cells) (vs := (Zo a0).cells) I a27 I I I I) <| Z8 1 I (Zn (v := (.int .i64 a1)) I I) ?_
 have ⟨v4, hv4, h⟩ := Z1c h
 refine Z8 2 I (Z1e (ar := [(Zo a0), (.int .i64 a1)]) (caps := []) Tryz.call82 (F82_ok K a0 a1 v4 hv4) I I ⟨rfl, rfl, trivial⟩ I) <| Z8 3 I (Zn (v := (.int .i64 a2)) I I) <| Z8 4 I (Z1m (k := .i64) (a := a2) (b := 1) (c := (IntKind.i64.wrap (a2 + 1))) I I I I) <| Z8 5 I (Zu (m := 11) (o := 0) I f241_1 I I) <| Z8 6 I (Zz (cs := (Zp ((a0.Trees.getD a1.toNat Z7).Calls.getD a2.toNat Z4)).cells) (v := (.int .u8 ((a0.Trees.getD a1.toNat Z7).Calls.getD a2.toNat Z4).Clock)) I o5 I I I) <| Z8 7 I (Z39 (k := .u8) (a := ((a0.Trees.getD a1.toNat Z7).Calls.getD a2.toNat Z4).Clock) (b := 4) (c := (((a0.Trees.getD a1.toNat Z7).Calls.getD a2.toNat Z4).Clock.tmod 4)) I I I I (by decide)) <| Z8 8 I (Z3c I us5 u3 I) <| Z8 9 I (Z1m (k := .i64) (a := 1) (b := (IntKind.i64.wrap (((a0.Trees.getD a1.toNat Z7).Calls.getD a2.toNat Z4).Clock.tmod 4))) (c := (IntKind.i64.wrap (1 + (IntKind.i64.wrap (((a0.Trees.getD a1.toNat Z7).Calls.getD a2.toNat Z4).Clock.tmod 4))))) I I I I) ?_
 refine Z8 10 I (Z1k (cs := (Zp ((a0.Trees.getD a1.toNat Z7).Calls.getD a2.toNat Z4)).cells) (vs := (Zp ((a0.Trees.getD a1.toNat Z7).Calls.getD a2.toNat Z4)).cells) I a241 I I I I) ?_
 have ⟨v6, hv6, h⟩ := Z1c h
 refine Z8 11 I (Z1e (ar := [(Zp ((a0.Trees.getD a1.toNat Z7).Calls.getD a2.toNat Z4))]) (caps := []) Tryz.call153 (F153_ok K ((a0.Trees.getD a1.toNat Z7).Calls.getD a2.toNat Z4) v6 hv6) I I ⟨rfl, trivial⟩ I) <| Z8 12 I (Zu (m := 11) (o := 0) I f241_10 I I) <| Z8 13 I (Zz (cs := (Zp ((a0.Trees.getD a1.toNat Z7).Calls.getD a2.toNat Z4)).cells) (v := (.bool ((a0.Trees.getD a1.toNat Z7).Calls.getD a2.toNat Z4).Fail)) I o4 I I I) <| Z8 14 I (Zn (v := (.sl 1 (a3.map Z1f) false)) I I) <| Z8 15 I (Zn (v := (.int .i64 a2)) I I) ?_
 have ⟨hg7, h⟩ := Z14 h
 refine Z8 16 I (Z1s (k := .i64) (l := a3) (enc := Z1f) (z := 0) (n := a2) (cs := [(.int .i64 (a3.getD a2.toNat 0))]) (full := false) I s65 I I hg7 I) <| Z8 17 I (Z24 (cs := [(.int .i64 (a3.getD a2.toNat 0))]) (v := (.int .i64 (a3.getD a2.toNat 0))) I o3 I I) <| Z8 18 I (Zn (v := (.sl 1 (a4.map Z1f) false)) I I) <| Z8 19 I (Zn (v := (.int .i64 a2)) I I) ?_
 have ⟨hg8, h⟩ := Z14 h
 refine Z8 20 I (Z1s (k := .i64) (l := a4) (enc := Z1f) (z := 0) (n := a2) (cs := [(.int .i64 (a4.getD a2.toNat 0))]) (full := false) I s65 I I hg8 I) <| Z8 21 I (Z24 (cs := [(.int .i64 (a4.getD a2.toNat 0))]) (v := (.int .i64 (a4.getD a2.toNat 0))) I o3 I I) <| Z8 22 I (Z29 (vs := [(0, (.int .i64 v4)), (1, (.int .i64 (IntKind.i64.wrap (a2 + 1)))), (4, (.int .i64 (IntKind.i64.wrap (1 + (IntKind.i64.wrap (((a0.Trees.getD a1.toNat Z7).Calls.getD a2.toNat Z4).Clock.tmod 4)))))), (5, (.int .i64 v6)), (11, (.bool ((a0.Trees.getD a1.toNat Z7).Calls.getD a2.toNat Z4).Fail)), (9, (.int .i64 (a3.getD a2.toNat 0))), (10, (.int .i64 (a4.getD a2.toNat 0)))]) (cs := [(.int .i64 v4), (.int .i64 (IntKind.i64.wrap (a2 + 1))), (.int .i64 0), (.int .i64 0), (.int .i64 (IntKind.i64.wrap (1 + (IntKind.i64.wrap (((a0.Trees.getD a1.toNat Z7).Calls.getD a2.toNat Z4).Clock.tmod 4))))), (.int .i64 v6), (.str []), (.str []), (.str []), (.int .i64 (a3.getD a2.toNat 0)), (.int .i64 (a4.getD a2.toNat 0)), (.bool ((a0.Trees.getD a1.toNat Z7).Calls.getD a2.toNat Z4).Fail), (.sl 4 [] false), (.sl 2 [] false)]) I st56 ⟨rfl, rfl, rfl, rfl, rfl, rfl, rfl, rfl, rfl, rfl, rfl, rfl, rfl, rfl, trivial⟩ I) <| Z8 23 I (Z1x (cs := [(.int .i64 0), (.int .i64 0), (.int .i64 0), (.int .i64 0), (.int .i64 0), (.int .i64 0), (.str []), (.str []), (.str []), (.int .i64 0), (.int .i64 0), (.bool false), (.sl 4 [] false), (.sl 2 [] false)]) I z56 I I I) <| Z8 24 I (Z1a (cs := [(.int .i64 0), (.int .i64 0), (.int .i64 0), (.int .i64 0), (.int .i64 0), (.int .i64 0), (.str []), (.str []), (.str []), (.int .i64 0), (.int .i64 0), (.bool false), (.sl 4 [] false), (.sl 2 [] false)]) (vs := [(.int .i64 v4), (.int .i64 (IntKind.i64.wrap (a2 + 1))), (.int .i64 0), (.int .i64 0), (.int .i64 (IntKind.i64.wrap (1 + (IntKind.i64.wrap (((a0.Trees.getD a1.toNat Z7).Calls.getD a2.toNat Z4).Clock.tmod 4))))), (.int .i64 v6), (.str []), (.str []), (.str []), (.int .i64 (a3.getD a2.toNat 0)), (.int .i64 (a4.getD a2.toNat 0)), (.bool ((a0.Trees.getD a1.toNat Z7).Calls.getD a2.toNat Z4).Fail), (.sl 4 [] false), (.sl 2 [] false)]) (ds := [(.int .i64 v4), (.int .i64 (IntKind.i64.wrap (a2 + 1))), (.int .i64 0), (.int .i64 0), (.int .i64 (IntKind.i64.wrap (1 + (IntKind.i64.wrap (((a0.Trees.getD a1.toNat Z7).Calls.getD a2.toNat Z4).Clock.tmod 4))))), (.int .i64 v6), (.str []), (.str []), (.str []), (.int .i64 (a3.getD a2.toNat 0)), (.int .i64 (a4.getD a2.toNat 0)), (.bool ((a0.Trees.getD a1.toNat Z7).Calls.getD a2.toNat Z4).Fail), (.sl 4 [] false), (.sl 2 [] false)]) (v := (.ag [(.int .i64 v4), (.int .i64 (IntKind.i64.wrap (a2 + 1))), (.int .i64 0), (.int .i64 0), (.int .i64 (IntKind.i64.wrap (1 + (IntKind.i64.wrap (((a0.Trees.getD a1.toNat Z7).Calls.getD a2.toNat Z4).Clock.tmod 4))))), (.int .i64 v6), (.str []), (.str []), (.str []), (.int .i64 (a3.getD a2.toNat 0)), (.int .i64 (a4.getD a2.toNat 0)), (.bool ((a0.Trees.getD a1.toNat Z7).Calls.getD a2.toNat Z4).Fail), (.sl 4 [] false), (.sl 2 [] false)])) sz56 I I I I I I I I) <| Z1q (by kernel_rfl) I <| Zj <| Zl ?_
 refine Zd <| Z2 I (Z1j (vs := [(.str [97, 112, 105]), (.str [100, 98]), (.str [119, 101, 98]), (.str [99, 97, 99, 104, 101])]) (enc := Z1r) (l := [[97, 112, 105], [100, 98], [119, 101, 98], [99, 97, 99, 104, 101]]) I el73 I I ⟨rfl, rfl, rfl, rfl, trivial⟩ I els_str I I I I) I <| Z2 I (Zu (m := 11) (o := 0) I f241_3 I I) I <| Z2 I (Zz (cs := (Zp ((a0.Trees.getD a1.toNat Z7).Calls.getD a2.toNat Z4)).cells) (v := (.int .u8 ((a0.Trees.getD a1.toNat Z7).Calls.getD a2.toNat Z4).Service)) I o5 I I I) I <| Z2 I (Z39 (k := .u8) (a := ((a0.Trees.getD a1.toNat Z7).Calls.getD a2.toNat Z4).Service) (b := 4) (c := (((a0.Trees.getD a1.toNat Z7).Calls.getD a2.toNat Z4).Service.tmod 4)) I I I I (by decide)) I ?_
 have ⟨hg9, h⟩ := Z14 h
 refine Z2 I (Z2v (k := .u8) (v := (.vs 47)) (n := 47) (off := 0) (len := ([[97, 112, 105], [100, 98], [119, 101, 98], [99, 97, 99, 104, 101]]).length) (es := (List.map Z1r ([[97, 112, 105], [100, 98], [119, 101, 98], [99, 97, 99, 104, 101]]))) (j := (((a0.Trees.getD a1.toNat Z7).Calls.getD a2.toNat Z4).Service.tmod 4)) (m := (((a0.Trees.getD a1.toNat Z7).Calls.getD a2.toNat Z4).Service.tmod 4).toNat) I s73 I I (Z2x _ _ _) I hg9 (Nat.zero_add _)) I ?_
 have ⟨hg10, h⟩ := Z14 h
 refine Z2 I (Z53 (l := ([[97, 112, 105], [100, 98], [119, 101, 98], [99, 97, 99, 104, 101]])) (enc := Z1r) (z := []) (v := (.str (([[97, 112, 105], [100, 98], [119, 101, 98], [99, 97, 99, 104, 101]]).getD (((a0.Trees.getD a1.toNat Z7).Calls.getD a2.toNat Z4).Service.tmod 4).toNat []))) I o9 I I hg10 I) I <| Z2 I (Zu (m := 12) (o := 0) I Z67 I I) I <| Z2 I (Z1a (cs := [(.int .i64 v4), (.int .i64 (IntKind.i64.wrap (a2 + 1))), (.int .i64 0), (.int .i64 0), (.int .i64 (IntKind.i64.wrap (1 + (IntKind.i64.wrap (((a0.Trees.getD a1.toNat Z7).Calls.getD a2.toNat Z4).Clock.tmod 4))))), (.int .i64 v6), (.str []), (.str []), (.str []), (.int .i64 (a3.getD a2.toNat 0)), (.int .i64 (a4.getD a2.toNat 0)), (.bool ((a0.Trees.getD a1.toNat Z7).Calls.getD a2.toNat Z4).Fail), (.sl 4 [] false), (.sl 2 [] false)]) (vs := [(.str (([[97, 112, 105], [100, 98], [119, 101, 98], [99, 97, 99, 104, 101]]).getD (((a0.Trees.getD a1.toNat Z7).Calls.getD a2.toNat Z4).Service.tmod 4).toNat []))]) (ds := [(.int .i64 v4), (.int .i64 (IntKind.i64.wrap (a2 + 1))), (.int .i64 0), (.int .i64 0), (.int .i64 (IntKind.i64.wrap (1 + (IntKind.i64.wrap (((a0.Trees.getD a1.toNat Z7).Calls.getD a2.toNat Z4).Clock.tmod 4))))), (.int .i64 v6), (.str (([[97, 112, 105], [100, 98], [119, 101, 98], [99, 97, 99, 104, 101]]).getD (((a0.Trees.getD a1.toNat Z7).Calls.getD a2.toNat Z4).Service.tmod 4).toNat [])), (.str []), (.str []), (.int .i64 (a3.getD a2.toNat 0)), (.int .i64 (a4.getD a2.toNat 0)), (.bool ((a0.Trees.getD a1.toNat Z7).Calls.getD a2.toNat Z4).Fail), (.sl 4 [] false), (.sl 2 [] false)]) (v := (.str (([[97, 112, 105], [100, 98], [119, 101, 98], [99, 97, 99, 104, 101]]).getD (((a0.Trees.getD a1.toNat Z7).Calls.getD a2.toNat Z4).Service.tmod 4).toNat []))) sz9 I I I I I I I I) I <| Zi <| Zj <| Zl <| Zd <| Z2 I (Z1j (vs := [(.str [118, 49]), (.str [118, 50]), (.str [])]) (enc := Z1r) (l := [[118, 49], [118, 50], []]) I el73 I I ⟨rfl, rfl, rfl, trivial⟩ I els_str I I I I) I ?_
 refine Z2 I (Zu (m := 11) (o := 0) I f241_4 I I) I <| Z2 I (Zz (cs := (Zp ((a0.Trees.getD a1.toNat Z7).Calls.getD a2.toNat Z4)).cells) (v := (.int .u8 ((a0.Trees.getD a1.toNat Z7).Calls.getD a2.toNat Z4).Version)) I o5 I I I) I <| Z2 I (Z39 (k := .u8) (a := ((a0.Trees.getD a1.toNat Z7).Calls.getD a2.toNat Z4).Version) (b := 3) (c := (((a0.Trees.getD a1.toNat Z7).Calls.getD a2.toNat Z4).Version.tmod 3)) I I I I (by decide)) I ?_
 have ⟨hg11, h⟩ := Z14 h
 refine Z2 I (Z2v (k := .u8) (v := (.vs 54)) (n := 54) (off := 0) (len := ([[118, 49], [118, 50], []]).length) (es := (List.map Z1r ([[118, 49], [118, 50], []]))) (j := (((a0.Trees.getD a1.toNat Z7).Calls.getD a2.toNat Z4).Version.tmod 3)) (m := (((a0.Trees.getD a1.toNat Z7).Calls.getD a2.toNat Z4).Version.tmod 3).toNat) I s73 I I (Z2x _ _ _) I hg11 (Nat.zero_add _)) I ?_
 have ⟨hg12, h⟩ := Z14 h
 refine Z2 I (Z53 (l := ([[118, 49], [118, 50], []])) (enc := Z1r) (z := []) (v := (.str (([[118, 49], [118, 50], []]).getD (((a0.Trees.getD a1.toNat Z7).Calls.getD a2.toNat Z4).Version.tmod 3).toNat []))) I o9 I I hg12 I) I <| Z2 I (Zu (m := 12) (o := 0) I f56_7 I I) I <| Z2 I (Z1a (cs := [(.int .i64 v4), (.int .i64 (IntKind.i64.wrap (a2 + 1))), (.int .i64 0), (.int .i64 0), (.int .i64 (IntKind.i64.wrap (1 + (IntKind.i64.wrap (((a0.Trees.getD a1.toNat Z7).Calls.getD a2.toNat Z4).Clock.tmod 4))))), (.int .i64 v6), (.str (([[97, 112, 105], [100, 98], [119, 101, 98], [99, 97, 99, 104, 101]]).getD (((a0.Trees.getD a1.toNat Z7).Calls.getD a2.toNat Z4).Service.tmod 4).toNat [])), (.str []), (.str []), (.int .i64 (a3.getD a2.toNat 0)), (.int .i64 (a4.getD a2.toNat 0)), (.bool ((a0.Trees.getD a1.toNat Z7).Calls.getD a2.toNat Z4).Fail), (.sl 4 [] false), (.sl 2 [] false)]) (vs := [(.str (([[118, 49], [118, 50], []]).getD (((a0.Trees.getD a1.toNat Z7).Calls.getD a2.toNat Z4).Version.tmod 3).toNat []))]) (ds := [(.int .i64 v4), (.int .i64 (IntKind.i64.wrap (a2 + 1))), (.int .i64 0), (.int .i64 0), (.int .i64 (IntKind.i64.wrap (1 + (IntKind.i64.wrap (((a0.Trees.getD a1.toNat Z7).Calls.getD a2.toNat Z4).Clock.tmod 4))))), (.int .i64 v6), (.str (([[97, 112, 105], [100, 98], [119, 101, 98], [99, 97, 99, 104, 101]]).getD (((a0.Trees.getD a1.toNat Z7).Calls.getD a2.toNat Z4).Service.tmod 4).toNat [])), (.str (([[118, 49], [118, 50], []]).getD (((a0.Trees.getD a1.toNat Z7).Calls.getD a2.toNat Z4).Version.tmod 3).toNat [])), (.str []), (.int .i64 (a3.getD a2.toNat 0)), (.int .i64 (a4.getD a2.toNat 0)), (.bool ((a0.Trees.getD a1.toNat Z7).Calls.getD a2.toNat Z4).Fail), (.sl 4 [] false), (.sl 2 [] false)]) (v := (.str (([[118, 49], [118, 50], []]).getD (((a0.Trees.getD a1.toNat Z7).Calls.getD a2.toNat Z4).Version.tmod 3).toNat []))) sz9 I I I I I I I I) I <| Zi <| Zj <| Zl <| Zd <| Z2 I (Z1j (vs := [(.str [103, 101, 116]), (.str [112, 117, 116]), (.str [108, 105, 115, 116])]) (enc := Z1r) (l := [[103, 101, 116], [112, 117, 116], [108, 105, 115, 116]]) I el73 I I ⟨rfl, rfl, rfl, trivial⟩ I els_str I I I I) I ?_
 refine Z2 I (Zu (m := 11) (o := 0) I f241_5 I I) I <| Z2 I (Zz (cs := (Zp ((a0.Trees.getD a1.toNat Z7).Calls.getD a2.toNat Z4)).cells) (v := (.int .u8 ((a0.Trees.getD a1.toNat Z7).Calls.getD a2.toNat Z4).Operation)) I o5 I I I) I <| Z2 I (Z39 (k := .u8) (a := ((a0.Trees.getD a1.toNat Z7).Calls.getD a2.toNat Z4).Operation) (b := 3) (c := (((a0.Trees.getD a1.toNat Z7).Calls.getD a2.toNat Z4).Operation.tmod 3)) I I I I (by decide)) I ?_
 have ⟨hg13, h⟩ := Z14 h
 refine Z2 I (Z2v (k := .u8) (v := (.vs 61)) (n := 61) (off := 0) (len := ([[103, 101, 116], [112, 117, 116], [108, 105, 115, 116]]).length) (es := (List.map Z1r ([[103, 101, 116], [112, 117, 116], [108, 105, 115, 116]]))) (j := (((a0.Trees.getD a1.toNat Z7).Calls.getD a2.toNat Z4).Operation.tmod 3)) (m := (((a0.Trees.getD a1.toNat Z7).Calls.getD a2.toNat Z4).Operation.tmod 3).toNat) I s73 I I (Z2x _ _ _) I hg13 (Nat.zero_add _)) I ?_
 have ⟨hg14, h⟩ := Z14 h
 refine Z2 I (Z53 (l := ([[103, 101, 116], [112, 117, 116], [108, 105, 115, 116]])) (enc := Z1r) (z := []) (v := (.str (([[103, 101, 116], [112, 117, 116], [108, 105, 115, 116]]).getD (((a0.Trees.getD a1.toNat Z7).Calls.getD a2.toNat Z4).Operation.tmod 3).toNat []))) I o9 I I hg14 I) I <| Z2 I (Zu (m := 12) (o := 0) I f56_8 I I) I <| Z2 I (Z1a (cs := [(.int .i64 v4), (.int .i64 (IntKind.i64.wrap (a2 + 1))), (.int .i64 0), (.int .i64 0), (.int .i64 (IntKind.i64.wrap (1 + (IntKind.i64.wrap (((a0.Trees.getD a1.toNat Z7).Calls.getD a2.toNat Z4).Clock.tmod 4))))), (.int .i64 v6), (.str (([[97, 112, 105], [100, 98], [119, 101, 98], [99, 97, 99, 104, 101]]).getD (((a0.Trees.getD a1.toNat Z7).Calls.getD a2.toNat Z4).Service.tmod 4).toNat [])), (.str (([[118, 49], [118, 50], []]).getD (((a0.Trees.getD a1.toNat Z7).Calls.getD a2.toNat Z4).Version.tmod 3).toNat [])), (.str []), (.int .i64 (a3.getD a2.toNat 0)), (.int .i64 (a4.getD a2.toNat 0)), (.bool ((a0.Trees.getD a1.toNat Z7).Calls.getD a2.toNat Z4).Fail), (.sl 4 [] false), (.sl 2 [] false)]) (vs := [(.str (([[103, 101, 116], [112, 117, 116], [108, 105, 115, 116]]).getD (((a0.Trees.getD a1.toNat Z7).Calls.getD a2.toNat Z4).Operation.tmod 3).toNat []))]) (ds := [(.int .i64 v4), (.int .i64 (IntKind.i64.wrap (a2 + 1))), (.int .i64 0), (.int .i64 0), (.int .i64 (IntKind.i64.wrap (1 + (IntKind.i64.wrap (((a0.Trees.getD a1.toNat Z7).Calls.getD a2.toNat Z4).Clock.tmod 4))))), (.int .i64 v6), (.str (([[97, 112, 105], [100, 98], [119, 101, 98], [99, 97, 99, 104, 101]]).getD (((a0.Trees.getD a1.toNat Z7).Calls.getD a2.toNat Z4).Service.tmod 4).toNat [])), (.str (([[118, 49], [118, 50], []]).getD (((a0.Trees.getD a1.toNat Z7).Calls.getD a2.toNat Z4).Version.tmod 3).toNat [])), (.str (([[103, 101, 116], [112, 117, 116], [108, 105, 115, 116]]).getD (((a0.Trees.getD a1.toNat Z7).Calls.getD a2.toNat Z4).Operation.tmod 3).toNat [])), (.int .i64 (a3.getD a2.toNat 0)), (.int .i64 (a4.getD a2.toNat 0)), (.bool ((a0.Trees.getD a1.toNat Z7).Calls.getD a2.toNat Z4).Fail), (.sl 4 [] false), (.sl 2 [] false)]) (v := (.str (([[103, 101, 116], [112, 117, 116], [108, 105, 115, 116]]).getD (((a0.Trees.getD a1.toNat Z7).Calls.getD a2.toNat Z4).Operation.tmod 3).toNat []))) sz9 I I I I I I I I) I <| Zi <| Zj <| Zl <| Zl <| Zd ?_
 refine Z2 I (Zu (m := 11) (o := 0) I f241_0 I I) I <| Z2 I (Zz (cs := (Zp ((a0.Trees.getD a1.toNat Z7).Calls.getD a2.toNat Z4)).cells) (v := (.int .u8 ((a0.Trees.getD a1.toNat Z7).Calls.getD a2.toNat Z4).Parent)) I o5 I I I) I <| Z2 I (Z3c I us5 u3 I) I <| Z2 I (Zn (v := (.int .i64 a2)) I I) I <| Z2 I (Z1m (k := .i64) (a := a2) (b := 1) (c := (IntKind.i64.wrap (a2 + 1))) I I I I) I ?_
 have ⟨hg15, h⟩ := Z14 h
 refine Z2 I (Z39 (k := .i64) (a := (IntKind.i64.wrap ((a0.Trees.getD a1.toNat Z7).Calls.getD a2.toNat Z4).Parent)) (b := (IntKind.i64.wrap (a2 + 1))) (c := ((IntKind.i64.wrap ((a0.Trees.getD a1.toNat Z7).Calls.getD a2.toNat Z4).Parent).tmod (IntKind.i64.wrap (a2 + 1)))) I I I I hg15) I <| Z2 I (Zq (v := (.int .i64 ((IntKind.i64.wrap ((a0.Trees.getD a1.toNat Z7).Calls.getD a2.toNat Z4).Parent).tmod (IntKind.i64.wrap (a2 + 1))))) I I) I <| Zi <| Zj <| Zl <| Zd <| Z2 I (Zn (v := (.int .i64 ((IntKind.i64.wrap ((a0.Trees.getD a1.toNat Z7).Calls.getD a2.toNat Z4).Parent).tmod (IntKind.i64.wrap (a2 + 1))))) I I) I <| Z2 I (Zn (v := (.int .i64 a2)) I I) I ?_
 refine Z2 I (Z1y (k := .i64) (a := ((IntKind.i64.wrap ((a0.Trees.getD a1.toNat Z7).Calls.getD a2.toNat Z4).Parent).tmod (IntKind.i64.wrap (a2 + 1)))) (b := a2) (c := (decide (((IntKind.i64.wrap ((a0.Trees.getD a1.toNat Z7).Calls.getD a2.toNat Z4).Parent).tmod (IntKind.i64.wrap (a2 + 1))) < a2))) I I I I) I <| Zi <| Zj ?_
 refine AWp.join (V := Zh) (lp := fun v => Z5u K a0 a1 a2 a3 v = some r) (sh := fun v => ⟨[(2, (.int .i64 a2)), (3, (.sl 1 (a3.map Z1f) false)), (10, (.ptr 10 0)), (11, (.ptr 11 0)), (12, (.ptr 12 0))], [(10, (.box [(.int .i64 0), (.int .i64 0), (.int .i64 0), (.int .i64 0), (.int .i64 0), (.int .i64 0), (.str []), (.str []), (.str []), (.int .i64 0), (.int .i64 0), (.bool false), (.sl 4 [] false), (.sl 2 [] false)])), (11, (.box (Zp ((a0.Trees.getD a1.toNat Z7).Calls.getD a2.toNat Z4)).cells)), (12, (.box (Z5 v).cells))]⟩) ?_ ?_
 ·intro v h
  revert h
  revert v
  intro v16 h
  try dsimp only at h ⊢
  unfold Z5u at h
  refine Zj <| Zl <| Zl <| Zd <| Z2 I (Zu (m := 11) (o := 0) I f241_8 I I) I <| Z2 I (Zz (cs := (Zp ((a0.Trees.getD a1.toNat Z7).Calls.getD a2.toNat Z4)).cells) (v := (.int .u8 ((a0.Trees.getD a1.toNat Z7).Calls.getD a2.toNat Z4).Link)) I o5 I I I) I <| Z2 I (Z39 (k := .u8) (a := ((a0.Trees.getD a1.toNat Z7).Calls.getD a2.toNat Z4).Link) (b := 16) (c := (((a0.Trees.getD a1.toNat Z7).Calls.getD a2.toNat Z4).Link.tmod 16)) I I I I (by decide)) I <| Z2 I (Z3c I us5 u3 I) I ?_
  refine Z2 I (Zq (v := (.int .i64 (IntKind.i64.wrap (((a0.Trees.getD a1.toNat Z7).Calls.getD a2.toNat Z4).Link.tmod 16)))) I I) I <| Zi <| Zj <| Zl <| Z1u mixed <| Z8 0 I (Zn (v := (.int .i64 (IntKind.i64.wrap (((a0.Trees.getD a1.toNat Z7).Calls.getD a2.toNat Z4).Link.tmod 16)))) I I) <| Z8 1 I (Zn (v := (.int .i64 a2)) I I) <| Z8 2 I (Z1y (k := .i64) (a := (IntKind.i64.wrap (((a0.Trees.getD a1.toNat Z7).Calls.getD a2.toNat Z4).Link.tmod 16))) (b := a2) (c := (decide ((IntKind.i64.wrap (((a0.Trees.getD a1.toNat Z7).Calls.getD a2.toNat Z4).Link.tmod 16)) < a2))) I I I I) ?_
  refine Z8 3 I (Zn (v := (.bool (decide ((IntKind.i64.wrap (((a0.Trees.getD a1.toNat Z7).Calls.getD a2.toNat Z4).Link.tmod 16)) < a2)))) I I) ?_
  have hif := Z21 h
  refine AOpsD.split (fun hc => ?_) (fun hc => ?_)
  ·have h := hif.1 hc
   refine Zx 4 I I I I (Zn (v := (.sl 1 (a3.map Z1f) false)) I I) <| Zx 5 I I I I (Zn (v := (.int .i64 (IntKind.i64.wrap (((a0.Trees.getD a1.toNat Z7).Calls.getD a2.toNat Z4).Link.tmod 16)))) I I) ?_
   have ⟨hg18, h⟩ := Z14 h
   refine Zx 6 I I I I (Z1s (k := .i64) (l := a3) (enc := Z1f) (z := 0) (n := (IntKind.i64.wrap (((a0.Trees.getD a1.toNat Z7).Calls.getD a2.toNat Z4).Link.tmod 16))) (cs := [(.int .i64 (a3.getD (IntKind.i64.wrap (((a0.Trees.getD a1.toNat Z7).Calls.getD a2.toNat Z4).Link.tmod 16)).toNat 0))]) (full := false) I s65 I I hg18 I) <| Zx 7 I I I I (Z24 (cs := [(.int .i64 (a3.getD (IntKind.i64.wrap (((a0.Trees.getD a1.toNat Z7).Calls.getD a2.toNat Z4).Link.tmod 16)).toNat 0))]) (v := (.int .i64 (a3.getD (IntKind.i64.wrap (((a0.Trees.getD a1.toNat Z7).Calls.getD a2.toNat Z4).Link.tmod 16)).toNat 0))) I o3 I I) <| Zx 8 I I I I (Zn (v := (.sl 1 (a3.map Z1f) false)) I I) <| Zx 9 I I I I (Zn (v := (.int .i64 a2)) I I) ?_
   have ⟨hg19, h⟩ := Z14 h
   refine Zx 10 I I I I (Z1s (k := .i64) (l := a3) (enc := Z1f) (z := 0) (n := a2) (cs := [(.int .i64 (a3.getD a2.toNat 0))]) (full := false) I s65 I I hg19 I) <| Zx 11 I I I I (Z24 (cs := [(.int .i64 (a3.getD a2.toNat 0))]) (v := (.int .i64 (a3.getD a2.toNat 0))) I o3 I I) <| Zx 12 I I I I (Z1y (k := .i64) (a := (a3.getD (IntKind.i64.wrap (((a0.Trees.getD a1.toNat Z7).Calls.getD a2.toNat Z4).Link.tmod 16)).toNat 0)) (b := (a3.getD a2.toNat 0)) (c := (decide ((a3.getD (IntKind.i64.wrap (((a0.Trees.getD a1.toNat Z7).Calls.getD a2.toNat Z4).Link.tmod 16)).toNat 0) ≤ (a3.getD a2.toNat 0)))) I I I I) <| Z8 13 I (Z2f (v := (.bool (decide ((a3.getD (IntKind.i64.wrap (((a0.Trees.getD a1.toNat Z7).Calls.getD a2.toNat Z4).Link.tmod 16)).toNat 0) ≤ (a3.getD a2.toNat 0))))) I I I) <| Z1q (by kernel_rfl) I <| Zj ?_
   refine AWp.join (V := (List Z22)) (lp := fun v => Z77 K a0 a1 a2 v16 v = some r) (sh := fun v => ⟨[(10, (.ptr 10 0)), (11, (.ptr 11 0)), (12, (.ptr 12 0))], [(10, (.box [(.int .i64 0), (.int .i64 0), (.int .i64 0), (.int .i64 0), (.int .i64 0), (.int .i64 0), (.str []), (.str []), (.str []), (.int .i64 0), (.int .i64 0), (.bool false), (.sl 4 [] false), (.sl 2 [] false)])), (11, (.box (Zp ((a0.Trees.getD a1.toNat Z7).Calls.getD a2.toNat Z4)).cells)), (12, (.box [(.int .i64 v16.Trace), (.int .i64 v16.Id), (.int .i64 v16.Parent), (.int .i64 v16.Revision), (.int .i64 v16.Clock), (.int .i64 v16.Kind), (.str v16.Service), (.str v16.Version), (.str v16.Operation), (.int .i64 v16.Start), (.int .i64 v16.End), (.bool v16.Error), (.sl 4 (v16.Attrs.map Zv) false), (.sl 2 (v.map Z10) false)]))]⟩) ?_ ?_
   ·intro v h
    revert h
    revert v
    intro v20 h
    try dsimp only at h ⊢
    unfold Z77 at h
    refine Zj <| Zl <| Zd <| Z2 I (Z1k (cs := (Zp ((a0.Trees.getD a1.toNat Z7).Calls.getD a2.toNat Z4)).cells) (vs := (Zp ((a0.Trees.getD a1.toNat Z7).Calls.getD a2.toNat Z4)).cells) I a241 I I I I) I ?_
    have ⟨v23, hv23, h⟩ := Z1c h
    refine Z2 I (Z1e (ar := [(Zp ((a0.Trees.getD a1.toNat Z7).Calls.getD a2.toNat Z4))]) (caps := []) Tryz.call154 (F154_ok K ((a0.Trees.getD a1.toNat Z7).Calls.getD a2.toNat Z4) v23 hv23) I I ⟨rfl, trivial⟩ I) I <| Z2 I (Zu (m := 12) (o := 0) I Z9z I I) I <| Z2 I (Z1a (cs := [(.int .i64 v16.Trace), (.int .i64 v16.Id), (.int .i64 v16.Parent), (.int .i64 v16.Revision), (.int .i64 v16.Clock), (.int .i64 v16.Kind), (.str v16.Service), (.str v16.Version), (.str v16.Operation), (.int .i64 v16.Start), (.int .i64 v16.End), (.bool v16.Error), (.sl 4 (v16.Attrs.map Zv) false), (.sl 2 (v20.map Z10) false)]) (vs := [(.sl 4 (v23.map Zv) false)]) (ds := [(.int .i64 v16.Trace), (.int .i64 v16.Id), (.int .i64 v16.Parent), (.int .i64 v16.Revision), (.int .i64 v16.Clock), (.int .i64 v16.Kind), (.str v16.Service), (.str v16.Version), (.str v16.Operation), (.int .i64 v16.Start), (.int .i64 v16.End), (.bool v16.Error), (.sl 4 (v23.map Zv) false), (.sl 2 (v20.map Z10) false)]) (v := (.sl 4 (v23.map Zv) false)) sz53 I I I I I I I I) I <| Zi <| Zj <| Zl <| Zd <| Z2 I (Z1k (cs := [(.int .i64 v16.Trace), (.int .i64 v16.Id), (.int .i64 v16.Parent), (.int .i64 v16.Revision), (.int .i64 v16.Clock), (.int .i64 v16.Kind), (.str v16.Service), (.str v16.Version), (.str v16.Operation), (.int .i64 v16.Start), (.int .i64 v16.End), (.bool v16.Error), (.sl 4 (v23.map Zv) false), (.sl 2 (v20.map Z10) false)]) (vs := [(.int .i64 v16.Trace), (.int .i64 v16.Id), (.int .i64 v16.Parent), (.int .i64 v16.Revision), (.int .i64 v16.Clock), (.int .i64 v16.Kind), (.str v16.Service), (.str v16.Version), (.str v16.Operation), (.int .i64 v16.Start), (.int .i64 v16.End), (.bool v16.Error), (.sl 4 (v23.map Zv) false), (.sl 2 (v20.map Z10) false)]) I a56 I I I I) I ?_
    refine Z2 I (Z1a (cs := [(.int .i64 0), (.int .i64 0), (.int .i64 0), (.int .i64 0), (.int .i64 0), (.int .i64 0), (.str []), (.str []), (.str []), (.int .i64 0), (.int .i64 0), (.bool false), (.sl 4 [] false), (.sl 2 [] false)]) (vs := [(.int .i64 v16.Trace), (.int .i64 v16.Id), (.int .i64 v16.Parent), (.int .i64 v16.Revision), (.int .i64 v16.Clock), (.int .i64 v16.Kind), (.str v16.Service), (.str v16.Version), (.str v16.Operation), (.int .i64 v16.Start), (.int .i64 v16.End), (.bool v16.Error), (.sl 4 (v23.map Zv) false), (.sl 2 (v20.map Z10) false)]) (ds := [(.int .i64 v16.Trace), (.int .i64 v16.Id), (.int .i64 v16.Parent), (.int .i64 v16.Revision), (.int .i64 v16.Clock), (.int .i64 v16.Kind), (.str v16.Service), (.str v16.Version), (.str v16.Operation), (.int .i64 v16.Start), (.int .i64 v16.End), (.bool v16.Error), (.sl 4 (v23.map Zv) false), (.sl 2 (v20.map Z10) false)]) (v := (.ag [(.int .i64 v16.Trace), (.int .i64 v16.Id), (.int .i64 v16.Parent), (.int .i64 v16.Revision), (.int .i64 v16.Clock), (.int .i64 v16.Kind), (.str v16.Service), (.str v16.Version), (.str v16.Operation), (.int .i64 v16.Start), (.int .i64 v16.End), (.bool v16.Error), (.sl 4 (v23.map Zv) false), (.sl 2 (v20.map Z10) false)])) sz56 I I I I I I I I) I <| Zi <| Zj <| Z1g ?_
    have h := Option.some.inj h
    subst h
    refine (hret _ ?_).1
    exact ⟨[(.ag [(.int .i64 v16.Trace), (.int .i64 v16.Id), (.int .i64 v16.Parent), (.int .i64 v16.Revision), (.int .i64 v16.Clock), (.int .i64 v16.Kind), (.str v16.Service), (.str v16.Version), (.str v16.Operation), (.int .i64 v16.Start), (.int .i64 v16.End), (.bool v16.Error), (.sl 4 (v23.map Zv) false), (.sl 2 (v20.map Z10) false)])], ⟨⟨10, _, rfl, rfl, .inr ⟨_, a56, rfl, rfl⟩⟩, trivial⟩, rfl, trivial⟩
   ·intro J21
    have hif := Z21 h
    refine Z18 I (fun hc => ?_) (fun hc => ?_)
    ·have h := hif.1 hc
     refine Zd <| Z2 I (Zu (m := 12) (o := 0) I f56_0 I I) I <| Z2 I (Zz (cs := (Z5 v16).cells) (v := (.int .i64 v16.Trace)) I o3 I I I) I <| Z2 I (Zn (v := (.int .i64 (IntKind.i64.wrap (((a0.Trees.getD a1.toNat Z7).Calls.getD a2.toNat Z4).Link.tmod 16)))) I I) I <| Z2 I (Z1m (k := .i64) (a := (IntKind.i64.wrap (((a0.Trees.getD a1.toNat Z7).Calls.getD a2.toNat Z4).Link.tmod 16))) (b := 1) (c := (IntKind.i64.wrap ((IntKind.i64.wrap (((a0.Trees.getD a1.toNat Z7).Calls.getD a2.toNat Z4).Link.tmod 16)) + 1))) I I I I) I <| Z2 I (Z29 (vs := [(0, (.int .i64 v16.Trace)), (1, (.int .i64 (IntKind.i64.wrap ((IntKind.i64.wrap (((a0.Trees.getD a1.toNat Z7).Calls.getD a2.toNat Z4).Link.tmod 16)) + 1))))]) (cs := [(.int .i64 v16.Trace), (.int .i64 (IntKind.i64.wrap ((IntKind.i64.wrap (((a0.Trees.getD a1.toNat Z7).Calls.getD a2.toNat Z4).Link.tmod 16)) + 1)))]) I st177 ⟨rfl, rfl, rfl, rfl, trivial⟩ I) I <| Z2 I (Z1j (vs := [(.ag [(.int .i64 v16.Trace), (.int .i64 (IntKind.i64.wrap ((IntKind.i64.wrap (((a0.Trees.getD a1.toNat Z7).Calls.getD a2.toNat Z4).Link.tmod 16)) + 1)))])]) (enc := Z10) (l := [(⟨v16.Trace, (IntKind.i64.wrap ((IntKind.i64.wrap (((a0.Trees.getD a1.toNat Z7).Calls.getD a2.toNat Z4).Link.tmod 16)) + 1))⟩ : Z22)]) I el54 I I ⟨rfl, trivial⟩ I Z6p I I I I) I <| Z2 I (Zu (m := 12) (o := 0) I Zbn I I) I ?_
     refine Z2 I (Z1a (cs := (Z5 v16).cells) (vs := [(.vs 106)]) (ds := [(.int .i64 v16.Trace), (.int .i64 v16.Id), (.int .i64 v16.Parent), (.int .i64 v16.Revision), (.int .i64 v16.Clock), (.int .i64 v16.Kind), (.str v16.Service), (.str v16.Version), (.str v16.Operation), (.int .i64 v16.Start), (.int .i64 v16.End), (.bool v16.Error), (.sl 4 (v16.Attrs.map Zv) false), (.vs 106)]) (v := (.vs 106)) sz54 I I I I I I I I) I <| Zi <| At.ghost (st' := ⟨[(10, (.ptr 10 0)), (11, (.ptr 11 0)), (12, (.ptr 12 0))], [(10, (.box [(.int .i64 0), (.int .i64 0), (.int .i64 0), (.int .i64 0), (.int .i64 0), (.int .i64 0), (.str []), (.str []), (.str []), (.int .i64 0), (.int .i64 0), (.bool false), (.sl 4 [] false), (.sl 2 [] false)])), (11, (.box (Zp ((a0.Trees.getD a1.toNat Z7).Calls.getD a2.toNat Z4)).cells)), (12, (.box [(.int .i64 v16.Trace), (.int .i64 v16.Id), (.int .i64 v16.Parent), (.int .i64 v16.Revision), (.int .i64 v16.Clock), (.int .i64 v16.Kind), (.str v16.Service), (.str v16.Version), (.str v16.Operation), (.int .i64 v16.Start), (.int .i64 v16.End), (.bool v16.Error), (.sl 4 (v16.Attrs.map Zv) false), (.sl 2 ([(⟨v16.Trace, (IntKind.i64.wrap ((IntKind.i64.wrap (((a0.Trees.getD a1.toNat Z7).Calls.getD a2.toNat Z4).Link.tmod 16)) + 1))⟩ : Z22)].map Z10) false)]))]⟩) (fun a w h => (Z1d ⟨[(10, (.ptr 10 0)), (11, (.ptr 11 0)), (12, (.ptr 12 0))], [(10, (.box [(.int .i64 0), (.int .i64 0), (.int .i64 0), (.int .i64 0), (.int .i64 0), (.int .i64 0), (.str []), (.str []), (.str []), (.int .i64 0), (.int .i64 0), (.bool false), (.sl 4 [] false), (.sl 2 [] false)])), (11, (.box (Zp ((a0.Trees.getD a1.toNat Z7).Calls.getD a2.toNat Z4)).cells)), (12, (.box [(.int .i64 v16.Trace), (.int .i64 v16.Id), (.int .i64 v16.Parent), (.int .i64 v16.Revision), (.int .i64 v16.Clock), (.int .i64 v16.Kind), (.str v16.Service), (.str v16.Version), (.str v16.Operation), (.int .i64 v16.Start), (.int .i64 v16.End), (.bool v16.Error), (.sl 4 (v16.Attrs.map Zv) false), (.sl 2 ([(⟨v16.Trace, (IntKind.i64.wrap ((IntKind.i64.wrap (((a0.Trees.getD a1.toNat Z7).Calls.getD a2.toNat Z4).Link.tmod 16)) + 1))⟩ : Z22)].map Z10) false)]))]⟩ (Z2c (m := 106) (sz := 2) (es := (List.map Z10 [(⟨v16.Trace, (IntKind.i64.wrap ((IntKind.i64.wrap (((a0.Trees.getD a1.toNat Z7).Calls.getD a2.toNat Z4).Link.tmod 16)) + 1))⟩ : Z22)])) a w (Z1d ⟨[(10, (.ptr 10 0)), (11, (.ptr 11 0)), (12, (.ptr 12 0))], [(106, (.vec 2 (List.map Z10 [(⟨v16.Trace, (IntKind.i64.wrap ((IntKind.i64.wrap (((a0.Trees.getD a1.toNat Z7).Calls.getD a2.toNat Z4).Link.tmod 16)) + 1))⟩ : Z22)]))), (10, (.box [(.int .i64 0), (.int .i64 0), (.int .i64 0), (.int .i64 0), (.int .i64 0), (.int .i64 0), (.str []), (.str []), (.str []), (.int .i64 0), (.int .i64 0), (.bool false), (.sl 4 [] false), (.sl 2 [] false)])), (11, (.box (Zp ((a0.Trees.getD a1.toNat Z7).Calls.getD a2.toNat Z4)).cells)), (12, (.box [(.int .i64 v16.Trace), (.int .i64 v16.Id), (.int .i64 v16.Parent), (.int .i64 v16.Revision), (.int .i64 v16.Clock), (.int .i64 v16.Kind), (.str v16.Service), (.str v16.Version), (.str v16.Operation), (.int .i64 v16.Start), (.int .i64 v16.End), (.bool v16.Error), (.sl 4 (v16.Attrs.map Zv) false), (.vs 106)]))]⟩ h ⟨rfl, rfl, rfl, trivial⟩ ⟨rfl, rfl, rfl, rfl, trivial⟩)) ⟨rfl, rfl, rfl, trivial⟩ ⟨rfl, rfl, rfl, trivial⟩)) ?_
     exact Z11 (st' := ⟨[(10, (.ptr 10 0)), (11, (.ptr 11 0)), (12, (.ptr 12 0))], [(10, (.box [(.int .i64 0), (.int .i64 0), (.int .i64 0), (.int .i64 0), (.int .i64 0), (.int .i64 0), (.str []), (.str []), (.str []), (.int .i64 0), (.int .i64 0), (.bool false), (.sl 4 [] false), (.sl 2 [] false)])), (11, (.box (Zp ((a0.Trees.getD a1.toNat Z7).Calls.getD a2.toNat Z4)).cells)), (12, (.box [(.int .i64 v16.Trace), (.int .i64 v16.Id), (.int .i64 v16.Parent), (.int .i64 v16.Revision), (.int .i64 v16.Clock), (.int .i64 v16.Kind), (.str v16.Service), (.str v16.Version), (.str v16.Operation), (.int .i64 v16.Start), (.int .i64 v16.End), (.bool v16.Error), (.sl 4 (v16.Attrs.map Zv) false), (.sl 2 ([(⟨v16.Trace, (IntKind.i64.wrap ((IntKind.i64.wrap (((a0.Trees.getD a1.toNat Z7).Calls.getD a2.toNat Z4).Link.tmod 16)) + 1))⟩ : Z22)].map Z10) false)]))]⟩) ⟨rfl, rfl, rfl, trivial⟩ ⟨rfl, rfl, rfl, trivial⟩ (J21 [(⟨v16.Trace, (IntKind.i64.wrap ((IntKind.i64.wrap (((a0.Trees.getD a1.toNat Z7).Calls.getD a2.toNat Z4).Link.tmod 16)) + 1))⟩ : Z22)] h)
    ·have h := hif.2 hc
     refine Z1b ?_
     exact Z11 (st' := ⟨[(10, (.ptr 10 0)), (11, (.ptr 11 0)), (12, (.ptr 12 0))], [(10, (.box [(.int .i64 0), (.int .i64 0), (.int .i64 0), (.int .i64 0), (.int .i64 0), (.int .i64 0), (.str []), (.str []), (.str []), (.int .i64 0), (.int .i64 0), (.bool false), (.sl 4 [] false), (.sl 2 [] false)])), (11, (.box (Zp ((a0.Trees.getD a1.toNat Z7).Calls.getD a2.toNat Z4)).cells)), (12, (.box [(.int .i64 v16.Trace), (.int .i64 v16.Id), (.int .i64 v16.Parent), (.int .i64 v16.Revision), (.int .i64 v16.Clock), (.int .i64 v16.Kind), (.str v16.Service), (.str v16.Version), (.str v16.Operation), (.int .i64 v16.Start), (.int .i64 v16.End), (.bool v16.Error), (.sl 4 (v16.Attrs.map Zv) false), (.sl 2 (v16.Links.map Z10) false)]))]⟩) ⟨rfl, rfl, rfl, trivial⟩ ⟨rfl, rfl, rfl, trivial⟩ (J21 v16.Links h)
  ·have h := hif.2 hc
   refine Zr 4 I I I I I I I <| Zr 5 I I I I I I I <| Zr 6 I I I I I I I <| Zr 7 I I I I I I I <| Zr 8 I I I I I I I <| Zr 9 I I I I I I I <| Zr 10 I I I I I I I <| Zr 11 I I I I I I I ?_
   refine Zr 12 I I I I I I I <| Z8 13 I (Z20 (v := (.bool false)) I I I) <| Z1q (by kernel_rfl) I <| Zj ?_
   refine Z18 (b := false) I (fun hc => ?_) (fun hc => ?_)
   ·cases hc
   refine Z1b <| Zj <| Zl <| Zd <| Z2 I (Z1k (cs := (Zp ((a0.Trees.getD a1.toNat Z7).Calls.getD a2.toNat Z4)).cells) (vs := (Zp ((a0.Trees.getD a1.toNat Z7).Calls.getD a2.toNat Z4)).cells) I a241 I I I I) I ?_
   have ⟨v25, hv25, h⟩ := Z1c h
   refine Z2 I (Z1e (ar := [(Zp ((a0.Trees.getD a1.toNat Z7).Calls.getD a2.toNat Z4))]) (caps := []) Tryz.call154 (F154_ok K ((a0.Trees.getD a1.toNat Z7).Calls.getD a2.toNat Z4) v25 hv25) I I ⟨rfl, trivial⟩ I) I <| Z2 I (Zu (m := 12) (o := 0) I Z9z I I) I <| Z2 I (Z1a (cs := (Z5 v16).cells) (vs := [(.sl 4 (v25.map Zv) false)]) (ds := [(.int .i64 v16.Trace), (.int .i64 v16.Id), (.int .i64 v16.Parent), (.int .i64 v16.Revision), (.int .i64 v16.Clock), (.int .i64 v16.Kind), (.str v16.Service), (.str v16.Version), (.str v16.Operation), (.int .i64 v16.Start), (.int .i64 v16.End), (.bool v16.Error), (.sl 4 (v25.map Zv) false), (.sl 2 (v16.Links.map Z10) false)]) (v := (.sl 4 (v25.map Zv) false)) sz53 I I I I I I I I) I <| Zi <| Zj <| Zl <| Zd <| Z2 I (Z1k (cs := [(.int .i64 v16.Trace), (.int .i64 v16.Id), (.int .i64 v16.Parent), (.int .i64 v16.Revision), (.int .i64 v16.Clock), (.int .i64 v16.Kind), (.str v16.Service), (.str v16.Version), (.str v16.Operation), (.int .i64 v16.Start), (.int .i64 v16.End), (.bool v16.Error), (.sl 4 (v25.map Zv) false), (.sl 2 (v16.Links.map Z10) false)]) (vs := [(.int .i64 v16.Trace), (.int .i64 v16.Id), (.int .i64 v16.Parent), (.int .i64 v16.Revision), (.int .i64 v16.Clock), (.int .i64 v16.Kind), (.str v16.Service), (.str v16.Version), (.str v16.Operation), (.int .i64 v16.Start), (.int .i64 v16.End), (.bool v16.Error), (.sl 4 (v25.map Zv) false), (.sl 2 (v16.Links.map Z10) false)]) I a56 I I I I) I ?_
   refine Z2 I (Z1a (cs := [(.int .i64 0), (.int .i64 0), (.int .i64 0), (.int .i64 0), (.int .i64 0), (.int .i64 0), (.str []), (.str []), (.str []), (.int .i64 0), (.int .i64 0), (.bool false), (.sl 4 [] false), (.sl 2 [] false)]) (vs := [(.int .i64 v16.Trace), (.int .i64 v16.Id), (.int .i64 v16.Parent), (.int .i64 v16.Revision), (.int .i64 v16.Clock), (.int .i64 v16.Kind), (.str v16.Service), (.str v16.Version), (.str v16.Operation), (.int .i64 v16.Start), (.int .i64 v16.End), (.bool v16.Error), (.sl 4 (v25.map Zv) false), (.sl 2 (v16.Links.map Z10) false)]) (ds := [(.int .i64 v16.Trace), (.int .i64 v16.Id), (.int .i64 v16.Parent), (.int .i64 v16.Revision), (.int .i64 v16.Clock), (.int .i64 v16.Kind), (.str v16.Service), (.str v16.Version), (.str v16.Operation), (.int .i64 v16.Start), (.int .i64 v16.End), (.bool v16.Error), (.sl 4 (v25.map Zv) false), (.sl 2 (v16.Links.map Z10) false)]) (v := (.ag [(.int .i64 v16.Trace), (.int .i64 v16.Id), (.int .i64 v16.Parent), (.int .i64 v16.Revision), (.int .i64 v16.Clock), (.int .i64 v16.Kind), (.str v16.Service), (.str v16.Version), (.str v16.Operation), (.int .i64 v16.Start), (.int .i64 v16.End), (.bool v16.Error), (.sl 4 (v25.map Zv) false), (.sl 2 (v16.Links.map Z10) false)])) sz56 I I I I I I I I) I <| Zi <| Zj <| Z1g ?_
   have h := Option.some.inj h
   subst h
   refine (hret _ ?_).1
   exact ⟨[(.ag [(.int .i64 v16.Trace), (.int .i64 v16.Id), (.int .i64 v16.Parent), (.int .i64 v16.Revision), (.int .i64 v16.Clock), (.int .i64 v16.Kind), (.str v16.Service), (.str v16.Version), (.str v16.Operation), (.int .i64 v16.Start), (.int .i64 v16.End), (.bool v16.Error), (.sl 4 (v25.map Zv) false), (.sl 2 (v16.Links.map Z10) false)])], ⟨⟨10, _, rfl, rfl, .inr ⟨_, a56, rfl, rfl⟩⟩, trivial⟩, rfl, trivial⟩
 ·intro J17
  have hif := Z21 h
  refine Z18 I (fun hc => ?_) (fun hc => ?_)
  ·have h := hif.1 hc
   refine Zd <| Z2 I (Zn (v := (.int .i64 ((IntKind.i64.wrap ((a0.Trees.getD a1.toNat Z7).Calls.getD a2.toNat Z4).Parent).tmod (IntKind.i64.wrap (a2 + 1))))) I I) I <| Z2 I (Z1m (k := .i64) (a := ((IntKind.i64.wrap ((a0.Trees.getD a1.toNat Z7).Calls.getD a2.toNat Z4).Parent).tmod (IntKind.i64.wrap (a2 + 1)))) (b := 1) (c := (IntKind.i64.wrap (((IntKind.i64.wrap ((a0.Trees.getD a1.toNat Z7).Calls.getD a2.toNat Z4).Parent).tmod (IntKind.i64.wrap (a2 + 1))) + 1))) I I I I) I <| Z2 I (Zu (m := 12) (o := 0) I Zci I I) I <| Z2 I (Z1a (cs := [(.int .i64 v4), (.int .i64 (IntKind.i64.wrap (a2 + 1))), (.int .i64 0), (.int .i64 0), (.int .i64 (IntKind.i64.wrap (1 + (IntKind.i64.wrap (((a0.Trees.getD a1.toNat Z7).Calls.getD a2.toNat Z4).Clock.tmod 4))))), (.int .i64 v6), (.str (([[97, 112, 105], [100, 98], [119, 101, 98], [99, 97, 99, 104, 101]]).getD (((a0.Trees.getD a1.toNat Z7).Calls.getD a2.toNat Z4).Service.tmod 4).toNat [])), (.str (([[118, 49], [118, 50], []]).getD (((a0.Trees.getD a1.toNat Z7).Calls.getD a2.toNat Z4).Version.tmod 3).toNat [])), (.str (([[103, 101, 116], [112, 117, 116], [108, 105, 115, 116]]).getD (((a0.Trees.getD a1.toNat Z7).Calls.getD a2.toNat Z4).Operation.tmod 3).toNat [])), (.int .i64 (a3.getD a2.toNat 0)), (.int .i64 (a4.getD a2.toNat 0)), (.bool ((a0.Trees.getD a1.toNat Z7).Calls.getD a2.toNat Z4).Fail), (.sl 4 [] false), (.sl 2 [] false)]) (vs := [(.int .i64 (IntKind.i64.wrap (((IntKind.i64.wrap ((a0.Trees.getD a1.toNat Z7).Calls.getD a2.toNat Z4).Parent).tmod (IntKind.i64.wrap (a2 + 1))) + 1)))]) (ds := [(.int .i64 v4), (.int .i64 (IntKind.i64.wrap (a2 + 1))), (.int .i64 (IntKind.i64.wrap (((IntKind.i64.wrap ((a0.Trees.getD a1.toNat Z7).Calls.getD a2.toNat Z4).Parent).tmod (IntKind.i64.wrap (a2 + 1))) + 1))), (.int .i64 0), (.int .i64 (IntKind.i64.wrap (1 + (IntKind.i64.wrap (((a0.Trees.getD a1.toNat Z7).Calls.getD a2.toNat Z4).Clock.tmod 4))))), (.int .i64 v6), (.str (([[97, 112, 105], [100, 98], [119, 101, 98], [99, 97, 99, 104, 101]]).getD (((a0.Trees.getD a1.toNat Z7).Calls.getD a2.toNat Z4).Service.tmod 4).toNat [])), (.str (([[118, 49], [118, 50], []]).getD (((a0.Trees.getD a1.toNat Z7).Calls.getD a2.toNat Z4).Version.tmod 3).toNat [])), (.str (([[103, 101, 116], [112, 117, 116], [108, 105, 115, 116]]).getD (((a0.Trees.getD a1.toNat Z7).Calls.getD a2.toNat Z4).Operation.tmod 3).toNat [])), (.int .i64 (a3.getD a2.toNat 0)), (.int .i64 (a4.getD a2.toNat 0)), (.bool ((a0.Trees.getD a1.toNat Z7).Calls.getD a2.toNat Z4).Fail), (.sl 4 [] false), (.sl 2 [] false)]) (v := (.int .i64 (IntKind.i64.wrap (((IntKind.i64.wrap ((a0.Trees.getD a1.toNat Z7).Calls.getD a2.toNat Z4).Parent).tmod (IntKind.i64.wrap (a2 + 1))) + 1)))) sz3 I I I I I I I I) I <| Zi ?_
   exact Z11 (st' := ⟨[(2, (.int .i64 a2)), (3, (.sl 1 (a3.map Z1f) false)), (10, (.ptr 10 0)), (11, (.ptr 11 0)), (12, (.ptr 12 0))], [(10, (.box [(.int .i64 0), (.int .i64 0), (.int .i64 0), (.int .i64 0), (.int .i64 0), (.int .i64 0), (.str []), (.str []), (.str []), (.int .i64 0), (.int .i64 0), (.bool false), (.sl 4 [] false), (.sl 2 [] false)])), (11, (.box (Zp ((a0.Trees.getD a1.toNat Z7).Calls.getD a2.toNat Z4)).cells)), (12, (.box (Z5 (⟨v4, (IntKind.i64.wrap (a2 + 1)), (IntKind.i64.wrap (((IntKind.i64.wrap ((a0.Trees.getD a1.toNat Z7).Calls.getD a2.toNat Z4).Parent).tmod (IntKind.i64.wrap (a2 + 1))) + 1)), 0, (IntKind.i64.wrap (1 + (IntKind.i64.wrap (((a0.Trees.getD a1.toNat Z7).Calls.getD a2.toNat Z4).Clock.tmod 4)))), v6, (([[97, 112, 105], [100, 98], [119, 101, 98], [99, 97, 99, 104, 101]]).getD (((a0.Trees.getD a1.toNat Z7).Calls.getD a2.toNat Z4).Service.tmod 4).toNat []), (([[118, 49], [118, 50], []]).getD (((a0.Trees.getD a1.toNat Z7).Calls.getD a2.toNat Z4).Version.tmod 3).toNat []), (([[103, 101, 116], [112, 117, 116], [108, 105, 115, 116]]).getD (((a0.Trees.getD a1.toNat Z7).Calls.getD a2.toNat Z4).Operation.tmod 3).toNat []), (a3.getD a2.toNat 0), (a4.getD a2.toNat 0), ((a0.Trees.getD a1.toNat Z7).Calls.getD a2.toNat Z4).Fail, [], []⟩ : Zh)).cells))]⟩) ⟨rfl, rfl, rfl, rfl, rfl, trivial⟩ ⟨rfl, rfl, rfl, trivial⟩ (J17 (⟨v4, (IntKind.i64.wrap (a2 + 1)), (IntKind.i64.wrap (((IntKind.i64.wrap ((a0.Trees.getD a1.toNat Z7).Calls.getD a2.toNat Z4).Parent).tmod (IntKind.i64.wrap (a2 + 1))) + 1)), 0, (IntKind.i64.wrap (1 + (IntKind.i64.wrap (((a0.Trees.getD a1.toNat Z7).Calls.getD a2.toNat Z4).Clock.tmod 4)))), v6, (([[97, 112, 105], [100, 98], [119, 101, 98], [99, 97, 99, 104, 101]]).getD (((a0.Trees.getD a1.toNat Z7).Calls.getD a2.toNat Z4).Service.tmod 4).toNat []), (([[118, 49], [118, 50], []]).getD (((a0.Trees.getD a1.toNat Z7).Calls.getD a2.toNat Z4).Version.tmod 3).toNat []), (([[103, 101, 116], [112, 117, 116], [108, 105, 115, 116]]).getD (((a0.Trees.getD a1.toNat Z7).Calls.getD a2.toNat Z4).Operation.tmod 3).toNat []), (a3.getD a2.toNat 0), (a4.getD a2.toNat 0), ((a0.Trees.getD a1.toNat Z7).Calls.getD a2.toNat Z4).Fail, [], []⟩ : Zh) h)
  ·have h := hif.2 hc
   refine Zl <| Zd <| Z2 I (Zn (v := (.int .i64 a2)) I I) I <| Z2 I (Z1y (k := .i64) (a := a2) (b := 0) (c := (decide (a2 > 0))) I I I I) I <| Zi <| Zj ?_
   have hif := Z21 h
   refine Z18 I (fun hc => ?_) (fun hc => ?_)
   ·have h := hif.1 hc
    refine Zd <| Z2 I (Zu (m := 12) (o := 0) I Zci I I) I <| Z2 I (Z1a (cs := [(.int .i64 v4), (.int .i64 (IntKind.i64.wrap (a2 + 1))), (.int .i64 0), (.int .i64 0), (.int .i64 (IntKind.i64.wrap (1 + (IntKind.i64.wrap (((a0.Trees.getD a1.toNat Z7).Calls.getD a2.toNat Z4).Clock.tmod 4))))), (.int .i64 v6), (.str (([[97, 112, 105], [100, 98], [119, 101, 98], [99, 97, 99, 104, 101]]).getD (((a0.Trees.getD a1.toNat Z7).Calls.getD a2.toNat Z4).Service.tmod 4).toNat [])), (.str (([[118, 49], [118, 50], []]).getD (((a0.Trees.getD a1.toNat Z7).Calls.getD a2.toNat Z4).Version.tmod 3).toNat [])), (.str (([[103, 101, 116], [112, 117, 116], [108, 105, 115, 116]]).getD (((a0.Trees.getD a1.toNat Z7).Calls.getD a2.toNat Z4).Operation.tmod 3).toNat [])), (.int .i64 (a3.getD a2.toNat 0)), (.int .i64 (a4.getD a2.toNat 0)), (.bool ((a0.Trees.getD a1.toNat Z7).Calls.getD a2.toNat Z4).Fail), (.sl 4 [] false), (.sl 2 [] false)]) (vs := [(.int .i64 100)]) (ds := [(.int .i64 v4), (.int .i64 (IntKind.i64.wrap (a2 + 1))), (.int .i64 100), (.int .i64 0), (.int .i64 (IntKind.i64.wrap (1 + (IntKind.i64.wrap (((a0.Trees.getD a1.toNat Z7).Calls.getD a2.toNat Z4).Clock.tmod 4))))), (.int .i64 v6), (.str (([[97, 112, 105], [100, 98], [119, 101, 98], [99, 97, 99, 104, 101]]).getD (((a0.Trees.getD a1.toNat Z7).Calls.getD a2.toNat Z4).Service.tmod 4).toNat [])), (.str (([[118, 49], [118, 50], []]).getD (((a0.Trees.getD a1.toNat Z7).Calls.getD a2.toNat Z4).Version.tmod 3).toNat [])), (.str (([[103, 101, 116], [112, 117, 116], [108, 105, 115, 116]]).getD (((a0.Trees.getD a1.toNat Z7).Calls.getD a2.toNat Z4).Operation.tmod 3).toNat [])), (.int .i64 (a3.getD a2.toNat 0)), (.int .i64 (a4.getD a2.toNat 0)), (.bool ((a0.Trees.getD a1.toNat Z7).Calls.getD a2.toNat Z4).Fail), (.sl 4 [] false), (.sl 2 [] false)]) (v := (.int .i64 100)) sz3 I I I I I I I I) I <| Zi ?_
    exact Z11 (st' := ⟨[(2, (.int .i64 a2)), (3, (.sl 1 (a3.map Z1f) false)), (10, (.ptr 10 0)), (11, (.ptr 11 0)), (12, (.ptr 12 0))], [(10, (.box [(.int .i64 0), (.int .i64 0), (.int .i64 0), (.int .i64 0), (.int .i64 0), (.int .i64 0), (.str []), (.str []), (.str []), (.int .i64 0), (.int .i64 0), (.bool false), (.sl 4 [] false), (.sl 2 [] false)])), (11, (.box (Zp ((a0.Trees.getD a1.toNat Z7).Calls.getD a2.toNat Z4)).cells)), (12, (.box (Z5 (⟨v4, (IntKind.i64.wrap (a2 + 1)), 100, 0, (IntKind.i64.wrap (1 + (IntKind.i64.wrap (((a0.Trees.getD a1.toNat Z7).Calls.getD a2.toNat Z4).Clock.tmod 4)))), v6, (([[97, 112, 105], [100, 98], [119, 101, 98], [99, 97, 99, 104, 101]]).getD (((a0.Trees.getD a1.toNat Z7).Calls.getD a2.toNat Z4).Service.tmod 4).toNat []), (([[118, 49], [118, 50], []]).getD (((a0.Trees.getD a1.toNat Z7).Calls.getD a2.toNat Z4).Version.tmod 3).toNat []), (([[103, 101, 116], [112, 117, 116], [108, 105, 115, 116]]).getD (((a0.Trees.getD a1.toNat Z7).Calls.getD a2.toNat Z4).Operation.tmod 3).toNat []), (a3.getD a2.toNat 0), (a4.getD a2.toNat 0), ((a0.Trees.getD a1.toNat Z7).Calls.getD a2.toNat Z4).Fail, [], []⟩ : Zh)).cells))]⟩) ⟨rfl, rfl, rfl, rfl, rfl, trivial⟩ ⟨rfl, rfl, rfl, trivial⟩ (J17 (⟨v4, (IntKind.i64.wrap (a2 + 1)), 100, 0, (IntKind.i64.wrap (1 + (IntKind.i64.wrap (((a0.Trees.getD a1.toNat Z7).Calls.getD a2.toNat Z4).Clock.tmod 4)))), v6, (([[97, 112, 105], [100, 98], [119, 101, 98], [99, 97, 99, 104, 101]]).getD (((a0.Trees.getD a1.toNat Z7).Calls.getD a2.toNat Z4).Service.tmod 4).toNat []), (([[118, 49], [118, 50], []]).getD (((a0.Trees.getD a1.toNat Z7).Calls.getD a2.toNat Z4).Version.tmod 3).toNat []), (([[103, 101, 116], [112, 117, 116], [108, 105, 115, 116]]).getD (((a0.Trees.getD a1.toNat Z7).Calls.getD a2.toNat Z4).Operation.tmod 3).toNat []), (a3.getD a2.toNat 0), (a4.getD a2.toNat 0), ((a0.Trees.getD a1.toNat Z7).Calls.getD a2.toNat Z4).Fail, [], []⟩ : Zh) h)
   ·have h := hif.2 hc
    refine Z1b ?_
    exact Z11 (st' := ⟨[(2, (.int .i64 a2)), (3, (.sl 1 (a3.map Z1f) false)), (10, (.ptr 10 0)), (11, (.ptr 11 0)), (12, (.ptr 12 0))], [(10, (.box [(.int .i64 0), (.int .i64 0), (.int .i64 0), (.int .i64 0), (.int .i64 0), (.int .i64 0), (.str []), (.str []), (.str []), (.int .i64 0), (.int .i64 0), (.bool false), (.sl 4 [] false), (.sl 2 [] false)])), (11, (.box (Zp ((a0.Trees.getD a1.toNat Z7).Calls.getD a2.toNat Z4)).cells)), (12, (.box (Z5 (⟨v4, (IntKind.i64.wrap (a2 + 1)), 0, 0, (IntKind.i64.wrap (1 + (IntKind.i64.wrap (((a0.Trees.getD a1.toNat Z7).Calls.getD a2.toNat Z4).Clock.tmod 4)))), v6, (([[97, 112, 105], [100, 98], [119, 101, 98], [99, 97, 99, 104, 101]]).getD (((a0.Trees.getD a1.toNat Z7).Calls.getD a2.toNat Z4).Service.tmod 4).toNat []), (([[118, 49], [118, 50], []]).getD (((a0.Trees.getD a1.toNat Z7).Calls.getD a2.toNat Z4).Version.tmod 3).toNat []), (([[103, 101, 116], [112, 117, 116], [108, 105, 115, 116]]).getD (((a0.Trees.getD a1.toNat Z7).Calls.getD a2.toNat Z4).Operation.tmod 3).toNat []), (a3.getD a2.toNat 0), (a4.getD a2.toNat 0), ((a0.Trees.getD a1.toNat Z7).Calls.getD a2.toNat Z4).Fail, [], []⟩ : Zh)).cells))]⟩) ⟨rfl, rfl, rfl, rfl, rfl, trivial⟩ ⟨rfl, rfl, rfl, trivial⟩ (J17 (⟨v4, (IntKind.i64.wrap (a2 + 1)), 0, 0, (IntKind.i64.wrap (1 + (IntKind.i64.wrap (((a0.Trees.getD a1.toNat Z7).Calls.getD a2.toNat Z4).Clock.tmod 4)))), v6, (([[97, 112, 105], [100, 98], [119, 101, 98], [99, 97, 99, 104, 101]]).getD (((a0.Trees.getD a1.toNat Z7).Calls.getD a2.toNat Z4).Service.tmod 4).toNat []), (([[118, 49], [118, 50], []]).getD (((a0.Trees.getD a1.toNat Z7).Calls.getD a2.toNat Z4).Version.tmod 3).toNat []), (([[103, 101, 116], [112, 117, 116], [108, 105, 115, 116]]).getD (((a0.Trees.getD a1.toNat Z7).Calls.getD a2.toNat Z4).Operation.tmod 3).toNat []), (a3.getD a2.toNat 0), (a4.getD a2.toNat 0), ((a0.Trees.getD a1.toNat Z7).Calls.getD a2.toNat Z4).Fail, [], []⟩ : Zh) h)
def F124 (K : Nat) (a0 : Zy) (a1 : Int) : Option (Int) :=
 if (0 : Int) ≤ ((IntKind.u64.wrap ((IntKind.u64.wrap a1) + 3)).tmod 4) ∧ ((IntKind.u64.wrap ((IntKind.u64.wrap a1) + 3)).tmod 4) < (4 : Nat) then
  some ((IntKind.i64.wrap (([a0.Offsets.e0, a0.Offsets.e1, a0.Offsets.e2, a0.Offsets.e3] : List Int).getD ((IntKind.u64.wrap ((IntKind.u64.wrap a1) + 3)).tmod 4).toNat 0)).tmod 21)
 else none
theorem F124_ok (K : Nat) (a0 : Zy) (a1 : Int) (r : Int) (h : F124 K a0 a1 = some r) : ACall P 124 ⟨[(Zo a0), (.int .i64 a1)], [], (.int .i64 r), [], []⟩ := by
 refine Z1v Tryz.func124 Tryz.results124 rfl Tryz.ntmps124 rfl rfl rfl ?_
 intro E Q hP hN hro hret
 obtain ⟨P', nt', w0, F0, p0, S0, β0, ro0⟩ := E
 simp only at hP hN
 subst hP hN
 dsimp only [argT]
 unfold F124 at h
 refine Zl <| Zd <| Z2 I (Z2s (v := (Zo a0)) (cs := (Zo a0).cells) I I I I I) I <| Z2 I (Zq (v := (.int .i64 0)) I I) I <| Zi <| Zj <| Zl <| Zd ?_
 refine Z2 I (Zn (v := (.int .i64 a1)) I I) I <| Z2 I (Z3c I us3 u107 I) I <| Z2 I (Z1m (k := .u64) (a := (IntKind.u64.wrap a1)) (b := 3) (c := (IntKind.u64.wrap ((IntKind.u64.wrap a1) + 3))) I I I I) I <| Z2 I (Z39 (k := .u64) (a := (IntKind.u64.wrap ((IntKind.u64.wrap a1) + 3))) (b := 4) (c := ((IntKind.u64.wrap ((IntKind.u64.wrap a1) + 3)).tmod 4)) I I I I (by decide)) I <| Z2 I (Zu (m := 2) (o := 0) I f27_1 I I) I <| AOps.ghost (st' := ⟨[(4, (.int .i64 0)), (8, (.int .u64 ((IntKind.u64.wrap ((IntKind.u64.wrap a1) + 3)).tmod 4))), (9, (.ip [(.int .i8 a0.Offsets.e0), (.int .i8 a0.Offsets.e1), (.int .i8 a0.Offsets.e2), (.int .i8 a0.Offsets.e3), (.sl 5 (a0.Syncs.map Z2t) false), (.int .u8 a0.Wrong)]))], []⟩) (fun a w h => (Z1d ⟨[(4, (.int .i64 0)), (8, (.int .u64 ((IntKind.u64.wrap ((IntKind.u64.wrap a1) + 3)).tmod 4))), (9, (.ip [(.int .i8 a0.Offsets.e0), (.int .i8 a0.Offsets.e1), (.int .i8 a0.Offsets.e2), (.int .i8 a0.Offsets.e3), (.sl 5 (a0.Syncs.map Z2t) false), (.int .u8 a0.Wrong)]))], []⟩ (Z3m (m := 2) (cs := (Zo a0).cells) I a w (Z1d ⟨[(4, (.int .i64 0)), (8, (.int .u64 ((IntKind.u64.wrap ((IntKind.u64.wrap a1) + 3)).tmod 4))), (9, (.ptr 2 1))], [(2, (.box (Zo a0).cells))]⟩ h ⟨rfl, rfl, rfl, trivial⟩ ⟨rfl, trivial⟩)) ⟨rfl, rfl, rfl, trivial⟩ trivial)) ?_
 have ⟨hg1, h⟩ := Z14 h
 refine Z2 I (Zdp (k := .u64) (j := ((IntKind.u64.wrap ((IntKind.u64.wrap a1) + 3)).tmod 4)) (l := [a0.Offsets.e0, a0.Offsets.e1, a0.Offsets.e2, a0.Offsets.e3]) (enc := e_i8) (z := 0) (cs := [(.int .i8 a0.Offsets.e0), (.int .i8 a0.Offsets.e1), (.int .i8 a0.Offsets.e2), (.int .i8 a0.Offsets.e3), (.sl 5 (a0.Syncs.map Z2t) false), (.int .u8 a0.Wrong)]) (ds := [(.int .i8 (([a0.Offsets.e0, a0.Offsets.e1, a0.Offsets.e2, a0.Offsets.e3] : List Int).getD ((IntKind.u64.wrap ((IntKind.u64.wrap a1) + 3)).tmod 4).toNat 0))]) I u24 sz23 I I I I els_i8 hg1 I) I <| Z2 I (Z24 (cs := [(.int .i8 (([a0.Offsets.e0, a0.Offsets.e1, a0.Offsets.e2, a0.Offsets.e3] : List Int).getD ((IntKind.u64.wrap ((IntKind.u64.wrap a1) + 3)).tmod 4).toNat 0))]) (v := (.int .i8 (([a0.Offsets.e0, a0.Offsets.e1, a0.Offsets.e2, a0.Offsets.e3] : List Int).getD ((IntKind.u64.wrap ((IntKind.u64.wrap a1) + 3)).tmod 4).toNat 0))) I o23 I I) I <| Z2 I (Z3c I us23 u3 I) I <| Z2 I (Z39 (k := .i64) (a := (IntKind.i64.wrap (([a0.Offsets.e0, a0.Offsets.e1, a0.Offsets.e2, a0.Offsets.e3] : List Int).getD ((IntKind.u64.wrap ((IntKind.u64.wrap a1) + 3)).tmod 4).toNat 0))) (b := 21) (c := ((IntKind.i64.wrap (([a0.Offsets.e0, a0.Offsets.e1, a0.Offsets.e2, a0.Offsets.e3] : List Int).getD ((IntKind.u64.wrap ((IntKind.u64.wrap a1) + 3)).tmod 4).toNat 0)).tmod 21)) I I I I (by decide)) I <| Z2 I (Zq (v := (.int .i64 ((IntKind.i64.wrap (([a0.Offsets.e0, a0.Offsets.e1, a0.Offsets.e2, a0.Offsets.e3] : List Int).getD ((IntKind.u64.wrap ((IntKind.u64.wrap a1) + 3)).tmod 4).toNat 0)).tmod 21))) I I) I <| Zi <| Zj <| Z1g ?_
 have h := Option.some.inj h
 subst h
 refine (hret _ ?_).1
 exact ⟨[(.int .i64 ((IntKind.i64.wrap (([a0.Offsets.e0, a0.Offsets.e1, a0.Offsets.e2, a0.Offsets.e3] : List Int).getD ((IntKind.u64.wrap ((IntKind.u64.wrap a1) + 3)).tmod 4).toNat 0)).tmod 21))], ⟨rfl, trivial⟩, rfl, trivial⟩
def Za9 (K : Nat) (v7 : (List Zh)) : Option ((List Zh)) :=
 some v7
def Zaz (K : Nat) (v5 : (List Zh)) (b10 : Int → (List Zh) → Option ((List Zh))) (v4 : Int) (v14 : Zh) : Option ((List Zh)) :=
 if v5.length + [v14].length ≤ 1073741824 then
  b10 (IntKind.i64.wrap (v4 + 1)) (v5 ++ [v14])
 else none
def Z9o (K : Nat) (v5 : (List Zh)) (b10 : Int → (List Zh) → Option ((List Zh))) (v4 : Int) (v13 : Zh) (v21 : Int) : Option ((List Zh)) :=
 Zaz K v5 b10 v4 (⟨v13.Trace, v13.Id, v13.Parent, v13.Revision, v13.Clock, v13.Kind, v13.Service, v13.Version, v13.Operation, (IntKind.i64.wrap (v13.Start + v21)), (IntKind.i64.wrap (v13.End + v21)), v13.Error, v13.Attrs, v13.Links⟩ : Zh)
def Z7v (K : Nat) (v5 : (List Zh)) (b10 : Int → (List Zh) → Option ((List Zh))) (v4 : Int) (v13 : Zh) (v18 : Int) (v19 : Bool) : Option ((List Zh)) :=
 if v19 = true then
  Z9o K v5 b10 v4 v13 (IntKind.i64.wrap (v18 + 500))
 else
  Z9o K v5 b10 v4 v13 v18
def Z4s (K : Nat) (a1 : Int) (a0 : Zy) (v3 : (List Int) × (List Int)) (a2 : Bool) (c9 : (List Zh) → Option ((List Zh))) : Nat → Int → (List Zh) → Option ((List Zh))
 | 0, _, _ => none
 | k6 + 1, v4, v5 =>
  if (0 : Int) ≤ a1 ∧ a1 < a0.Trees.length then
   if (decide (v4 < ((a0.Trees.getD a1.toNat Z7).Calls.length : Int))) = true then
    (F123 K a0 a1 v4 v3.1 v3.2).bind fun v13 =>
     if (!a2) = true then
      (F124 K a0 v13.Clock).bind fun v18 =>
       if (decide (a0.Wrong > 0)) = true then
        if (((IntKind.i64.wrap a0.Wrong).tmod 8) == v4) = true then
         Z7v K v5 (Z4s K a1 a0 v3 a2 c9 k6) v4 v13 v18 (((IntKind.i64.wrap ((IntKind.i64.wrap a0.Wrong).tdiv 8)).tmod 3) == a1)
        else
         Z7v K v5 (Z4s K a1 a0 v3 a2 c9 k6) v4 v13 v18 false
       else
        Z7v K v5 (Z4s K a1 a0 v3 a2 c9 k6) v4 v13 v18 false
     else
      Zaz K v5 (Z4s K a1 a0 v3 a2 c9 k6) v4 v13
   else
    c9 v5
  else none
def F83 (K : Nat) (a0 : Zy) (a1 : Int) (a2 : Bool) : Option ((List Zh)) :=
 if (0 : Int) ≤ a1 ∧ a1 < a0.Trees.length then
  (F122 K (a0.Trees.getD a1.toNat Z7)).bind fun v3 =>
   Z4s K a1 a0 v3 a2 (Za9 K) K 0 []
 else none
theorem F83_ok (K : Nat) (a0 : Zy) (a1 : Int) (a2 : Bool) (r : (List Zh)) (h : F83 K a0 a1 a2 = some r) : ACall P 83 ⟨[(Zo a0), (.int .i64 a1), (.bool a2)], [], (.sl 14 (r.map Z5) false), [], []⟩ := by
 refine Z1v Tryz.func83 Tryz.results83 rfl Tryz.ntmps83 rfl rfl rfl ?_
 intro E Q hP hN hro hret
 obtain ⟨P', nt', w0, F0, p0, S0, β0, ro0⟩ := E
 simp only at hP hN
 subst hP hN
 dsimp only [argT]
 unfold F83 at h
 refine Zl <| Zd <| Z2 I (Z2s (v := (Zo a0)) (cs := (Zo a0).cells) I I I I I) I <| Z2 I (Zq (v := (.sl 14 [] false)) I I) I <| Zi <| Zj <| Zl <| Zd ?_
 refine Z2 I (Zq (v := (.sl 14 [] true)) I I) I <| Zi <| Zj <| Zl <| Zd <| Z2 I (Zu (m := 3) (o := 0) I f27_0 I I) I <| Z2 I (Zz (cs := (Zo a0).cells) (v := (.sl 3 (a0.Trees.map Zw) false)) I o22 I I I) I <| Z2 I (Zn (v := (.int .i64 a1)) I I) I ?_
 have ⟨hg1, h⟩ := Z14 h
 refine Z2 I (Z1s (k := .i64) (l := a0.Trees) (enc := Zw) (z := Z7) (n := a1) (cs := (Zw (a0.Trees.getD a1.toNat Z7)).cells) (full := false) I s22 I I hg1 I) I <| Z2 I (Z2i (cs := (Zw (a0.Trees.getD a1.toNat Z7)).cells) (vs := (Zw (a0.Trees.getD a1.toNat Z7)).cells) I a105 I I I) I ?_
 have ⟨v3, hv3, h⟩ := Z1c h
 refine Z2 I (Z1e (ar := [(Zw (a0.Trees.getD a1.toNat Z7))]) (caps := []) Tryz.call122 (F122_ok K (a0.Trees.getD a1.toNat Z7) v3 hv3) I I ⟨rfl, trivial⟩ I) I <| Z2 I (Zn (v := (.tup [(.sl 1 (v3.1.map Z1f) false), (.sl 1 (v3.2.map Z1f) false)])) I I) I <| Z2 I (Z2b (vs := [(.sl 1 (v3.1.map Z1f) false), (.sl 1 (v3.2.map Z1f) false)]) (v := (.sl 1 (v3.1.map Z1f) false)) I I I) I <| Z2 I (Z2b (vs := [(.sl 1 (v3.1.map Z1f) false), (.sl 1 (v3.2.map Z1f) false)]) (v := (.sl 1 (v3.2.map Z1f) false)) I I I) I <| Z2 I (Zq (v := (.sl 1 (v3.1.map Z1f) false)) I I) I <| Z2 I (Zq (v := (.sl 1 (v3.2.map Z1f) false)) I I) I <| Zi <| Zj ?_
 refine Zl <| Zl <| Zd <| Z2 I (Zq (v := (.int .i64 0)) I I) I <| Zi <| Zj <| AWp.ghost (st' := ⟨[(1, (.int .i64 a1)), (2, (.bool a2)), (3, (.ptr 3 0)), (7, (.vs 7)), (8, (.sl 1 (v3.1.map Z1f) false)), (9, (.sl 1 (v3.2.map Z1f) false)), (10, (.int .i64 0))], [(3, (.box (Zo a0).cells)), (7, (.vec 14 (List.map Z5 ([] : List Zh))))]⟩) (fun a w h => (Z1d ⟨[(1, (.int .i64 a1)), (2, (.bool a2)), (3, (.ptr 3 0)), (7, (.vs 7)), (8, (.sl 1 (v3.1.map Z1f) false)), (9, (.sl 1 (v3.2.map Z1f) false)), (10, (.int .i64 0))], [(3, (.box (Zo a0).cells)), (7, (.vec 14 (List.map Z5 ([] : List Zh))))]⟩ (Z4d (k := 7) (m := 7) (sz := 14) I I a w (Z1d ⟨[(7, (.sl 14 [] true)), (1, (.int .i64 a1)), (2, (.bool a2)), (3, (.ptr 3 0)), (8, (.sl 1 (v3.1.map Z1f) false)), (9, (.sl 1 (v3.2.map Z1f) false)), (10, (.int .i64 0))], [(3, (.box (Zo a0).cells))]⟩ h ⟨rfl, rfl, rfl, rfl, rfl, rfl, rfl, trivial⟩ ⟨rfl, trivial⟩)) ⟨rfl, rfl, rfl, rfl, rfl, rfl, rfl, trivial⟩ ⟨rfl, rfl, trivial⟩)) <| AWp.weaken (st' := ⟨[(1, (.int .i64 a1)), (2, (.bool a2)), (3, (.ptr 3 0)), (7, (.vs 7)), (8, (.sl 1 (v3.1.map Z1f) false)), (9, (.sl 1 (v3.2.map Z1f) false)), (10, (.int .i64 0))], [(3, (.box (Zo a0).cells)), (7, (.vec 14 (List.map Z5 [])))]⟩) ⟨rfl, rfl, rfl, rfl, rfl, rfl, rfl, trivial⟩ ⟨rfl, rfl, trivial⟩ ?_
 refine Z1l (V := Int × (List Zh)) (X := (List Zh)) (lp := fun k v => Z4s K a1 a0 v3 a2 (Za9 K) k v.1 v.2 = some r) (sh := fun v => ⟨[(1, (.int .i64 a1)), (2, (.bool a2)), (3, (.ptr 3 0)), (7, (.vs 7)), (8, (.sl 1 (v3.1.map Z1f) false)), (9, (.sl 1 (v3.2.map Z1f) false)), (10, (.int .i64 v.1))], [(3, (.box (Zo a0).cells)), (7, (.vec 14 (List.map Z5 v.2)))]⟩) (x := fun v => Za9 K v = some r) (shx := fun v => ⟨[(7, (.vs 7))], [(7, (.vec 14 (List.map Z5 v)))]⟩) (k := K) (v := (0, [])) h ?_ ?_
 ·intro v h
  revert h
  revert v
  intro v7 h
  try dsimp only at h ⊢
  unfold Za9 at h
  refine Zj <| Zl <| Zd <| Z2 I (Zn (v := (.vs 7)) I I) I <| Z2 I (Zq (v := (.vs 7)) I I) I <| Zi <| Zj <| Z1g ?_
  refine At.ghost (st' := ⟨[(6, (.sl 14 (v7.map Z5) false))], []⟩) (fun a w h => (Z1d ⟨[(6, (.sl 14 (v7.map Z5) false))], []⟩ (Z2c (m := 7) (sz := 14) (es := (List.map Z5 v7)) a w (Z1d ⟨[(6, (.vs 7))], [(7, (.vec 14 (List.map Z5 v7)))]⟩ h ⟨rfl, trivial⟩ ⟨rfl, trivial⟩)) ⟨rfl, trivial⟩ trivial)) ?_
  have h := Option.some.inj h
  subst h
  refine (hret _ ?_).1
  exact ⟨[(.sl 14 (v7.map Z5) false)], ⟨rfl, trivial⟩, rfl, trivial⟩
 ·intro N k6 v h IH6 J6
  obtain ⟨v4, v5⟩ := v
  try dsimp only at h IH6 J6 ⊢
  cases k6 with
  | zero => cases h
  | succ k6 =>
   rw [Z4s] at h
   refine Zl <| Zl <| Zd <| Z2 I (Zn (v := (.int .i64 v4)) I I) I <| Z2 I (Zu (m := 3) (o := 0) I f27_0 I I) I <| Z2 I (Zz (cs := (Zo a0).cells) (v := (.sl 3 (a0.Trees.map Zw) false)) I o22 I I I) I <| Z2 I (Zn (v := (.int .i64 a1)) I I) I ?_
   have ⟨hg11, h⟩ := Z14 h
   refine Z2 I (Z1s (k := .i64) (l := a0.Trees) (enc := Zw) (z := Z7) (n := a1) (cs := (Zw (a0.Trees.getD a1.toNat Z7)).cells) (full := false) I s22 I I hg11 I) I <| Z2 I (Z2d (cs := (Zw (a0.Trees.getD a1.toNat Z7)).cells) (ds := [(.sl 11 ((a0.Trees.getD a1.toNat Z7).Calls.map Zp) false)]) I Z6w I I I) I <| Z2 I (Z24 (cs := [(.sl 11 ((a0.Trees.getD a1.toNat Z7).Calls.map Zp) false)]) (v := (.sl 11 ((a0.Trees.getD a1.toNat Z7).Calls.map Zp) false)) I o103 I I) I <| Z2 I (Z23 (l := (a0.Trees.getD a1.toNat Z7).Calls) (enc := Zp) I s103 I) I <| Z2 I (Z1y (k := .i64) (a := v4) (b := ((a0.Trees.getD a1.toNat Z7).Calls.length : Int)) (c := (decide (v4 < ((a0.Trees.getD a1.toNat Z7).Calls.length : Int)))) I I I I) I <| Zi <| Zj ?_
   have hif := Z21 h
   refine Z18 I (fun hc => ?_) (fun hc => ?_)
   ·have h := hif.1 hc
    refine Z1b <| Zj <| Zl <| AWp.block <| Zl <| Zd <| Z2 I (Z1k (cs := (Zo a0).cells) (vs := (Zo a0).cells) I a27 I I I I) I <| Z2 I (Zn (v := (.int .i64 a1)) I I) I ?_
    refine Z2 I (Zn (v := (.int .i64 v4)) I I) I <| Z2 I (Zn (v := (.sl 1 (v3.1.map Z1f) false)) I I) I <| Z2 I (Zn (v := (.sl 1 (v3.2.map Z1f) false)) I I) I ?_
    have ⟨v13, hv13, h⟩ := Z1c h
    refine Z2 I (Z1e (ar := [(Zo a0), (.int .i64 a1), (.int .i64 v4), (.sl 1 (v3.1.map Z1f) false), (.sl 1 (v3.2.map Z1f) false)]) (caps := []) Tryz.call123 (F123_ok K a0 a1 v4 v3.1 v3.2 v13 hv13) I I ⟨rfl, rfl, rfl, rfl, rfl, trivial⟩ I) I <| Z2 I (Z1x (cs := [(.int .i64 0), (.int .i64 0), (.int .i64 0), (.int .i64 0), (.int .i64 0), (.int .i64 0), (.str []), (.str []), (.str []), (.int .i64 0), (.int .i64 0), (.bool false), (.sl 4 [] false), (.sl 2 [] false)]) I z56 I I I) I <| Z2 I (Z1a (cs := [(.int .i64 0), (.int .i64 0), (.int .i64 0), (.int .i64 0), (.int .i64 0), (.int .i64 0), (.str []), (.str []), (.str []), (.int .i64 0), (.int .i64 0), (.bool false), (.sl 4 [] false), (.sl 2 [] false)]) (vs := (Z5 v13).cells) (ds := (Z5 v13).cells) (v := (Z5 v13)) sz56 I I I I I I I I) I <| Zi <| Zj <| Zl <| Zl <| Zd ?_
    refine Z2 I (Zn (v := (.bool a2)) I I) I <| Z2 I (Zcq (b := a2) I I) I <| Zi <| Zj ?_
    refine AWp.join (V := Zh) (lp := fun v => Zaz K v5 (Z4s K a1 a0 v3 a2 (Za9 K) k6) v4 v = some r) (sh := fun v => ⟨[(1, (.int .i64 a1)), (2, (.bool a2)), (3, (.ptr 3 0)), (7, (.vs 7)), (8, (.sl 1 (v3.1.map Z1f) false)), (9, (.sl 1 (v3.2.map Z1f) false)), (10, (.int .i64 v4)), (11, (.ptr 11 0))], [(3, (.box (Zo a0).cells)), (7, (.vec 14 (List.map Z5 v5))), (11, (.box (Z5 v).cells))]⟩) ?_ ?_
    ·intro v h
     revert h
     revert v
     intro v14 h
     try dsimp only at h ⊢
     unfold Zaz at h
     refine Zj <| Zd <| Z2 I (Zn (v := (.vs 7)) I I) I <| Z2 I (Z1k (cs := (Z5 v14).cells) (vs := (Z5 v14).cells) I a56 I I I I) I <| Z2 I (Z1j (vs := [(Z5 v14)]) (enc := Z5) (l := [v14]) I el37 I I ⟨rfl, trivial⟩ I Z2q I I I I) I ?_
     have ⟨hg16, h⟩ := Z14 h
     refine Z2 I (Z2l (m := 7) (enc := Z5) (l := v5) (l' := [v14]) (src := (.vs 79)) (rd := [(79, (.vec 14 (List.map Z5 [v14])))]) I I el37 I u37 I I I I (oneRead I) Z2q hg16) I <| Z2 I (Zq (v := (.vs 7)) I I) I <| Zi <| At.end <| Zj <| Zd <| Z2 I (Zn (v := (.int .i64 v4)) I I) I <| Z2 I (Z1m (k := .i64) (a := v4) (b := 1) (c := (IntKind.i64.wrap (v4 + 1))) I I I I) I ?_
     refine Z2 I (Zq (v := (.int .i64 (IntKind.i64.wrap (v4 + 1)))) I I) I <| Zi ?_
     exact Z11 (st' := ⟨[(1, (.int .i64 a1)), (2, (.bool a2)), (3, (.ptr 3 0)), (7, (.vs 7)), (8, (.sl 1 (v3.1.map Z1f) false)), (9, (.sl 1 (v3.2.map Z1f) false)), (10, (.int .i64 (IntKind.i64.wrap (v4 + 1))))], [(3, (.box (Zo a0).cells)), (7, (.vec 14 (List.map Z5 (v5 ++ [v14]))))]⟩) ⟨rfl, rfl, rfl, rfl, rfl, rfl, rfl, trivial⟩ ⟨rfl, rfl, trivial⟩ (IH6 _ ((IntKind.i64.wrap (v4 + 1)), (v5 ++ [v14])) (Nat.lt_succ_self _) h)
    ·intro J15
     have hif := Z21 h
     refine Z18 I (fun hc => ?_) (fun hc => ?_)
     ·have h := hif.1 hc
      refine Zl <| Zd <| Z2 I (Z1k (cs := (Zo a0).cells) (vs := (Zo a0).cells) I a27 I I I I) I <| Z2 I (Zu (m := 11) (o := 0) I f56_4 I I) I <| Z2 I (Zz (cs := (Z5 v13).cells) (v := (.int .i64 v13.Clock)) I o3 I I I) I ?_
      have ⟨v18, hv18, h⟩ := Z1c h
      refine Z2 I (Z1e (ar := [(Zo a0), (.int .i64 v13.Clock)]) (caps := []) Tryz.call124 (F124_ok K a0 v13.Clock v18 hv18) I I ⟨rfl, rfl, trivial⟩ I) I <| Z2 I (Zq (v := (.int .i64 v18)) I I) I <| Zi <| Zj <| Zl <| Zl ?_
      refine AWp.join (V := Bool) (lp := fun v => Z7v K v5 (Z4s K a1 a0 v3 a2 (Za9 K) k6) v4 v13 v18 v = some r) (sh := fun v => ⟨[(1, (.int .i64 a1)), (2, (.bool a2)), (3, (.ptr 3 0)), (7, (.vs 7)), (8, (.sl 1 (v3.1.map Z1f) false)), (9, (.sl 1 (v3.2.map Z1f) false)), (10, (.int .i64 v4)), (11, (.ptr 11 0)), (12, (.int .i64 v18)), (64, (.bool v))], [(3, (.box (Zo a0).cells)), (7, (.vec 14 (List.map Z5 v5))), (11, (.box (Z5 v13).cells))]⟩) ?_ ?_
      ·intro v h
       revert h
       revert v
       intro v19 h
       try dsimp only at h ⊢
       unfold Z7v at h
       refine Zj ?_
       refine AWp.join (V := Int) (lp := fun v => Z9o K v5 (Z4s K a1 a0 v3 a2 (Za9 K) k6) v4 v13 v = some r) (sh := fun v => ⟨[(1, (.int .i64 a1)), (2, (.bool a2)), (3, (.ptr 3 0)), (7, (.vs 7)), (8, (.sl 1 (v3.1.map Z1f) false)), (9, (.sl 1 (v3.2.map Z1f) false)), (10, (.int .i64 v4)), (11, (.ptr 11 0)), (12, (.int .i64 v))], [(3, (.box (Zo a0).cells)), (7, (.vec 14 (List.map Z5 v5))), (11, (.box (Z5 v13).cells))]⟩) ?_ ?_
       ·intro v h
        revert h
        revert v
        intro v21 h
        try dsimp only at h ⊢
        unfold Z9o at h
        refine Zj <| Zd <| Z2 I (Zu (m := 11) (o := 0) I f56_9 I I) I <| Z2 I (Zz (cs := (Z5 v13).cells) (v := (.int .i64 v13.Start)) I o3 I I I) I <| Z2 I (Zn (v := (.int .i64 v21)) I I) I <| Z2 I (Z1m (k := .i64) (a := v13.Start) (b := v21) (c := (IntKind.i64.wrap (v13.Start + v21))) I I I I) I <| Z2 I (Zu (m := 11) (o := 0) I f56_10 I I) I <| Z2 I (Zz (cs := (Z5 v13).cells) (v := (.int .i64 v13.End)) I o3 I I I) I ?_
        refine Z2 I (Zn (v := (.int .i64 v21)) I I) I <| Z2 I (Z1m (k := .i64) (a := v13.End) (b := v21) (c := (IntKind.i64.wrap (v13.End + v21))) I I I I) I <| Z2 I (Zu (m := 11) (o := 0) I f56_9 I I) I <| Z2 I (Z1a (cs := (Z5 v13).cells) (vs := [(.int .i64 (IntKind.i64.wrap (v13.Start + v21)))]) (ds := [(.int .i64 v13.Trace), (.int .i64 v13.Id), (.int .i64 v13.Parent), (.int .i64 v13.Revision), (.int .i64 v13.Clock), (.int .i64 v13.Kind), (.str v13.Service), (.str v13.Version), (.str v13.Operation), (.int .i64 (IntKind.i64.wrap (v13.Start + v21))), (.int .i64 v13.End), (.bool v13.Error), (.sl 4 (v13.Attrs.map Zv) false), (.sl 2 (v13.Links.map Z10) false)]) (v := (.int .i64 (IntKind.i64.wrap (v13.Start + v21)))) sz3 I I I I I I I I) I <| Z2 I (Zu (m := 11) (o := 0) I f56_10 I I) I <| Z2 I (Z1a (cs := [(.int .i64 v13.Trace), (.int .i64 v13.Id), (.int .i64 v13.Parent), (.int .i64 v13.Revision), (.int .i64 v13.Clock), (.int .i64 v13.Kind), (.str v13.Service), (.str v13.Version), (.str v13.Operation), (.int .i64 (IntKind.i64.wrap (v13.Start + v21))), (.int .i64 v13.End), (.bool v13.Error), (.sl 4 (v13.Attrs.map Zv) false), (.sl 2 (v13.Links.map Z10) false)]) (vs := [(.int .i64 (IntKind.i64.wrap (v13.End + v21)))]) (ds := [(.int .i64 v13.Trace), (.int .i64 v13.Id), (.int .i64 v13.Parent), (.int .i64 v13.Revision), (.int .i64 v13.Clock), (.int .i64 v13.Kind), (.str v13.Service), (.str v13.Version), (.str v13.Operation), (.int .i64 (IntKind.i64.wrap (v13.Start + v21))), (.int .i64 (IntKind.i64.wrap (v13.End + v21))), (.bool v13.Error), (.sl 4 (v13.Attrs.map Zv) false), (.sl 2 (v13.Links.map Z10) false)]) (v := (.int .i64 (IntKind.i64.wrap (v13.End + v21)))) sz3 I I I I I I I I) I <| Zi ?_
        exact Z11 (st' := ⟨[(1, (.int .i64 a1)), (2, (.bool a2)), (3, (.ptr 3 0)), (7, (.vs 7)), (8, (.sl 1 (v3.1.map Z1f) false)), (9, (.sl 1 (v3.2.map Z1f) false)), (10, (.int .i64 v4)), (11, (.ptr 11 0))], [(3, (.box (Zo a0).cells)), (7, (.vec 14 (List.map Z5 v5))), (11, (.box (Z5 (⟨v13.Trace, v13.Id, v13.Parent, v13.Revision, v13.Clock, v13.Kind, v13.Service, v13.Version, v13.Operation, (IntKind.i64.wrap (v13.Start + v21)), (IntKind.i64.wrap (v13.End + v21)), v13.Error, v13.Attrs, v13.Links⟩ : Zh)).cells))]⟩) ⟨rfl, rfl, rfl, rfl, rfl, rfl, rfl, rfl, trivial⟩ ⟨rfl, rfl, rfl, trivial⟩ (J15 (⟨v13.Trace, v13.Id, v13.Parent, v13.Revision, v13.Clock, v13.Kind, v13.Service, v13.Version, v13.Operation, (IntKind.i64.wrap (v13.Start + v21)), (IntKind.i64.wrap (v13.End + v21)), v13.Error, v13.Attrs, v13.Links⟩ : Zh) h)
       ·intro J22
        have hif := Z21 h
        refine Z18 I (fun hc => ?_) (fun hc => ?_)
        ·have h := hif.1 hc
         refine Zd <| Z2 I (Zn (v := (.int .i64 v18)) I I) I <| Z2 I (Z1m (k := .i64) (a := v18) (b := 500) (c := (IntKind.i64.wrap (v18 + 500))) I I I I) I <| Z2 I (Zq (v := (.int .i64 (IntKind.i64.wrap (v18 + 500)))) I I) I <| Zi ?_
         exact Z11 (st' := ⟨[(1, (.int .i64 a1)), (2, (.bool a2)), (3, (.ptr 3 0)), (7, (.vs 7)), (8, (.sl 1 (v3.1.map Z1f) false)), (9, (.sl 1 (v3.2.map Z1f) false)), (10, (.int .i64 v4)), (11, (.ptr 11 0)), (12, (.int .i64 (IntKind.i64.wrap (v18 + 500))))], [(3, (.box (Zo a0).cells)), (7, (.vec 14 (List.map Z5 v5))), (11, (.box (Z5 v13).cells))]⟩) ⟨rfl, rfl, rfl, rfl, rfl, rfl, rfl, rfl, rfl, trivial⟩ ⟨rfl, rfl, rfl, trivial⟩ (J22 (IntKind.i64.wrap (v18 + 500)) h)
        ·have h := hif.2 hc
         refine Z1b ?_
         exact Z11 (st' := ⟨[(1, (.int .i64 a1)), (2, (.bool a2)), (3, (.ptr 3 0)), (7, (.vs 7)), (8, (.sl 1 (v3.1.map Z1f) false)), (9, (.sl 1 (v3.2.map Z1f) false)), (10, (.int .i64 v4)), (11, (.ptr 11 0)), (12, (.int .i64 v18))], [(3, (.box (Zo a0).cells)), (7, (.vec 14 (List.map Z5 v5))), (11, (.box (Z5 v13).cells))]⟩) ⟨rfl, rfl, rfl, rfl, rfl, rfl, rfl, rfl, rfl, trivial⟩ ⟨rfl, rfl, rfl, trivial⟩ (J22 v18 h)
      ·intro J20
       refine Zd <| Z2 I (Zu (m := 3) (o := 0) I f27_3 I I) I <| Z2 I (Zz (cs := (Zo a0).cells) (v := (.int .u8 a0.Wrong)) I o5 I I I) I <| Z2 I (Z1y (k := .u8) (a := a0.Wrong) (b := 0) (c := (decide (a0.Wrong > 0))) I I I I) I <| Z2 I (Zn (v := (.bool (decide (a0.Wrong > 0)))) I I) I ?_
       have hif := Z21 h
       refine AOps.split (fun hc => ?_) (fun hc => ?_)
       ·have h := hif.1 hc
        refine Z17 I I I I (Zu (m := 3) (o := 0) I f27_3 I I) I <| Z17 I I I I (Zz (cs := (Zo a0).cells) (v := (.int .u8 a0.Wrong)) I o5 I I I) I <| Z17 I I I I (Z3c I us5 u3 I) I <| Z17 I I I I (Z39 (k := .i64) (a := (IntKind.i64.wrap a0.Wrong)) (b := 8) (c := ((IntKind.i64.wrap a0.Wrong).tmod 8)) I I I I (by decide)) I <| Z17 I I I I (Zn (v := (.int .i64 v4)) I I) I <| Z17 I I I I (Z1y (k := .i64) (a := ((IntKind.i64.wrap a0.Wrong).tmod 8)) (b := v4) (c := (((IntKind.i64.wrap a0.Wrong).tmod 8) == v4)) I I I I) I <| Z2 I (Z2f (v := (.bool (((IntKind.i64.wrap a0.Wrong).tmod 8) == v4))) I I I) I <| Z2 I (Zn (v := (.bool (((IntKind.i64.wrap a0.Wrong).tmod 8) == v4))) I I) I ?_
        have hif := Z21 h
        refine AOps.split (fun hc => ?_) (fun hc => ?_)
        ·have h := hif.1 hc
         refine Z17 I I I I (Zu (m := 3) (o := 0) I f27_3 I I) I <| Z17 I I I I (Zz (cs := (Zo a0).cells) (v := (.int .u8 a0.Wrong)) I o5 I I I) I <| Z17 I I I I (Z3c I us5 u3 I) I <| Z17 I I I I (Z39 (k := .i64) (a := (IntKind.i64.wrap a0.Wrong)) (b := 8) (c := (IntKind.i64.wrap ((IntKind.i64.wrap a0.Wrong).tdiv 8))) I I I I (by decide)) I <| Z17 I I I I (Z39 (k := .i64) (a := (IntKind.i64.wrap ((IntKind.i64.wrap a0.Wrong).tdiv 8))) (b := 3) (c := ((IntKind.i64.wrap ((IntKind.i64.wrap a0.Wrong).tdiv 8)).tmod 3)) I I I I (by decide)) I <| Z17 I I I I (Zn (v := (.int .i64 a1)) I I) I <| Z17 I I I I (Z1y (k := .i64) (a := ((IntKind.i64.wrap ((IntKind.i64.wrap a0.Wrong).tdiv 8)).tmod 3)) (b := a1) (c := (((IntKind.i64.wrap ((IntKind.i64.wrap a0.Wrong).tdiv 8)).tmod 3) == a1)) I I I I) I <| Z2 I (Z2f (v := (.bool (((IntKind.i64.wrap ((IntKind.i64.wrap a0.Wrong).tdiv 8)).tmod 3) == a1))) I I I) I ?_
         refine Zi ?_
         exact Z11 (st' := ⟨[(1, (.int .i64 a1)), (2, (.bool a2)), (3, (.ptr 3 0)), (7, (.vs 7)), (8, (.sl 1 (v3.1.map Z1f) false)), (9, (.sl 1 (v3.2.map Z1f) false)), (10, (.int .i64 v4)), (11, (.ptr 11 0)), (12, (.int .i64 v18)), (64, (.bool (((IntKind.i64.wrap ((IntKind.i64.wrap a0.Wrong).tdiv 8)).tmod 3) == a1)))], [(3, (.box (Zo a0).cells)), (7, (.vec 14 (List.map Z5 v5))), (11, (.box (Z5 v13).cells))]⟩) ⟨rfl, rfl, rfl, rfl, rfl, rfl, rfl, rfl, rfl, rfl, trivial⟩ ⟨rfl, rfl, rfl, trivial⟩ (J20 (((IntKind.i64.wrap ((IntKind.i64.wrap a0.Wrong).tdiv 8)).tmod 3) == a1) h)
        ·have h := hif.2 hc
         refine Z13 I I I I I I I <| Z13 I I I I I I I <| Z13 I I I I I I I <| Z13 I I I I I I I <| Z13 I I I I I I I <| Z13 I I I I I I I <| Z13 I I I I I I I <| Z2 I (Z20 (v := (.bool false)) I I I) I ?_
         refine Zi ?_
         exact Z11 (st' := ⟨[(1, (.int .i64 a1)), (2, (.bool a2)), (3, (.ptr 3 0)), (7, (.vs 7)), (8, (.sl 1 (v3.1.map Z1f) false)), (9, (.sl 1 (v3.2.map Z1f) false)), (10, (.int .i64 v4)), (11, (.ptr 11 0)), (12, (.int .i64 v18)), (64, (.bool false))], [(3, (.box (Zo a0).cells)), (7, (.vec 14 (List.map Z5 v5))), (11, (.box (Z5 v13).cells))]⟩) ⟨rfl, rfl, rfl, rfl, rfl, rfl, rfl, rfl, rfl, rfl, trivial⟩ ⟨rfl, rfl, rfl, trivial⟩ (J20 false h)
       ·have h := hif.2 hc
        refine Z13 I I I I I I I <| Z13 I I I I I I I <| Z13 I I I I I I I <| Z13 I I I I I I I <| Z13 I I I I I I I <| Z13 I I I I I I I <| Z2 I (Z20 (v := (.bool false)) I I I) I <| Z2 I (Zn (v := (.bool false)) I I) I ?_
        refine Z13 I I I I I I I <| Z13 I I I I I I I <| Z13 I I I I I I I <| Z13 I I I I I I I <| Z13 I I I I I I I <| Z13 I I I I I I I <| Z13 I I I I I I I <| Z2 I (Z20 (v := (.bool false)) I I I) I ?_
        refine Zi ?_
        exact Z11 (st' := ⟨[(1, (.int .i64 a1)), (2, (.bool a2)), (3, (.ptr 3 0)), (7, (.vs 7)), (8, (.sl 1 (v3.1.map Z1f) false)), (9, (.sl 1 (v3.2.map Z1f) false)), (10, (.int .i64 v4)), (11, (.ptr 11 0)), (12, (.int .i64 v18)), (64, (.bool false))], [(3, (.box (Zo a0).cells)), (7, (.vec 14 (List.map Z5 v5))), (11, (.box (Z5 v13).cells))]⟩) ⟨rfl, rfl, rfl, rfl, rfl, rfl, rfl, rfl, rfl, rfl, trivial⟩ ⟨rfl, rfl, rfl, trivial⟩ (J20 false h)
     ·have h := hif.2 hc
      refine Z1b ?_
      exact Z11 (st' := ⟨[(1, (.int .i64 a1)), (2, (.bool a2)), (3, (.ptr 3 0)), (7, (.vs 7)), (8, (.sl 1 (v3.1.map Z1f) false)), (9, (.sl 1 (v3.2.map Z1f) false)), (10, (.int .i64 v4)), (11, (.ptr 11 0))], [(3, (.box (Zo a0).cells)), (7, (.vec 14 (List.map Z5 v5))), (11, (.box (Z5 v13).cells))]⟩) ⟨rfl, rfl, rfl, rfl, rfl, rfl, rfl, rfl, trivial⟩ ⟨rfl, rfl, rfl, trivial⟩ (J15 v13 h)
   ·have h := hif.2 hc
    refine AWp.exit <| At.thru ?_
    exact Z11 (st' := ⟨[(7, (.vs 7))], [(7, (.vec 14 (List.map Z5 v5)))]⟩) ⟨rfl, trivial⟩ ⟨rfl, trivial⟩ (J6 v5 h)
def Za1 (K : Nat) (v4 : (List Zt)) : Option ((List Zt)) :=
 some v4
def Zdk (K : Nat) (b7 : Int → (List Zt) → Option ((List Zt))) (v1 : Int) (v8 : (List Zt)) : Option ((List Zt)) :=
 b7 (IntKind.i64.wrap (v1 + 1)) v8
def Z94 (K : Nat) (v2 : (List Zt)) (v12 : Int) (v14 : (List Zh)) (b7 : Int → (List Zt) → Option ((List Zt))) (v1 : Int) (v17 : Int) : Option ((List Zt)) :=
 if (0 : Int) ≤ 0 ∧ 0 ≤ v17 ∧ v17 ≤ (v2.length : Nat) then
  if (0 + (0 : Int).toNat) + (v17.toNat - (0 : Int).toNat) ≤ v2.length then
   if (0 + (0 : Int).toNat) + (v17.toNat - (0 : Int).toNat) ≤ v2.length then
    if ([] : List Zt).length + ((v2.drop (0 + (0 : Int).toNat)).take (v17.toNat - (0 : Int).toNat)).length ≤ 1073741824 then
     if ((v2.drop (0 + (0 : Int).toNat)).take (v17.toNat - (0 : Int).toNat)).length + [(⟨v12, 1, v14⟩ : Zt)].length ≤ 1073741824 then
      if (0 : Int) ≤ v17 ∧ v17 ≤ (v2.length : Int) ∧ (v2.length : Int) ≤ (v2.length : Nat) then
       if (0 + v17.toNat) + ((v2.length : Int).toNat - v17.toNat) ≤ v2.length then
        if (0 + v17.toNat) + ((v2.length : Int).toNat - v17.toNat) ≤ v2.length then
         if (((v2.drop (0 + (0 : Int).toNat)).take (v17.toNat - (0 : Int).toNat)) ++ [(⟨v12, 1, v14⟩ : Zt)]).length + ((v2.drop (0 + v17.toNat)).take ((v2.length : Int).toNat - v17.toNat)).length ≤ 1073741824 then
          Zdk K b7 v1 ((((v2.drop (0 + (0 : Int).toNat)).take (v17.toNat - (0 : Int).toNat)) ++ [(⟨v12, 1, v14⟩ : Zt)]) ++ ((v2.drop (0 + v17.toNat)).take ((v2.length : Int).toNat - v17.toNat)))
         else none
        else none
       else none
      else none
     else none
    else none
   else none
  else none
 else none
def Z7y (K : Nat) (v2 : (List Zt)) (v12 : Int) (c19 : Int → Option ((List Zt))) : Nat → Int → Option ((List Zt))
 | 0, _ => none
 | k16 + 1, v15 =>
  if (decide (v15 > 0)) = true then
   if (0 : Int) ≤ (IntKind.i64.wrap (v15 - 1)) ∧ (IntKind.i64.wrap (v15 - 1)) < (v2.length : Nat) then
    if (IntKind.i64.wrap (v15 - 1)).toNat < v2.length then
     if (decide ((v2.getD (IntKind.i64.wrap (v15 - 1)).toNat Z9).Id > v12)) = true then
      (Z7y K v2 v12 c19 k16) (IntKind.i64.wrap (v15 - 1))
     else
      c19 v15
    else none
   else none
  else
   c19 v15
def Z6n (K : Nat) (a0 : Zy) (c6 : (List Zt) → Option ((List Zt))) : Nat → Int → (List Zt) → Option ((List Zt))
 | 0, _, _ => none
 | k3 + 1, v1, v2 =>
  if (decide (v1 < (a0.Trees.length : Int))) = true then
   if (0 : Int) ≤ v1 ∧ v1 < a0.Trees.length then
    if (((a0.Trees.getD v1.toNat Z7).Calls.length : Int) == 0) = true then
     Zdk K (Z6n K a0 c6 k3) v1 v2
    else
     (F82 K a0 v1).bind fun v12 =>
      (F83 K a0 v1 false).bind fun v14 =>
       Z7y K v2 v12 (Z94 K v2 v12 v14 (Z6n K a0 c6 k3) v1) K (v2.length : Int)
   else none
  else
   c6 v2
def F39 (K : Nat) (a0 : Zy) : Option ((List Zt)) :=
 Z6n K a0 (Za1 K) K 0 []
theorem F39_ok (K : Nat) (a0 : Zy) (r : (List Zt)) (h : F39 K a0 = some r) : ACall P 39 ⟨[(Zo a0)], [], .vs 2, [(2, .vec 3 (List.map Zb r))], [2]⟩ := by
 refine Z1v Tryz.func39 Tryz.results39 rfl Tryz.ntmps39 rfl rfl rfl ?_
 intro E Q hP hN hro hret
 obtain ⟨P', nt', w0, F0, p0, S0, β0, ro0⟩ := E
 simp only at hP hN
 subst hP hN
 dsimp only [argT]
 unfold F39 at h
 refine Zl <| Zd <| Z2 I (Z2s (v := (Zo a0)) (cs := (Zo a0).cells) I I I I I) I <| Z2 I (Zq (v := (.sl 3 [] false)) I I) I <| Zi <| Zj <| Zl <| Zd ?_
 refine Z2 I (Zq (v := (.sl 3 [] true)) I I) I <| Zi <| Zj <| Zl <| Zl <| Zd <| Z2 I (Zq (v := (.int .i64 0)) I I) I <| Zi ?_
 refine Zj <| AWp.ghost (st' := ⟨[(1, (.ptr 1 0)), (3, (.vs 3)), (4, (.int .i64 0))], [(1, (.box (Zo a0).cells)), (3, (.vec 3 (List.map Zb ([] : List Zt))))]⟩) (fun a w h => (Z1d ⟨[(1, (.ptr 1 0)), (3, (.vs 3)), (4, (.int .i64 0))], [(1, (.box (Zo a0).cells)), (3, (.vec 3 (List.map Zb ([] : List Zt))))]⟩ (Z4d (k := 3) (m := 3) (sz := 3) I I a w (Z1d ⟨[(3, (.sl 3 [] true)), (1, (.ptr 1 0)), (4, (.int .i64 0))], [(1, (.box (Zo a0).cells))]⟩ h ⟨rfl, rfl, rfl, trivial⟩ ⟨rfl, trivial⟩)) ⟨rfl, rfl, rfl, trivial⟩ ⟨rfl, rfl, trivial⟩)) <| AWp.weaken (st' := ⟨[(1, (.ptr 1 0)), (3, (.vs 3)), (4, (.int .i64 0))], [(1, (.box (Zo a0).cells)), (3, (.vec 3 (List.map Zb [])))]⟩) ⟨rfl, rfl, rfl, trivial⟩ ⟨rfl, rfl, trivial⟩ ?_
 refine Z1l (V := Int × (List Zt)) (X := (List Zt)) (lp := fun k v => Z6n K a0 (Za1 K) k v.1 v.2 = some r) (sh := fun v => ⟨[(1, (.ptr 1 0)), (3, (.vs 3)), (4, (.int .i64 v.1))], [(1, (.box (Zo a0).cells)), (3, (.vec 3 (List.map Zb v.2)))]⟩) (x := fun v => Za1 K v = some r) (shx := fun v => ⟨[(3, (.vs 3))], [(3, (.vec 3 (List.map Zb v)))]⟩) (k := K) (v := (0, [])) h ?_ ?_
 ·intro v h
  revert h
  revert v
  intro v4 h
  try dsimp only at h ⊢
  unfold Za1 at h
  refine Zj <| Zl <| Zd <| Z2 I (Zn (v := (.vs 3)) I I) I <| Z2 I (Zq (v := (.vs 3)) I I) I <| Zi <| Zj <| Z1g ?_
  refine At.ghost (st' := ⟨[(2, (.vs 2))], [(2, (.vec 3 (List.map Zb v4)))]⟩) (fun a w h => (Z1d ⟨[(2, (.vs 2))], [(2, (.vec 3 (List.map Zb v4)))]⟩ (Z48 (a := 3) (b := 2) I I a w (Z1d ⟨[(2, (.vs 3))], [(3, (.vec 3 (List.map Zb v4)))]⟩ h ⟨rfl, trivial⟩ ⟨rfl, trivial⟩)) ⟨rfl, trivial⟩ ⟨rfl, trivial⟩)) ?_
  have h := Option.some.inj h
  subst h
  refine (hret _ ?_).1
  exact ⟨[(.vs 2)], ⟨rfl, trivial⟩, rfl, ⟨rfl, trivial⟩⟩
 ·intro N k3 v h IH3 J3
  obtain ⟨v1, v2⟩ := v
  try dsimp only at h IH3 J3 ⊢
  cases k3 with
  | zero => cases h
  | succ k3 =>
   rw [Z6n] at h
   refine Zl <| Zl <| Zd <| Z2 I (Zn (v := (.int .i64 v1)) I I) I <| Z2 I (Zu (m := 1) (o := 0) I f27_0 I I) I <| Z2 I (Zz (cs := (Zo a0).cells) (v := (.sl 3 (a0.Trees.map Zw) false)) I o22 I I I) I <| Z2 I (Z23 (l := a0.Trees) (enc := Zw) I s22 I) I <| Z2 I (Z1y (k := .i64) (a := v1) (b := (a0.Trees.length : Int)) (c := (decide (v1 < (a0.Trees.length : Int)))) I I I I) I ?_
   refine Zi <| Zj ?_
   have hif := Z21 h
   refine Z18 I (fun hc => ?_) (fun hc => ?_)
   ·have h := hif.1 hc
    refine Z1b <| Zj <| Zl ?_
    refine AWp.blockJoin (V := (List Zt)) (lp := fun v => Zdk K (Z6n K a0 (Za1 K) k3) v1 v = some r) (sh := fun v => ⟨[(1, (.ptr 1 0)), (3, (.vs 3)), (4, (.int .i64 v1))], [(1, (.box (Zo a0).cells)), (3, (.vec 3 (List.map Zb v)))]⟩) ?_ ?_
    ·intro v h
     revert h
     revert v
     intro v8 h
     try dsimp only at h ⊢
     unfold Zdk at h
     refine Zj <| Zd <| Z2 I (Zn (v := (.int .i64 v1)) I I) I <| Z2 I (Z1m (k := .i64) (a := v1) (b := 1) (c := (IntKind.i64.wrap (v1 + 1))) I I I I) I <| Z2 I (Zq (v := (.int .i64 (IntKind.i64.wrap (v1 + 1)))) I I) I <| Zi ?_
     exact Z11 (st' := ⟨[(1, (.ptr 1 0)), (3, (.vs 3)), (4, (.int .i64 (IntKind.i64.wrap (v1 + 1))))], [(1, (.box (Zo a0).cells)), (3, (.vec 3 (List.map Zb v8)))]⟩) ⟨rfl, rfl, rfl, trivial⟩ ⟨rfl, rfl, trivial⟩ (IH3 _ ((IntKind.i64.wrap (v1 + 1)), v8) (Nat.lt_succ_self _) h)
    ·intro J9
     refine Zl <| Zl <| Zd <| Z2 I (Zu (m := 1) (o := 0) I f27_0 I I) I <| Z2 I (Zz (cs := (Zo a0).cells) (v := (.sl 3 (a0.Trees.map Zw) false)) I o22 I I I) I <| Z2 I (Zn (v := (.int .i64 v1)) I I) I ?_
     have ⟨hg10, h⟩ := Z14 h
     refine Z2 I (Z1s (k := .i64) (l := a0.Trees) (enc := Zw) (z := Z7) (n := v1) (cs := (Zw (a0.Trees.getD v1.toNat Z7)).cells) (full := false) I s22 I I hg10 I) I <| Z2 I (Z2d (cs := (Zw (a0.Trees.getD v1.toNat Z7)).cells) (ds := [(.sl 11 ((a0.Trees.getD v1.toNat Z7).Calls.map Zp) false)]) I Z6w I I I) I <| Z2 I (Z24 (cs := [(.sl 11 ((a0.Trees.getD v1.toNat Z7).Calls.map Zp) false)]) (v := (.sl 11 ((a0.Trees.getD v1.toNat Z7).Calls.map Zp) false)) I o103 I I) I <| Z2 I (Z23 (l := (a0.Trees.getD v1.toNat Z7).Calls) (enc := Zp) I s103 I) I <| Z2 I (Z1y (k := .i64) (a := ((a0.Trees.getD v1.toNat Z7).Calls.length : Int)) (b := 0) (c := (((a0.Trees.getD v1.toNat Z7).Calls.length : Int) == 0)) I I I I) I <| Zi <| Zj ?_
     have hif := Z21 h
     refine Z18 I (fun hc => ?_) (fun hc => ?_)
     ·have h := hif.1 hc
      refine AWp.exit <| At.thru <| At.out ?_
      exact Z11 (st' := ⟨[(1, (.ptr 1 0)), (3, (.vs 3)), (4, (.int .i64 v1))], [(1, (.box (Zo a0).cells)), (3, (.vec 3 (List.map Zb v2)))]⟩) ⟨rfl, rfl, rfl, trivial⟩ ⟨rfl, rfl, trivial⟩ (J9 v2 h)
     ·have h := hif.2 hc
      refine Z1b <| Zj <| Zl <| Z1u mixed <| Z8 0 I (Z1k (cs := (Zo a0).cells) (vs := (Zo a0).cells) I a27 I I I I) <| Z8 1 I (Zn (v := (.int .i64 v1)) I I) ?_
      have ⟨v12, hv12, h⟩ := Z1c h
      refine Z8 2 I (Z1e (ar := [(Zo a0), (.int .i64 v1)]) (caps := []) Tryz.call82 (F82_ok K a0 v1 v12 hv12) I I ⟨rfl, rfl, trivial⟩ I) <| Z8 3 I (Z1k (cs := (Zo a0).cells) (vs := (Zo a0).cells) I a27 I I I I) <| Z8 4 I (Zn (v := (.int .i64 v1)) I I) ?_
      have ⟨v14, hv14, h⟩ := Z1c h
      refine Z8 5 I (Z1e (ar := [(Zo a0), (.int .i64 v1), (.bool false)]) (caps := []) Tryz.call83 (F83_ok K a0 v1 false v14 hv14) I I ⟨rfl, rfl, rfl, trivial⟩ I) <| Z8 6 I (Z29 (vs := [(0, (.int .i64 v12)), (1, (.int .i64 1)), (2, (.sl 14 (v14.map Z5) false))]) (cs := [(.int .i64 v12), (.int .i64 1), (.sl 14 (v14.map Z5) false)]) I st39 ⟨rfl, rfl, rfl, rfl, rfl, rfl, trivial⟩ I) <| Z8 7 I (Z1x (cs := [(.int .i64 0), (.int .i64 0), (.sl 14 [] false)]) I z39 I I I) <| Z8 8 I (Z1a (cs := [(.int .i64 0), (.int .i64 0), (.sl 14 [] false)]) (vs := [(.int .i64 v12), (.int .i64 1), (.sl 14 (v14.map Z5) false)]) (ds := [(.int .i64 v12), (.int .i64 1), (.sl 14 (v14.map Z5) false)]) (v := (.ag [(.int .i64 v12), (.int .i64 1), (.sl 14 (v14.map Z5) false)])) sz39 I I I I I I I I) <| Z1q (by kernel_rfl) I <| Zj <| Zl <| Zd ?_
      refine Z2 I (Zn (v := (.vs 3)) I I) I <| Z2 I (Z61 (l := v2) (enc := Zb) I u31 I I) I <| Z2 I (Zq (v := (.int .i64 (v2.length : Int))) I I) I <| Zi <| Zj <| Zl <| AWp.weaken (st' := ⟨[(1, (.ptr 1 0)), (3, (.vs 3)), (4, (.int .i64 v1)), (5, (.ptr 5 0)), (6, (.int .i64 (v2.length : Int)))], [(1, (.box (Zo a0).cells)), (3, (.vec 3 (List.map Zb v2))), (5, (.box [(.int .i64 v12), (.int .i64 1), (.sl 14 (v14.map Z5) false)]))]⟩) ⟨rfl, rfl, rfl, rfl, rfl, trivial⟩ ⟨rfl, rfl, rfl, trivial⟩ ?_
      refine Z1l (V := Int) (X := Int) (lp := fun k v => Z7y K v2 v12 (Z94 K v2 v12 v14 (Z6n K a0 (Za1 K) k3) v1) k v = some r) (sh := fun v => ⟨[(1, (.ptr 1 0)), (3, (.vs 3)), (4, (.int .i64 v1)), (5, (.ptr 5 0)), (6, (.int .i64 v))], [(1, (.box (Zo a0).cells)), (3, (.vec 3 (List.map Zb v2))), (5, (.box [(.int .i64 v12), (.int .i64 1), (.sl 14 (v14.map Z5) false)]))]⟩) (x := fun v => Z94 K v2 v12 v14 (Z6n K a0 (Za1 K) k3) v1 v = some r) (shx := fun v => ⟨[(1, (.ptr 1 0)), (3, (.vs 3)), (4, (.int .i64 v1)), (5, (.ptr 5 0)), (6, (.int .i64 v))], [(1, (.box (Zo a0).cells)), (3, (.vec 3 (List.map Zb v2))), (5, (.box [(.int .i64 v12), (.int .i64 1), (.sl 14 (v14.map Z5) false)]))]⟩) (k := K) (v := (v2.length : Int)) h ?_ ?_
      ·intro v h
       revert h
       revert v
       intro v17 h
       try dsimp only at h ⊢
       unfold Z94 at h
       refine Zj <| Z1u mixed <| Z8 0 I (Z1j (vs := []) (enc := Zb) (l := ([] : List Zt)) I el31 I I trivial I Z2j I I I I) <| Z8 1 I (Zn (v := (.vs 3)) I I) <| Z8 2 I (Zn (v := (.int .i64 v17)) I I) ?_
       have ⟨hg20, h⟩ := Z14 h
       have ⟨hg21, h⟩ := Z14 h
       refine Z8 3 I (Z88 (v := (.vs 3)) (n := 3) (off := 0) (len := v2.length) (l := v2) (enc := Zb) (kh := .i64) (hi := v17) I s31 I I (Z2x _ _ _) I hg20 I) ?_
       have ⟨hg22, h⟩ := Z14 h
       have ⟨hg23, h⟩ := Z14 h
       refine Z8 4 I (Z2l (m := 46) (enc := Zb) (l := ([] : List Zt)) (l' := ((v2.drop (0 + (0 : Int).toNat)).take (v17.toNat - (0 : Int).toNat))) (src := (.vsub 3 (0 + (0 : Int).toNat) (v17.toNat - (0 : Int).toNat) false)) (rd := [(3, (.vec 3 (List.map Zb v2)))]) I I el31 I u31 I I I (srcR_vsub hg22) (oneRead I) Z2j hg23) <| Z8 5 I (Z1k (cs := [(.int .i64 v12), (.int .i64 1), (.sl 14 (v14.map Z5) false)]) (vs := [(.int .i64 v12), (.int .i64 1), (.sl 14 (v14.map Z5) false)]) I a39 I I I I) <| Z8 6 I (Z1j (vs := [(.ag [(.int .i64 v12), (.int .i64 1), (.sl 14 (v14.map Z5) false)])]) (enc := Zb) (l := [(⟨v12, 1, v14⟩ : Zt)]) I el31 I I ⟨rfl, trivial⟩ I Z2j I I I I) ?_
       have ⟨hg24, h⟩ := Z14 h
       refine Z8 7 I (Z2l (m := 46) (enc := Zb) (l := ((v2.drop (0 + (0 : Int).toNat)).take (v17.toNat - (0 : Int).toNat))) (l' := [(⟨v12, 1, v14⟩ : Zt)]) (src := (.vs 52)) (rd := [(52, (.vec 3 (List.map Zb [(⟨v12, 1, v14⟩ : Zt)])))]) I I el31 I u31 I I I I (oneRead I) Z2j hg24) <| Z8 8 I (Zn (v := (.vs 3)) I I) <| Z8 9 I (Zn (v := (.int .i64 v17)) I I) ?_
       have ⟨hg25, h⟩ := Z14 h
       have ⟨hg26, h⟩ := Z14 h
       refine Z8 10 I (Z7z (v := (.vs 3)) (n := 3) (off := 0) (len := v2.length) (l := v2) (enc := Zb) (kl := .i64) (lo := v17) I s31 I I (Z2x _ _ _) I hg25 I) ?_
       have ⟨hg27, h⟩ := Z14 h
       have ⟨hg28, h⟩ := Z14 h
       refine Z8 11 I (Z2l (m := 46) (enc := Zb) (l := (((v2.drop (0 + (0 : Int).toNat)).take (v17.toNat - (0 : Int).toNat)) ++ [(⟨v12, 1, v14⟩ : Zt)])) (l' := ((v2.drop (0 + v17.toNat)).take ((v2.length : Int).toNat - v17.toNat))) (src := (.vsub 3 (0 + v17.toNat) ((v2.length : Int).toNat - v17.toNat) false)) (rd := [(3, (.vec 3 (List.map Zb v2)))]) I I el31 I u31 I I I (srcR_vsub hg27) (oneRead I) Z2j hg28) <| Z8 12 I (Zq (v := (.vs 46)) I I) <| Z1q (by kernel_rfl) I <| At.end <| At.ghost (st' := ⟨[(1, (.ptr 1 0)), (3, (.vs 3)), (4, (.int .i64 v1))], [(1, (.box (Zo a0).cells)), (3, (.vec 3 (List.map Zb ((((v2.drop (0 + (0 : Int).toNat)).take (v17.toNat - (0 : Int).toNat)) ++ [(⟨v12, 1, v14⟩ : Zt)]) ++ ((v2.drop (0 + v17.toNat)).take ((v2.length : Int).toNat - v17.toNat))))))]⟩) (fun a w h => (Z1d ⟨[(1, (.ptr 1 0)), (3, (.vs 3)), (4, (.int .i64 v1))], [(1, (.box (Zo a0).cells)), (3, (.vec 3 (List.map Zb ((((v2.drop (0 + (0 : Int).toNat)).take (v17.toNat - (0 : Int).toNat)) ++ [(⟨v12, 1, v14⟩ : Zt)]) ++ ((v2.drop (0 + v17.toNat)).take ((v2.length : Int).toNat - v17.toNat))))))]⟩ (Z48 (a := 46) (b := 3) I I a w (Z1d ⟨[(1, (.ptr 1 0)), (3, (.vs 46)), (4, (.int .i64 v1))], [(1, (.box (Zo a0).cells)), (46, (.vec 3 (List.map Zb ((((v2.drop (0 + (0 : Int).toNat)).take (v17.toNat - (0 : Int).toNat)) ++ [(⟨v12, 1, v14⟩ : Zt)]) ++ ((v2.drop (0 + v17.toNat)).take ((v2.length : Int).toNat - v17.toNat))))))]⟩ h ⟨rfl, rfl, rfl, trivial⟩ ⟨rfl, rfl, trivial⟩)) ⟨rfl, rfl, rfl, trivial⟩ ⟨rfl, rfl, trivial⟩)) ?_
       exact Z11 (st' := ⟨[(1, (.ptr 1 0)), (3, (.vs 3)), (4, (.int .i64 v1))], [(1, (.box (Zo a0).cells)), (3, (.vec 3 (List.map Zb ((((v2.drop (0 + (0 : Int).toNat)).take (v17.toNat - (0 : Int).toNat)) ++ [(⟨v12, 1, v14⟩ : Zt)]) ++ ((v2.drop (0 + v17.toNat)).take ((v2.length : Int).toNat - v17.toNat))))))]⟩) ⟨rfl, rfl, rfl, trivial⟩ ⟨rfl, rfl, trivial⟩ (J9 ((((v2.drop (0 + (0 : Int).toNat)).take (v17.toNat - (0 : Int).toNat)) ++ [(⟨v12, 1, v14⟩ : Zt)]) ++ ((v2.drop (0 + v17.toNat)).take ((v2.length : Int).toNat - v17.toNat))) h)
      ·intro N k16 v h IH16 J16
       revert h
       revert v
       intro v15 h
       try dsimp only at h IH16 J16 ⊢
       cases k16 with
       | zero => cases h
       | succ k16 =>
        rw [Z7y] at h
        refine Zl <| Zl <| Z1u mixed <| Z8 0 I (Zn (v := (.int .i64 v15)) I I) <| Z8 1 I (Z1y (k := .i64) (a := v15) (b := 0) (c := (decide (v15 > 0))) I I I I) <| Z8 2 I (Zn (v := (.bool (decide (v15 > 0)))) I I) ?_
        have hif := Z21 h
        refine AOpsD.split (fun hc => ?_) (fun hc => ?_)
        ·have h := hif.1 hc
         refine Zx 3 I I I I (Zn (v := (.vs 3)) I I) <| Zx 4 I I I I (Zn (v := (.int .i64 v15)) I I) <| Zx 5 I I I I (Z1m (k := .i64) (a := v15) (b := 1) (c := (IntKind.i64.wrap (v15 - 1))) I I I I) ?_
         have ⟨hg30, h⟩ := Z14 h
         refine Zx 6 I I I I (Z2v (k := .i64) (v := (.vs 3)) (n := 3) (off := 0) (len := v2.length) (es := (List.map Zb v2)) (j := (IntKind.i64.wrap (v15 - 1))) (m := (IntKind.i64.wrap (v15 - 1)).toNat) I s31 I I (Z2x _ _ _) I hg30 (Nat.zero_add _)) <| Zx 7 I I I I (Z8y I f39_0 I I) ?_
         have ⟨hg31, h⟩ := Z14 h
         refine Zx 8 I I I I (Z53 (l := v2) (enc := Zb) (z := Z9) (v := (.int .i64 (v2.getD (IntKind.i64.wrap (v15 - 1)).toNat Z9).Id)) I o3 I I hg31 I) <| Zx 9 I I I I (Zu (m := 5) (o := 0) I f39_0 I I) <| Zx 10 I I I I (Zz (cs := [(.int .i64 v12), (.int .i64 1), (.sl 14 (v14.map Z5) false)]) (v := (.int .i64 v12)) I o3 I I I) <| Zx 11 I I I I (Z1y (k := .i64) (a := (v2.getD (IntKind.i64.wrap (v15 - 1)).toNat Z9).Id) (b := v12) (c := (decide ((v2.getD (IntKind.i64.wrap (v15 - 1)).toNat Z9).Id > v12))) I I I I) <| Z8 12 I (Z2f (v := (.bool (decide ((v2.getD (IntKind.i64.wrap (v15 - 1)).toNat Z9).Id > v12)))) I I I) <| Z1q (by kernel_rfl) I <| Zj ?_
         have hif := Z21 h
         refine Z18 I (fun hc => ?_) (fun hc => ?_)
         ·have h := hif.1 hc
          refine Z1b <| Zj <| AWp.block <| Zd <| Z2 I (Zn (v := (.int .i64 v15)) I I) I <| Z2 I (Z1m (k := .i64) (a := v15) (b := 1) (c := (IntKind.i64.wrap (v15 - 1))) I I I I) I <| Z2 I (Zq (v := (.int .i64 (IntKind.i64.wrap (v15 - 1)))) I I) I <| Zi ?_
          refine At.end ?_
          exact Z11 (st' := ⟨[(1, (.ptr 1 0)), (3, (.vs 3)), (4, (.int .i64 v1)), (5, (.ptr 5 0)), (6, (.int .i64 (IntKind.i64.wrap (v15 - 1))))], [(1, (.box (Zo a0).cells)), (3, (.vec 3 (List.map Zb v2))), (5, (.box [(.int .i64 v12), (.int .i64 1), (.sl 14 (v14.map Z5) false)]))]⟩) ⟨rfl, rfl, rfl, rfl, rfl, trivial⟩ ⟨rfl, rfl, rfl, trivial⟩ (IH16 _ (IntKind.i64.wrap (v15 - 1)) (Nat.lt_succ_self _) h)
         ·have h := hif.2 hc
          refine AWp.exit <| At.thru ?_
          exact Z11 (st' := ⟨[(1, (.ptr 1 0)), (3, (.vs 3)), (4, (.int .i64 v1)), (5, (.ptr 5 0)), (6, (.int .i64 v15))], [(1, (.box (Zo a0).cells)), (3, (.vec 3 (List.map Zb v2))), (5, (.box [(.int .i64 v12), (.int .i64 1), (.sl 14 (v14.map Z5) false)]))]⟩) ⟨rfl, rfl, rfl, rfl, rfl, trivial⟩ ⟨rfl, rfl, rfl, trivial⟩ (J16 v15 h)
        ·have h := hif.2 hc
         refine Zr 3 I I I I I I I <| Zr 4 I I I I I I I <| Zr 5 I I I I I I I <| Zr 6 I I I I I I I <| Zr 7 I I I I I I I <| Zr 8 I I I I I I I <| Zr 9 I I I I I I I <| Zr 10 I I I I I I I ?_
         refine Zr 11 I I I I I I I <| Z8 12 I (Z20 (v := (.bool false)) I I I) <| Z1q (by kernel_rfl) I <| Zj ?_
         refine Z18 (b := false) I (fun hc => ?_) (fun hc => ?_)
         ·cases hc
         refine AWp.exit <| At.thru ?_
         exact Z11 (st' := ⟨[(1, (.ptr 1 0)), (3, (.vs 3)), (4, (.int .i64 v1)), (5, (.ptr 5 0)), (6, (.int .i64 v15))], [(1, (.box (Zo a0).cells)), (3, (.vec 3 (List.map Zb v2))), (5, (.box [(.int .i64 v12), (.int .i64 1), (.sl 14 (v14.map Z5) false)]))]⟩) ⟨rfl, rfl, rfl, rfl, rfl, trivial⟩ ⟨rfl, rfl, rfl, trivial⟩ (J16 v15 h)
   ·have h := hif.2 hc
    refine AWp.exit <| At.thru ?_
    exact Z11 (st' := ⟨[(3, (.vs 3))], [(3, (.vec 3 (List.map Zb v2)))]⟩) ⟨rfl, trivial⟩ ⟨rfl, trivial⟩ (J3 v2 h)
def Zax (K : Nat) (v6 : (List Zt)) : Option ((List Zt)) :=
 some v6
def Zb9 (K : Nat) (a1 : Z3p) (c8 : (List Zt) → Option ((List Zt))) : Nat → Int → (List Zt) → Option ((List Zt))
 | 0, _, _ => none
 | k5 + 1, v3, v4 =>
  if (decide (v3 < (v4.length : Int))) = true then
   if (0 : Int) ≤ (v3.tmod 3) ∧ (v3.tmod 3) < (3 : Nat) then
    if (0 : Int) ≤ v3 ∧ v3 < (v4.length : Nat) then
     if v3.toNat < v4.length then
      (Zb9 K a1 c8 k5) (IntKind.i64.wrap (v3 + 1)) (v4.set v3.toNat (⟨(v4.getD v3.toNat Z9).Id, (IntKind.i64.wrap (1 + (IntKind.i64.wrap ((([a1.e0, a1.e1, a1.e2] : List Int).getD (v3.tmod 3).toNat 0).tmod 8)))), (v4.getD v3.toNat Z9).Spans⟩ : Zt))
     else none
    else none
   else none
  else
   c8 v4
def F13 (K : Nat) (a0 : Zy) (a1 : Z3p) : Option ((List Zt)) :=
 (F39 K a0).bind fun v2 =>
  Zb9 K a1 (Zax K) K 0 v2
theorem F13_ok (K : Nat) (a0 : Zy) (a1 : Z3p) (r : (List Zt)) (h : F13 K a0 a1 = some r) : ACall P 13 ⟨[(Zo a0), (Z30 a1)], [], .vs 4, [(4, .vec 3 (List.map Zb r))], [4]⟩ := by
 refine Z1v Tryz.func13 Tryz.results13 rfl Tryz.ntmps13 rfl rfl rfl ?_
 intro E Q hP hN hro hret
 obtain ⟨P', nt', w0, F0, p0, S0, β0, ro0⟩ := E
 simp only at hP hN
 subst hP hN
 dsimp only [argT]
 unfold F13 at h
 refine Zl <| Zd <| Z2 I (Z2s (v := (Zo a0)) (cs := (Zo a0).cells) I I I I I) I <| Z2 I (Z2s (v := (Z30 a1)) (cs := (Z30 a1).cells) I I I I I) I <| Z2 I (Zq (v := (.sl 3 [] false)) I I) I <| Zi <| Zj <| Zl ?_
 refine Zd <| Z2 I (Z1k (cs := (Zo a0).cells) (vs := (Zo a0).cells) I a27 I I I I) I ?_
 have ⟨v2, hv2, h⟩ := Z1c h
 refine Z2 I (Z7k (sz := 3) (es := (List.map Zb v2)) (ar := [(Zo a0)]) (caps := []) Tryz.call39 ((F39_ok K a0 v2 hv2).sw 2 8) I I ⟨rfl, trivial⟩ I) I <| Z2 I (Zq (v := (.vs 8)) I I) I <| Zi <| Zj <| Zl <| Zl <| Zd <| Z2 I (Zq (v := (.int .i64 0)) I I) I ?_
 refine Zi <| Zj <| AWp.ghost (st' := ⟨[(3, (.ip (Z30 a1).cells)), (5, (.vs 5)), (6, (.int .i64 0))], [(5, (.vec 3 (List.map Zb v2)))]⟩) (fun a w h => (Z1d ⟨[(3, (.ip (Z30 a1).cells)), (5, (.vs 5)), (6, (.int .i64 0))], [(5, (.vec 3 (List.map Zb v2)))]⟩ (Z48 (a := 8) (b := 5) I I a w (Z1d ⟨[(3, (.ip (Z30 a1).cells)), (5, (.vs 8)), (6, (.int .i64 0))], [(8, (.vec 3 (List.map Zb v2)))]⟩ (Z1d ⟨[(3, (.ip (Z30 a1).cells)), (5, (.vs 8)), (6, (.int .i64 0))], [(8, (.vec 3 (List.map Zb v2)))]⟩ (Z3m (m := 3) (cs := (Z30 a1).cells) I a w (Z1d ⟨[(3, (.ptr 3 0)), (5, (.vs 8)), (6, (.int .i64 0))], [(3, (.box (Z30 a1).cells)), (8, (.vec 3 (List.map Zb v2)))]⟩ h ⟨rfl, rfl, rfl, trivial⟩ ⟨rfl, rfl, trivial⟩)) ⟨rfl, rfl, rfl, trivial⟩ ⟨rfl, trivial⟩) ⟨rfl, rfl, rfl, trivial⟩ ⟨rfl, trivial⟩)) ⟨rfl, rfl, rfl, trivial⟩ ⟨rfl, trivial⟩)) <| AWp.weaken (st' := ⟨[(3, (.ip (Z30 a1).cells)), (5, (.vs 5)), (6, (.int .i64 0))], [(5, (.vec 3 (List.map Zb v2)))]⟩) ⟨rfl, rfl, rfl, trivial⟩ ⟨rfl, trivial⟩ ?_
 refine Z1l (V := Int × (List Zt)) (X := (List Zt)) (lp := fun k v => Zb9 K a1 (Zax K) k v.1 v.2 = some r) (sh := fun v => ⟨[(3, (.ip (Z30 a1).cells)), (5, (.vs 5)), (6, (.int .i64 v.1))], [(5, (.vec 3 (List.map Zb v.2)))]⟩) (x := fun v => Zax K v = some r) (shx := fun v => ⟨[(5, (.vs 5))], [(5, (.vec 3 (List.map Zb v)))]⟩) (k := K) (v := (0, v2)) h ?_ ?_
 ·intro v h
  revert h
  revert v
  intro v6 h
  try dsimp only at h ⊢
  unfold Zax at h
  refine Zj <| Zl <| Zd <| Z2 I (Zn (v := (.vs 5)) I I) I <| Z2 I (Zq (v := (.vs 5)) I I) I <| Zi <| Zj <| Z1g ?_
  refine At.ghost (st' := ⟨[(4, (.vs 4))], [(4, (.vec 3 (List.map Zb v6)))]⟩) (fun a w h => (Z1d ⟨[(4, (.vs 4))], [(4, (.vec 3 (List.map Zb v6)))]⟩ (Z48 (a := 5) (b := 4) I I a w (Z1d ⟨[(4, (.vs 5))], [(5, (.vec 3 (List.map Zb v6)))]⟩ h ⟨rfl, trivial⟩ ⟨rfl, trivial⟩)) ⟨rfl, trivial⟩ ⟨rfl, trivial⟩)) ?_
  have h := Option.some.inj h
  subst h
  refine (hret _ ?_).1
  exact ⟨[(.vs 4)], ⟨rfl, trivial⟩, rfl, ⟨rfl, trivial⟩⟩
 ·intro N k5 v h IH5 J5
  obtain ⟨v3, v4⟩ := v
  try dsimp only at h IH5 J5 ⊢
  cases k5 with
  | zero => cases h
  | succ k5 =>
   rw [Zb9] at h
   refine Zl <| Zl <| Zd <| Z2 I (Zn (v := (.int .i64 v3)) I I) I <| Z2 I (Zn (v := (.vs 5)) I I) I <| Z2 I (Z61 (l := v4) (enc := Zb) I u31 I I) I <| Z2 I (Z1y (k := .i64) (a := v3) (b := (v4.length : Int)) (c := (decide (v3 < (v4.length : Int)))) I I I I) I <| Zi ?_
   refine Zj ?_
   have hif := Z21 h
   refine Z18 I (fun hc => ?_) (fun hc => ?_)
   ·have h := hif.1 hc
    refine Z1b <| Zj <| Zl <| AWp.block <| Zd <| Z2 I (Zn (v := (.vs 5)) I I) I <| Z2 I (Zn (v := (.int .i64 v3)) I I) I <| Z2 I (Zn (v := (.int .i64 v3)) I I) I ?_
    refine Z2 I (Z39 (k := .i64) (a := v3) (b := 3) (c := (v3.tmod 3)) I I I I (by decide)) I ?_
    have ⟨hg10, h⟩ := Z14 h
    refine Z2 I (Zdp (k := .i64) (j := (v3.tmod 3)) (l := [a1.e0, a1.e1, a1.e2]) (enc := e_u8) (z := 0) (cs := (Z30 a1).cells) (ds := [(.int .u8 (([a1.e0, a1.e1, a1.e2] : List Int).getD (v3.tmod 3).toNat 0))]) I u28 sz5 I I I I els_u8 hg10 I) I <| Z2 I (Z24 (cs := [(.int .u8 (([a1.e0, a1.e1, a1.e2] : List Int).getD (v3.tmod 3).toNat 0))]) (v := (.int .u8 (([a1.e0, a1.e1, a1.e2] : List Int).getD (v3.tmod 3).toNat 0))) I o5 I I) I <| Z2 I (Z39 (k := .u8) (a := (([a1.e0, a1.e1, a1.e2] : List Int).getD (v3.tmod 3).toNat 0)) (b := 8) (c := ((([a1.e0, a1.e1, a1.e2] : List Int).getD (v3.tmod 3).toNat 0).tmod 8)) I I I I (by decide)) I <| Z2 I (Z3c I us5 u3 I) I <| Z2 I (Z1m (k := .i64) (a := 1) (b := (IntKind.i64.wrap ((([a1.e0, a1.e1, a1.e2] : List Int).getD (v3.tmod 3).toNat 0).tmod 8))) (c := (IntKind.i64.wrap (1 + (IntKind.i64.wrap ((([a1.e0, a1.e1, a1.e2] : List Int).getD (v3.tmod 3).toNat 0).tmod 8))))) I I I I) I ?_
    have ⟨hg11, h⟩ := Z14 h
    refine Z2 I (Z2v (k := .i64) (v := (.vs 5)) (n := 5) (off := 0) (len := v4.length) (es := (List.map Zb v4)) (j := v3) (m := v3.toNat) I s31 I I (Z2x _ _ _) I hg11 (Nat.zero_add _)) I <| Z2 I (Z8y I f39_1 I I) I ?_
    have ⟨hg12, h⟩ := Z14 h
    refine Z2 I (Z6x (l := v4) (enc := Zb) (z := Z9) (a := (⟨(v4.getD v3.toNat Z9).Id, (IntKind.i64.wrap (1 + (IntKind.i64.wrap ((([a1.e0, a1.e1, a1.e2] : List Int).getD (v3.tmod 3).toNat 0).tmod 8)))), (v4.getD v3.toNat Z9).Spans⟩ : Zt)) (v := (.int .i64 (IntKind.i64.wrap (1 + (IntKind.i64.wrap ((([a1.e0, a1.e1, a1.e2] : List Int).getD (v3.tmod 3).toNat 0).tmod 8)))))) sz3 I I hg12 I Z2j I I I I) I <| Zi <| At.end <| Zj <| Zd <| Z2 I (Zn (v := (.int .i64 v3)) I I) I <| Z2 I (Z1m (k := .i64) (a := v3) (b := 1) (c := (IntKind.i64.wrap (v3 + 1))) I I I I) I <| Z2 I (Zq (v := (.int .i64 (IntKind.i64.wrap (v3 + 1)))) I I) I ?_
    refine Zi ?_
    exact Z11 (st' := ⟨[(3, (.ip (Z30 a1).cells)), (5, (.vs 5)), (6, (.int .i64 (IntKind.i64.wrap (v3 + 1))))], [(5, (.vec 3 (List.map Zb (v4.set v3.toNat (⟨(v4.getD v3.toNat Z9).Id, (IntKind.i64.wrap (1 + (IntKind.i64.wrap ((([a1.e0, a1.e1, a1.e2] : List Int).getD (v3.tmod 3).toNat 0).tmod 8)))), (v4.getD v3.toNat Z9).Spans⟩ : Zt)))))]⟩) ⟨rfl, rfl, rfl, trivial⟩ ⟨rfl, trivial⟩ (IH5 _ ((IntKind.i64.wrap (v3 + 1)), (v4.set v3.toNat (⟨(v4.getD v3.toNat Z9).Id, (IntKind.i64.wrap (1 + (IntKind.i64.wrap ((([a1.e0, a1.e1, a1.e2] : List Int).getD (v3.tmod 3).toNat 0).tmod 8)))), (v4.getD v3.toNat Z9).Spans⟩ : Zt))) (Nat.lt_succ_self _) h)
   ·have h := hif.2 hc
    refine AWp.exit <| At.thru ?_
    exact Z11 (st' := ⟨[(5, (.vs 5))], [(5, (.vec 3 (List.map Zb v4)))]⟩) ⟨rfl, trivial⟩ ⟨rfl, trivial⟩ (J5 v4 h)
end Go.AM.TopZ
