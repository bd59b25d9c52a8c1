/- What these functions compute, each with its walk: F23, F62, F126, F100, F127, F101, F26, F81, F59, F25. -/
import Derived.Test.YtgikdjgdjogdmaaMsgT
namespace Go.AM.Msg
open Go Go.AM Go.Proofs
set_option maxRecDepth 100000
set_option maxHeartbeats 2000000
def F23_c3 (K : Nat) (a0 : Zp) : Option (Bool) :=
 if (decide ((a0.Trees.length : Int) ≤ 3)) = true then
  some (decide ((a0.Syncs.length : Int) ≤ 6))
 else
  some false
def F23_l2 (K : Nat) (a0 : Zp) (c4 : Option (Bool)) : Nat → Int → Option (Bool)
 | 0, _ => none
 | k2 + 1, v1 =>
  if (decide (v1 < (a0.Trees.length : Int))) = true then
   if (0 : Int) ≤ v1 ∧ v1 < a0.Trees.length then
    if (decide (((a0.Trees.getD v1.toNat Z7).Calls.length : Int) > 8)) = true then
     some false
    else
     (F23_l2 K a0 c4 k2) (IntKind.i64.wrap (v1 + 1))
   else none
  else
   c4
def F23 (K : Nat) (a0 : Zp) : Option (Bool) :=
 F23_l2 K a0 (F23_c3 K a0) K 0
theorem F23_ok (K : Nat) (a0 : Zp) (r : Bool) (h : F23 K a0 = some r) : ACall P 23 ⟨[(Zc a0)], [], (.bool r), [], []⟩ := by
 refine Z1q Try.func23 Try.results23 rfl Try.ntmps23 rfl rfl rfl ?_
 intro E Q hP hN hro hret
 obtain ⟨P', nt', w0, F0, p0, S0, β0, ro0⟩ := E
 simp only at hP hN
 subst hP hN
 dsimp only [argT]
 unfold F23 at h
 refine Zf <| Zb <| Z2 I (st_box (v := (Zc a0)) (cs := (Zc a0).cells) I I I I I) I <| Z2 I (Zi (v := (.bool false)) I I) I <| Zd <| Ze <| Zf <| Zf ?_
 refine Zb <| Z2 I (Zi (v := (.int .i64 0)) I I) I <| Zd <| Ze <| Z1s (st' := ⟨[(1, (.ptr 1 0)), (3, (.int .i64 0))], [(1, (.box (Zc a0).cells))]⟩) ⟨rfl, rfl, trivial⟩ ⟨rfl, trivial⟩ ?_
 refine Z1h (V := Int) (X := Unit) (lp := fun k v => F23_l2 K a0 (F23_c3 K a0) k v = some r) (sh := fun v => ⟨[(1, (.ptr 1 0)), (3, (.int .i64 v))], [(1, (.box (Zc a0).cells))]⟩) (x := fun v => F23_c3 K a0 = some r) (shx := fun v => ⟨[(1, (.ptr 1 0))], [(1, (.box (Zc a0).cells))]⟩) (k := K) (v := 0) h ?_ ?_
 ·intro v h
  try dsimp only at h ⊢
  unfold F23_c3 at h
  refine Ze <| Zf <| Zb <| Z2 I (Zr (m := 1) (o := 0) I f46_0 I I) I <| Z2 I (Zz (cs := (Zc a0).cells) (v := (.sl 3 (a0.Trees.map Zq) false)) I o41 I I I) I <| Z2 I (stx_len (l := a0.Trees) (enc := Zq) I s41 I) I <| Z2 I (Z1k (k := .i64) (a := (a0.Trees.length : Int)) (b := 3) (c := (decide ((a0.Trees.length : Int) ≤ 3))) I I I I) I <| Z2 I (Zh (v := (.bool (decide ((a0.Trees.length : Int) ≤ 3)))) I I) I ?_
  have hif := Z1u h
  refine AOps.split (fun hc => ?_) (fun hc => ?_)
  ·have h := hif.1 hc
   refine Z11 I I I I (Zr (m := 1) (o := 0) I f46_2 I I) I <| Z11 I I I I (Zz (cs := (Zc a0).cells) (v := (.sl 5 (a0.Syncs.map Z1j) false)) I o44 I I I) I <| Z11 I I I I (stx_len (l := a0.Syncs) (enc := Z1j) I s44 I) I <| Z11 I I I I (Z1k (k := .i64) (a := (a0.Syncs.length : Int)) (b := 6) (c := (decide ((a0.Syncs.length : Int) ≤ 6))) I I I I) I <| Z2 I (st_pickT (v := (.bool (decide ((a0.Syncs.length : Int) ≤ 6)))) I I I) I <| Z2 I (Zi (v := (.bool (decide ((a0.Syncs.length : Int) ≤ 6)))) I I) I <| Zd <| Ze ?_
   refine Z1d ?_
   have h := Option.some.inj h
   subst h
   refine (hret _ ?_).1
   exact ⟨[(.bool (decide ((a0.Syncs.length : Int) ≤ 6)))], ⟨rfl, trivial⟩, rfl, trivial⟩
  ·have h := hif.2 hc
   refine Zt I I I I I I I <| Zt I I I I I I I <| Zt I I I I I I I <| Zt I I I I I I I <| Z2 I (Z1r (v := (.bool false)) I I I) I <| Z2 I (Zi (v := (.bool false)) I I) I <| Zd <| Ze ?_
   refine Z1d ?_
   have h := Option.some.inj h
   subst h
   refine (hret _ ?_).1
   exact ⟨[(.bool false)], ⟨rfl, trivial⟩, rfl, trivial⟩
 ·intro N k2 v h IH2 J2
  revert h
  revert v
  intro v1 h
  try dsimp only at h IH2 J2 ⊢
  cases k2 with
  | zero => cases h
  | succ k2 =>
   rw [F23_l2] at h
   refine Zf <| Zf <| Zb <| Z2 I (Zh (v := (.int .i64 v1)) I I) I <| Z2 I (Zr (m := 1) (o := 0) I f46_0 I I) I <| Z2 I (Zz (cs := (Zc a0).cells) (v := (.sl 3 (a0.Trees.map Zq) false)) I o41 I I I) I <| Z2 I (stx_len (l := a0.Trees) (enc := Zq) I s41 I) I <| Z2 I (Z1k (k := .i64) (a := v1) (b := (a0.Trees.length : Int)) (c := (decide (v1 < (a0.Trees.length : Int)))) I I I I) I ?_
   refine Zd <| Ze ?_
   have hif := Z1u h
   refine Z12 I (fun hc => ?_) (fun hc => ?_)
   ·have h := hif.1 hc
    refine Z14 <| Ze <| Zf <| AWp.block <| Zf <| Zb <| Z2 I (Zr (m := 1) (o := 0) I f46_0 I I) I <| Z2 I (Zz (cs := (Zc a0).cells) (v := (.sl 3 (a0.Trees.map Zq) false)) I o41 I I I) I ?_
    refine Z2 I (Zh (v := (.int .i64 v1)) I I) I ?_
    have ⟨hg6, h⟩ := Zu h
    refine Z2 I (Z1p (k := .i64) (l := a0.Trees) (enc := Zq) (z := Z7) (n := v1) (cs := (Zq (a0.Trees.getD v1.toNat Z7)).cells) (full := false) I s41 I I hg6 I) I <| Z2 I (st_fieldI (cs := (Zq (a0.Trees.getD v1.toNat Z7)).cells) (ds := [(.sl 11 ((a0.Trees.getD v1.toNat Z7).Calls.map Zk) false)]) I f102_2 I I I) I <| Z2 I (st_loadI (cs := [(.sl 11 ((a0.Trees.getD v1.toNat Z7).Calls.map Zk) false)]) (v := (.sl 11 ((a0.Trees.getD v1.toNat Z7).Calls.map Zk) false)) I o100 I I) I <| Z2 I (stx_len (l := (a0.Trees.getD v1.toNat Z7).Calls) (enc := Zk) I s100 I) I <| Z2 I (Z1k (k := .i64) (a := ((a0.Trees.getD v1.toNat Z7).Calls.length : Int)) (b := 8) (c := (decide (((a0.Trees.getD v1.toNat Z7).Calls.length : Int) > 8))) I I I I) I <| Zd <| Ze ?_
    have hif := Z1u h
    refine Z12 I (fun hc => ?_) (fun hc => ?_)
    ·have h := hif.1 hc
     refine Zf <| Zb <| Z2 I (Zi (v := (.bool false)) I I) I <| Zd <| Ze <| Z1d <| At.overR <| Z1i ?_
     refine Z1i (At.overR ?_)
     refine Z1i ?_
     have h := Option.some.inj h
     subst h
     refine (hret _ ?_).1
     exact ⟨[(.bool false)], ⟨rfl, trivial⟩, rfl, trivial⟩
    ·have h := hif.2 hc
     refine Z14 <| At.end <| Ze <| Zb <| Z2 I (Zh (v := (.int .i64 v1)) I I) I <| Z2 I (Z1a (k := .i64) (a := v1) (b := 1) (c := (IntKind.i64.wrap (v1 + 1))) I I I I) I <| Z2 I (Zi (v := (.int .i64 (IntKind.i64.wrap (v1 + 1)))) I I) I <| Zd ?_
     exact Zw (st' := ⟨[(1, (.ptr 1 0)), (3, (.int .i64 (IntKind.i64.wrap (v1 + 1))))], [(1, (.box (Zc a0).cells))]⟩) ⟨rfl, rfl, trivial⟩ ⟨rfl, trivial⟩ (IH2 _ (IntKind.i64.wrap (v1 + 1)) (Nat.lt_succ_self _) h)
   ·have h := hif.2 hc
    refine AWp.exit <| At.thru ?_
    exact Zw (st' := ⟨[(1, (.ptr 1 0))], [(1, (.box (Zc a0).cells))]⟩) ⟨rfl, trivial⟩ ⟨rfl, trivial⟩ (J2 () h)
def F62 (K : Nat) (a0 : Zp) (a1 : Int) : Option (Int) :=
 if (0 : Int) ≤ a1 ∧ a1 < a0.Trees.length then
  if (0 : Int) ≤ 20 then
   some (IntKind.i64.wrap ((IntKind.i64.wrap ((IntKind.i64.wrap ((IntKind.i64.wrap ((a0.Trees.getD a1.toNat Z7).Slot.tmod 64)) * 2 ^ (min (20 : Int).toNat IntKind.i64.bits))) + 1)) + a1))
  else none
 else none
theorem F62_ok (K : Nat) (a0 : Zp) (a1 : Int) (r : Int) (h : F62 K a0 a1 = some r) : ACall P 62 ⟨[(Zc a0), (.int .i64 a1)], [], (.int .i64 r), [], []⟩ := by
 refine Z1q Try.func62 Try.results62 rfl Try.ntmps62 rfl rfl rfl ?_
 intro E Q hP hN hro hret
 obtain ⟨P', nt', w0, F0, p0, S0, β0, ro0⟩ := E
 simp only at hP hN
 subst hP hN
 dsimp only [argT]
 unfold F62 at h
 refine Zf <| Zb <| Z2 I (st_box (v := (Zc a0)) (cs := (Zc a0).cells) I I I I I) I <| Z2 I (Zi (v := (.int .i64 0)) I I) I <| Zd <| Ze <| Zf <| Zb ?_
 refine Z2 I (Zr (m := 2) (o := 0) I f46_0 I I) I <| Z2 I (Zz (cs := (Zc a0).cells) (v := (.sl 3 (a0.Trees.map Zq) false)) I o41 I I I) I <| Z2 I (Zh (v := (.int .i64 a1)) I I) I ?_
 have ⟨hg1, h⟩ := Zu h
 refine Z2 I (Z1p (k := .i64) (l := a0.Trees) (enc := Zq) (z := Z7) (n := a1) (cs := (Zq (a0.Trees.getD a1.toNat Z7)).cells) (full := false) I s41 I I hg1 I) I <| Z2 I (st_fieldI (cs := (Zq (a0.Trees.getD a1.toNat Z7)).cells) (ds := (Zq (a0.Trees.getD a1.toNat Z7)).cells) I f102_0 I I I) I <| Z2 I (st_loadI (cs := (Zq (a0.Trees.getD a1.toNat Z7)).cells) (v := (.int .u8 (a0.Trees.getD a1.toNat Z7).Slot)) I o5 I I) I <| Z2 I (st_div (k := .u8) (a := (a0.Trees.getD a1.toNat Z7).Slot) (b := 64) (c := ((a0.Trees.getD a1.toNat Z7).Slot.tmod 64)) I I I I (by decide)) I <| Z2 I (st_conv I us5 u3 I) I ?_
 have ⟨hg2, h⟩ := Zu h
 refine Z2 I (st_shift (k := .i64) (j := .u64) (a := (IntKind.i64.wrap ((a0.Trees.getD a1.toNat Z7).Slot.tmod 64))) (b := 20) (c := (IntKind.i64.wrap ((IntKind.i64.wrap ((a0.Trees.getD a1.toNat Z7).Slot.tmod 64)) * 2 ^ (min (20 : Int).toNat IntKind.i64.bits)))) I I I I hg2) I <| Z2 I (Z1a (k := .i64) (a := (IntKind.i64.wrap ((IntKind.i64.wrap ((a0.Trees.getD a1.toNat Z7).Slot.tmod 64)) * 2 ^ (min (20 : Int).toNat IntKind.i64.bits)))) (b := 1) (c := (IntKind.i64.wrap ((IntKind.i64.wrap ((IntKind.i64.wrap ((a0.Trees.getD a1.toNat Z7).Slot.tmod 64)) * 2 ^ (min (20 : Int).toNat IntKind.i64.bits))) + 1))) I I I I) I <| Z2 I (Zh (v := (.int .i64 a1)) I I) I <| Z2 I (Z1a (k := .i64) (a := (IntKind.i64.wrap ((IntKind.i64.wrap ((IntKind.i64.wrap ((a0.Trees.getD a1.toNat Z7).Slot.tmod 64)) * 2 ^ (min (20 : Int).toNat IntKind.i64.bits))) + 1))) (b := a1) (c := (IntKind.i64.wrap ((IntKind.i64.wrap ((IntKind.i64.wrap ((IntKind.i64.wrap ((a0.Trees.getD a1.toNat Z7).Slot.tmod 64)) * 2 ^ (min (20 : Int).toNat IntKind.i64.bits))) + 1)) + a1))) I I I I) I <| Z2 I (Zi (v := (.int .i64 (IntKind.i64.wrap ((IntKind.i64.wrap ((IntKind.i64.wrap ((IntKind.i64.wrap ((a0.Trees.getD a1.toNat Z7).Slot.tmod 64)) * 2 ^ (min (20 : Int).toNat IntKind.i64.bits))) + 1)) + a1)))) I I) I <| Zd <| Ze <| Z1d ?_
 have h := Option.some.inj h
 subst h
 refine (hret _ ?_).1
 exact ⟨[(.int .i64 (IntKind.i64.wrap ((IntKind.i64.wrap ((IntKind.i64.wrap ((IntKind.i64.wrap ((a0.Trees.getD a1.toNat Z7).Slot.tmod 64)) * 2 ^ (min (20 : Int).toNat IntKind.i64.bits))) + 1)) + a1)))], ⟨rfl, trivial⟩, rfl, trivial⟩
def F126 (K : Nat) (a0 : Z1t) : Option (Int) :=
 some (IntKind.i64.wrap (1 + (IntKind.i64.wrap (a0.Kind.tmod 5))))
theorem F126_ok (K : Nat) (a0 : Z1t) (r : Int) (h : F126 K a0 = some r) : ACall P 126 ⟨[(Zk a0)], [], (.int .i64 r), [], []⟩ := by
 refine Z1q Try.func126 Try.results126 rfl Try.ntmps126 rfl rfl rfl ?_
 intro E Q hP hN hro hret
 obtain ⟨P', nt', w0, F0, p0, S0, β0, ro0⟩ := E
 simp only at hP hN
 subst hP hN
 dsimp only [argT]
 unfold F126 at h
 refine Zf <| Zb <| Z2 I (st_box (v := (Zk a0)) (cs := (Zk a0).cells) I I I I I) I <| Z2 I (Zi (v := (.int .i64 0)) I I) I <| Zd <| Ze <| Zf <| Zb ?_
 refine Z2 I (Zr (m := 1) (o := 0) I f113_2 I I) I <| Z2 I (Zz (cs := (Zk a0).cells) (v := (.int .u8 a0.Kind)) I o5 I I I) I <| Z2 I (st_div (k := .u8) (a := a0.Kind) (b := 5) (c := (a0.Kind.tmod 5)) I I I I (by decide)) I <| Z2 I (st_conv I us5 u3 I) I <| Z2 I (Z1a (k := .i64) (a := 1) (b := (IntKind.i64.wrap (a0.Kind.tmod 5))) (c := (IntKind.i64.wrap (1 + (IntKind.i64.wrap (a0.Kind.tmod 5))))) I I I I) I <| Z2 I (Zi (v := (.int .i64 (IntKind.i64.wrap (1 + (IntKind.i64.wrap (a0.Kind.tmod 5)))))) I I) I <| Zd <| Ze ?_
 refine Z1d ?_
 have h := Option.some.inj h
 subst h
 refine (hret _ ?_).1
 exact ⟨[(.int .i64 (IntKind.i64.wrap (1 + (IntKind.i64.wrap (a0.Kind.tmod 5)))))], ⟨rfl, trivial⟩, rfl, trivial⟩
def F100_c13 (K : Nat) (v5 : (List Int)) (v12 : (List Int)) : Option ((List Int) × (List Int)) :=
 some (v5, v12)
def F100_j21 (K : Nat) (b15 : Int → (List Int) → Option ((List Int) × (List Int))) (v9 : Int) (v20 : (List Int)) : Option ((List Int) × (List Int)) :=
 b15 (IntKind.i64.wrap (v9 - 1)) v20
def F100_j19 (K : Nat) (a0 : Z10) (v9 : Int) (v10 : (List Int)) (b15 : Int → (List Int) → Option ((List Int) × (List Int))) (v18 : Bool) : Option ((List Int) × (List Int)) :=
 if v18 = true then
  if (0 : Int) ≤ ((IntKind.i64.wrap (a0.Calls.getD v9.toNat Z5).Parent).tmod (IntKind.i64.wrap (v9 + 1))) ∧ ((IntKind.i64.wrap (a0.Calls.getD v9.toNat Z5).Parent).tmod (IntKind.i64.wrap (v9 + 1))) < (v10.length : Nat) then
   if ((IntKind.i64.wrap (a0.Calls.getD v9.toNat Z5).Parent).tmod (IntKind.i64.wrap (v9 + 1))).toNat < v10.length then
    if (0 : Int) ≤ v9 ∧ v9 < (v10.length : Nat) then
     if v9.toNat < v10.length then
      if (0 : Int) ≤ ((IntKind.i64.wrap (a0.Calls.getD v9.toNat Z5).Parent).tmod (IntKind.i64.wrap (v9 + 1))) ∧ ((IntKind.i64.wrap (a0.Calls.getD v9.toNat Z5).Parent).tmod (IntKind.i64.wrap (v9 + 1))) < (v10.length : Nat) then
       if ((IntKind.i64.wrap (a0.Calls.getD v9.toNat Z5).Parent).tmod (IntKind.i64.wrap (v9 + 1))).toNat < v10.length then
        F100_j21 K b15 v9 (v10.set ((IntKind.i64.wrap (a0.Calls.getD v9.toNat Z5).Parent).tmod (IntKind.i64.wrap (v9 + 1))).toNat (if (v10.getD v9.toNat 0) > (v10.getD ((IntKind.i64.wrap (a0.Calls.getD v9.toNat Z5).Parent).tmod (IntKind.i64.wrap (v9 + 1))).toNat 0) then (v10.getD v9.toNat 0) else (v10.getD ((IntKind.i64.wrap (a0.Calls.getD v9.toNat Z5).Parent).tmod (IntKind.i64.wrap (v9 + 1))).toNat 0)))
       else none
      else none
     else none
    else none
   else none
  else none
 else
  F100_j21 K b15 v9 v10
def F100_l11 (K : Nat) (a0 : Z10) (c14 : (List Int) → Option ((List Int) × (List Int))) : Nat → Int → (List Int) → Option ((List Int) × (List Int))
 | 0, _, _ => none
 | k11 + 1, v9, v10 =>
  if (decide (v9 > 0)) = true then
   if (0 : Int) ≤ v9 ∧ v9 < a0.Calls.length then
    if (IntKind.i64.wrap (v9 + 1)) ≠ 0 then
     if (decide (((IntKind.i64.wrap (a0.Calls.getD v9.toNat Z5).Parent).tmod (IntKind.i64.wrap (v9 + 1))) < v9)) = true then
      if (0 : Int) ≤ v9 ∧ v9 < a0.Calls.length then
       (F126 K (a0.Calls.getD v9.toNat Z5)).bind fun v30 =>
        if (v30 == 3) = true then
         if (0 : Int) ≤ ((IntKind.i64.wrap (a0.Calls.getD v9.toNat Z5).Parent).tmod (IntKind.i64.wrap (v9 + 1))) ∧ ((IntKind.i64.wrap (a0.Calls.getD v9.toNat Z5).Parent).tmod (IntKind.i64.wrap (v9 + 1))) < a0.Calls.length then
          (F126 K (a0.Calls.getD ((IntKind.i64.wrap (a0.Calls.getD v9.toNat Z5).Parent).tmod (IntKind.i64.wrap (v9 + 1))).toNat Z5)).bind fun v33 =>
           if (v33 == 2) = true then
            if (0 : Int) ≤ ((IntKind.i64.wrap (a0.Calls.getD v9.toNat Z5).Parent).tmod (IntKind.i64.wrap (v9 + 1))) ∧ ((IntKind.i64.wrap (a0.Calls.getD v9.toNat Z5).Parent).tmod (IntKind.i64.wrap (v9 + 1))) < a0.Calls.length then
             F100_j19 K a0 v9 v10 (F100_l11 K a0 c14 k11) (!(a0.Calls.getD ((IntKind.i64.wrap (a0.Calls.getD v9.toNat Z5).Parent).tmod (IntKind.i64.wrap (v9 + 1))).toNat Z5).Fail)
            else none
           else
            F100_j19 K a0 v9 v10 (F100_l11 K a0 c14 k11) false
         else none
        else
         F100_j19 K a0 v9 v10 (F100_l11 K a0 c14 k11) false
      else none
     else
      F100_j19 K a0 v9 v10 (F100_l11 K a0 c14 k11) false
    else none
   else none
  else
   c14 v10
def F100_c7 (K : Nat) (a0 : Z10) (v5 : (List Int)) (v6 : (List Int)) : Option ((List Int) × (List Int)) :=
 F100_l11 K a0 (F100_c13 K v5) K (IntKind.i64.wrap ((a0.Calls.length : Int) - 1)) v6
def F100_j41 (K : Nat) (v2 : (List Int)) (v3 : (List Int)) (a0 : Z10) (v1 : Int) (b35 : Int → (List Int) → (List Int) → Option ((List Int) × (List Int))) (v40 : Int) : Option ((List Int) × (List Int)) :=
 if v2.length + [v40].length ≤ 1073741824 then
  if v3.length + [(IntKind.i64.wrap (v40 + (IntKind.i64.wrap ((a0.Calls.getD v1.toNat Z5).Long.tmod 32))))].length ≤ 1073741824 then
   b35 (IntKind.i64.wrap (v1 + 1)) (v2 ++ [v40]) (v3 ++ [(IntKind.i64.wrap (v40 + (IntKind.i64.wrap ((a0.Calls.getD v1.toNat Z5).Long.tmod 32))))])
  else none
 else none
def F100_j39 (K : Nat) (v1 : Int) (v2 : (List Int)) (v3 : (List Int)) (a0 : Z10) (b35 : Int → (List Int) → (List Int) → Option ((List Int) × (List Int))) (v38 : Int) : Option ((List Int) × (List Int)) :=
 if (decide (v1 > 0)) = true then
  F100_j41 K v2 v3 a0 v1 b35 (IntKind.i64.wrap (v38 + (IntKind.i64.wrap ((a0.Calls.getD v1.toNat Z5).Wait.tmod 32))))
 else
  F100_j41 K v2 v3 a0 v1 b35 v38
def F100_l4 (K : Nat) (a0 : Z10) (c8 : (List Int) → (List Int) → Option ((List Int) × (List Int))) : Nat → Int → (List Int) → (List Int) → Option ((List Int) × (List Int))
 | 0, _, _, _ => none
 | k4 + 1, v1, v2, v3 =>
  if (decide (v1 < (a0.Calls.length : Int))) = true then
   if (0 : Int) ≤ v1 ∧ v1 < a0.Calls.length then
    if (IntKind.i64.wrap (v1 + 1)) ≠ 0 then
     if (decide (((IntKind.i64.wrap (a0.Calls.getD v1.toNat Z5).Parent).tmod (IntKind.i64.wrap (v1 + 1))) < v1)) = true then
      if (0 : Int) ≤ ((IntKind.i64.wrap (a0.Calls.getD v1.toNat Z5).Parent).tmod (IntKind.i64.wrap (v1 + 1))) ∧ ((IntKind.i64.wrap (a0.Calls.getD v1.toNat Z5).Parent).tmod (IntKind.i64.wrap (v1 + 1))) < (v2.length : Nat) then
       if ((IntKind.i64.wrap (a0.Calls.getD v1.toNat Z5).Parent).tmod (IntKind.i64.wrap (v1 + 1))).toNat < v2.length then
        F100_j39 K v1 v2 v3 a0 (F100_l4 K a0 c8 k4) (v2.getD ((IntKind.i64.wrap (a0.Calls.getD v1.toNat Z5).Parent).tmod (IntKind.i64.wrap (v1 + 1))).toNat 0)
       else none
      else none
     else
      F100_j39 K v1 v2 v3 a0 (F100_l4 K a0 c8 k4) (IntKind.i64.wrap (1000 + (IntKind.i64.wrap (a0.Start.tmod 32))))
    else none
   else none
  else
   c8 v2 v3
def F100 (K : Nat) (a0 : Z10) : Option ((List Int) × (List Int)) :=
 F100_l4 K a0 (F100_c7 K a0) K 0 [] []
theorem F100_ok (K : Nat) (a0 : Z10) (r : (List Int) × (List Int)) (h : F100 K a0 = some r) : ACall P 100 ⟨[(Zq a0)], [], (.tup [(.sl 1 (r.1.map Z13) false), (.sl 1 (r.2.map Z13) false)]), [], []⟩ := by
 refine Z1q Try.func100 Try.results100 rfl Try.ntmps100 rfl rfl rfl ?_
 intro E Q hP hN hro hret
 obtain ⟨P', nt', w0, F0, p0, S0, β0, ro0⟩ := E
 simp only at hP hN
 subst hP hN
 dsimp only [argT]
 unfold F100 at h
 refine Zf <| Zb <| Z2 I (st_box (v := (Zq a0)) (cs := (Zq a0).cells) I I I I I) I <| Z2 I (Zi (v := (.sl 1 [] true)) I I) I <| Z2 I (Zi (v := (.sl 1 [] true)) I I) I <| Zd <| Ze <| Zf ?_
 refine Zf <| Zb <| Z2 I (Zi (v := (.int .i64 0)) I I) I <| Zd <| Ze <| AWp.ghost (st' := ⟨[(1, (.ptr 1 0)), (2, (.vs 2)), (3, (.vs 3)), (4, (.int .i64 0))], [(1, (.box (Zq a0).cells)), (2, (.vec 1 (List.map Z13 ([] : List Int)))), (3, (.vec 1 (List.map Z13 ([] : List Int))))]⟩) (fun a w h => (Z19 ⟨[(1, (.ptr 1 0)), (2, (.vs 2)), (3, (.vs 3)), (4, (.int .i64 0))], [(1, (.box (Zq a0).cells)), (2, (.vec 1 (List.map Z13 ([] : List Int)))), (3, (.vec 1 (List.map Z13 ([] : List Int))))]⟩ (ghost_own (k := 3) (m := 3) (sz := 1) I I a w (Z19 ⟨[(3, (.sl 1 [] true)), (1, (.ptr 1 0)), (2, (.vs 2)), (4, (.int .i64 0))], [(1, (.box (Zq a0).cells)), (2, (.vec 1 (List.map Z13 ([] : List Int))))]⟩ (Z19 ⟨[(1, (.ptr 1 0)), (2, (.vs 2)), (3, (.sl 1 [] true)), (4, (.int .i64 0))], [(1, (.box (Zq a0).cells)), (2, (.vec 1 (List.map Z13 ([] : List Int))))]⟩ (ghost_own (k := 2) (m := 2) (sz := 1) I I a w (Z19 ⟨[(2, (.sl 1 [] true)), (1, (.ptr 1 0)), (3, (.sl 1 [] true)), (4, (.int .i64 0))], [(1, (.box (Zq a0).cells))]⟩ h ⟨rfl, rfl, rfl, rfl, trivial⟩ ⟨rfl, trivial⟩)) ⟨rfl, rfl, rfl, rfl, trivial⟩ ⟨rfl, rfl, trivial⟩) ⟨rfl, rfl, rfl, rfl, trivial⟩ ⟨rfl, rfl, trivial⟩)) ⟨rfl, rfl, rfl, rfl, trivial⟩ ⟨rfl, rfl, rfl, trivial⟩)) <| Z1s (st' := ⟨[(1, (.ptr 1 0)), (2, (.vs 2)), (3, (.vs 3)), (4, (.int .i64 0))], [(1, (.box (Zq a0).cells)), (2, (.vec 1 (List.map Z13 []))), (3, (.vec 1 (List.map Z13 [])))]⟩) ⟨rfl, rfl, rfl, rfl, trivial⟩ ⟨rfl, rfl, rfl, trivial⟩ ?_
 refine Z1h (V := Int × (List Int) × (List Int)) (X := (List Int) × (List Int)) (lp := fun k v => F100_l4 K a0 (F100_c7 K a0) k v.1 v.2.1 v.2.2 = some r) (sh := fun v => ⟨[(1, (.ptr 1 0)), (2, (.vs 2)), (3, (.vs 3)), (4, (.int .i64 v.1))], [(1, (.box (Zq a0).cells)), (2, (.vec 1 (List.map Z13 v.2.1))), (3, (.vec 1 (List.map Z13 v.2.2)))]⟩) (x := fun v => F100_c7 K a0 v.1 v.2 = some r) (shx := fun v => ⟨[(1, (.ptr 1 0)), (2, (.vs 2)), (3, (.vs 3))], [(1, (.box (Zq a0).cells)), (2, (.vec 1 (List.map Z13 v.1))), (3, (.vec 1 (List.map Z13 v.2)))]⟩) (k := K) (v := (0, [], [])) h ?_ ?_
 ·intro v h
  obtain ⟨v5, v6⟩ := v
  try dsimp only at h ⊢
  unfold F100_c7 at h
  refine Ze <| Zf <| Zf <| Zb <| Z2 I (Zr (m := 1) (o := 0) I f102_2 I I) I <| Z2 I (Zz (cs := (Zq a0).cells) (v := (.sl 11 (a0.Calls.map Zk) false)) I o100 I I I) I <| Z2 I (stx_len (l := a0.Calls) (enc := Zk) I s100 I) I <| Z2 I (Z1a (k := .i64) (a := (a0.Calls.length : Int)) (b := 1) (c := (IntKind.i64.wrap ((a0.Calls.length : Int) - 1))) I I I I) I ?_
  refine Z2 I (Zi (v := (.int .i64 (IntKind.i64.wrap ((a0.Calls.length : Int) - 1)))) I I) I <| Zd <| Ze <| Z1s (st' := ⟨[(1, (.ptr 1 0)), (2, (.vs 2)), (3, (.vs 3)), (8, (.int .i64 (IntKind.i64.wrap ((a0.Calls.length : Int) - 1))))], [(1, (.box (Zq a0).cells)), (2, (.vec 1 (List.map Z13 v5))), (3, (.vec 1 (List.map Z13 v6)))]⟩) ⟨rfl, rfl, rfl, rfl, trivial⟩ ⟨rfl, rfl, rfl, trivial⟩ ?_
  refine Z1h (V := Int × (List Int)) (X := (List Int)) (lp := fun k v => F100_l11 K a0 (F100_c13 K v5) k v.1 v.2 = some r) (sh := fun v => ⟨[(1, (.ptr 1 0)), (2, (.vs 2)), (3, (.vs 3)), (8, (.int .i64 v.1))], [(1, (.box (Zq a0).cells)), (2, (.vec 1 (List.map Z13 v5))), (3, (.vec 1 (List.map Z13 v.2)))]⟩) (x := fun v => F100_c13 K v5 v = some r) (shx := fun v => ⟨[(2, (.vs 2)), (3, (.vs 3))], [(2, (.vec 1 (List.map Z13 v5))), (3, (.vec 1 (List.map Z13 v)))]⟩) (k := K) (v := ((IntKind.i64.wrap ((a0.Calls.length : Int) - 1)), v6)) h ?_ ?_
  ·intro v h
   revert h
   revert v
   intro v12 h
   try dsimp only at h ⊢
   unfold F100_c13 at h
   refine Ze <| Zf <| Zb <| Z2 I (Zh (v := (.vs 2)) I I) I <| Z2 I (Zh (v := (.vs 3)) I I) I <| Z2 I (Zi (v := (.vs 2)) I I) I <| Z2 I (Zi (v := (.vs 3)) I I) I <| Zd ?_
   refine Ze <| Z1d <| At.ghost (st' := ⟨[(2, (.sl 1 (v5.map Z13) false)), (3, (.sl 1 (v12.map Z13) false))], []⟩) (fun a w h => (Z19 ⟨[(2, (.sl 1 (v5.map Z13) false)), (3, (.sl 1 (v12.map Z13) false))], []⟩ (ghost_freeze (m := 3) (sz := 1) (es := (List.map Z13 v12)) a w (Z19 ⟨[(2, (.sl 1 (v5.map Z13) false)), (3, (.vs 3))], [(3, (.vec 1 (List.map Z13 v12)))]⟩ (Z19 ⟨[(2, (.sl 1 (v5.map Z13) false)), (3, (.vs 3))], [(3, (.vec 1 (List.map Z13 v12)))]⟩ (ghost_freeze (m := 2) (sz := 1) (es := (List.map Z13 v5)) a w (Z19 ⟨[(2, (.vs 2)), (3, (.vs 3))], [(2, (.vec 1 (List.map Z13 v5))), (3, (.vec 1 (List.map Z13 v12)))]⟩ h ⟨rfl, rfl, trivial⟩ ⟨rfl, rfl, trivial⟩)) ⟨rfl, rfl, trivial⟩ ⟨rfl, trivial⟩) ⟨rfl, rfl, trivial⟩ ⟨rfl, trivial⟩)) ⟨rfl, rfl, trivial⟩ trivial)) ?_
   have h := Option.some.inj h
   subst h
   refine (hret _ ?_).1
   exact ⟨[(.sl 1 (v5.map Z13) false), (.sl 1 (v12.map Z13) false)], ⟨rfl, rfl, trivial⟩, rfl, trivial⟩
  ·intro N k11 v h IH11 J11
   obtain ⟨v9, v10⟩ := v
   try dsimp only at h IH11 J11 ⊢
   cases k11 with
   | zero => cases h
   | succ k11 =>
    rw [F100_l11] at h
    refine Zf <| Zf <| Zb <| Z2 I (Zh (v := (.int .i64 v9)) I I) I <| Z2 I (Z1k (k := .i64) (a := v9) (b := 0) (c := (decide (v9 > 0))) I I I I) I <| Zd <| Ze ?_
    have hif := Z1u h
    refine Z12 I (fun hc => ?_) (fun hc => ?_)
    ·have h := hif.1 hc
     refine Z14 <| Ze <| Zf <| AWp.block <| Zf <| Zb <| Z2 I (Zr (m := 1) (o := 0) I f102_2 I I) I <| Z2 I (Zz (cs := (Zq a0).cells) (v := (.sl 11 (a0.Calls.map Zk) false)) I o100 I I I) I ?_
     refine Z2 I (Zh (v := (.int .i64 v9)) I I) I ?_
     have ⟨hg16, h⟩ := Zu h
     refine Z2 I (Z1p (k := .i64) (l := a0.Calls) (enc := Zk) (z := Z5) (n := v9) (cs := (Zk (a0.Calls.getD v9.toNat Z5)).cells) (full := false) I s100 I I hg16 I) I <| Z2 I (st_fieldI (cs := (Zk (a0.Calls.getD v9.toNat Z5)).cells) (ds := (Zk (a0.Calls.getD v9.toNat Z5)).cells) I f113_0 I I I) I <| Z2 I (st_loadI (cs := (Zk (a0.Calls.getD v9.toNat Z5)).cells) (v := (.int .u8 (a0.Calls.getD v9.toNat Z5).Parent)) I o5 I I) I <| Z2 I (st_conv I us5 u3 I) I <| Z2 I (Zh (v := (.int .i64 v9)) I I) I <| Z2 I (Z1a (k := .i64) (a := v9) (b := 1) (c := (IntKind.i64.wrap (v9 + 1))) I I I I) I ?_
     have ⟨hg17, h⟩ := Zu h
     refine Z2 I (st_div (k := .i64) (a := (IntKind.i64.wrap (a0.Calls.getD v9.toNat Z5).Parent)) (b := (IntKind.i64.wrap (v9 + 1))) (c := ((IntKind.i64.wrap (a0.Calls.getD v9.toNat Z5).Parent).tmod (IntKind.i64.wrap (v9 + 1)))) I I I I hg17) I <| Z2 I (Zi (v := (.int .i64 ((IntKind.i64.wrap (a0.Calls.getD v9.toNat Z5).Parent).tmod (IntKind.i64.wrap (v9 + 1))))) I I) I <| Zd <| Ze <| Zf ?_
     refine AWp.join (V := Bool) (lp := fun v => F100_j19 K a0 v9 v10 (F100_l11 K a0 (F100_c13 K v5) k11) v = some r) (sh := fun v => ⟨[(1, (.ptr 1 0)), (2, (.vs 2)), (3, (.vs 3)), (8, (.int .i64 v9)), (9, (.int .i64 ((IntKind.i64.wrap (a0.Calls.getD v9.toNat Z5).Parent).tmod (IntKind.i64.wrap (v9 + 1))))), (108, (.bool v))], [(1, (.box (Zq a0).cells)), (2, (.vec 1 (List.map Z13 v5))), (3, (.vec 1 (List.map Z13 v10)))]⟩) ?_ ?_
     ·intro v h
      revert h
      revert v
      intro v18 h
      try dsimp only at h ⊢
      unfold F100_j19 at h
      refine Ze ?_
      refine AWp.join (V := (List Int)) (lp := fun v => F100_j21 K (F100_l11 K a0 (F100_c13 K v5) k11) v9 v = some r) (sh := fun v => ⟨[(1, (.ptr 1 0)), (2, (.vs 2)), (3, (.vs 3)), (8, (.int .i64 v9))], [(1, (.box (Zq a0).cells)), (2, (.vec 1 (List.map Z13 v5))), (3, (.vec 1 (List.map Z13 v)))]⟩) ?_ ?_
      ·intro v h
       revert h
       revert v
       intro v20 h
       try dsimp only at h ⊢
       unfold F100_j21 at h
       refine At.end <| Ze <| Zb <| Z2 I (Zh (v := (.int .i64 v9)) I I) I <| Z2 I (Z1a (k := .i64) (a := v9) (b := 1) (c := (IntKind.i64.wrap (v9 - 1))) I I I I) I <| Z2 I (Zi (v := (.int .i64 (IntKind.i64.wrap (v9 - 1)))) I I) I <| Zd ?_
       exact Zw (st' := ⟨[(1, (.ptr 1 0)), (2, (.vs 2)), (3, (.vs 3)), (8, (.int .i64 (IntKind.i64.wrap (v9 - 1))))], [(1, (.box (Zq a0).cells)), (2, (.vec 1 (List.map Z13 v5))), (3, (.vec 1 (List.map Z13 v20)))]⟩) ⟨rfl, rfl, rfl, rfl, trivial⟩ ⟨rfl, rfl, rfl, trivial⟩ (IH11 _ ((IntKind.i64.wrap (v9 - 1)), v20) (Nat.lt_succ_self _) h)
      ·intro J21
       have hif := Z1u h
       refine Z12 I (fun hc => ?_) (fun hc => ?_)
       ·have h := hif.1 hc
        refine Z1n mixed <| Z9 0 I (Zh (v := (.vs 3)) I I) <| Z9 1 I (Zh (v := (.int .i64 ((IntKind.i64.wrap (a0.Calls.getD v9.toNat Z5).Parent).tmod (IntKind.i64.wrap (v9 + 1))))) I I) <| Z9 2 I (Zh (v := (.vs 3)) I I) <| Z9 3 I (Zh (v := (.int .i64 ((IntKind.i64.wrap (a0.Calls.getD v9.toNat Z5).Parent).tmod (IntKind.i64.wrap (v9 + 1))))) I I) ?_
        have ⟨hg22, h⟩ := Zu h
        refine Z9 4 I (st_indexV (k := .i64) (v := (.vs 3)) (n := 3) (off := 0) (len := v10.length) (es := (List.map Z13 v10)) (j := ((IntKind.i64.wrap (a0.Calls.getD v9.toNat Z5).Parent).tmod (IntKind.i64.wrap (v9 + 1)))) (m := ((IntKind.i64.wrap (a0.Calls.getD v9.toNat Z5).Parent).tmod (IntKind.i64.wrap (v9 + 1))).toNat) I s87 I I (vecR_map _ _ _) I hg22 (Nat.zero_add _)) ?_
        have ⟨hg23, h⟩ := Zu h
        refine Z9 5 I (st_loadV (l := v10) (enc := Z13) (z := 0) (v := (.int .i64 (v10.getD ((IntKind.i64.wrap (a0.Calls.getD v9.toNat Z5).Parent).tmod (IntKind.i64.wrap (v9 + 1))).toNat 0))) I o3 I I hg23 I) <| Z9 6 I (Zh (v := (.vs 3)) I I) <| Z9 7 I (Zh (v := (.int .i64 v9)) I I) ?_
        have ⟨hg24, h⟩ := Zu h
        refine Z9 8 I (st_indexV (k := .i64) (v := (.vs 3)) (n := 3) (off := 0) (len := v10.length) (es := (List.map Z13 v10)) (j := v9) (m := v9.toNat) I s87 I I (vecR_map _ _ _) I hg24 (Nat.zero_add _)) ?_
        have ⟨hg25, h⟩ := Zu h
        refine Z9 9 I (st_loadV (l := v10) (enc := Z13) (z := 0) (v := (.int .i64 (v10.getD v9.toNat 0))) I o3 I I hg25 I) <| Z9 10 I (st_max (k := .i64) (a := (v10.getD ((IntKind.i64.wrap (a0.Calls.getD v9.toNat Z5).Parent).tmod (IntKind.i64.wrap (v9 + 1))).toNat 0)) (b := (v10.getD v9.toNat 0)) I I I) ?_
        have ⟨hg26, h⟩ := Zu h
        refine Z9 11 I (st_indexV (k := .i64) (v := (.vs 3)) (n := 3) (off := 0) (len := v10.length) (es := (List.map Z13 v10)) (j := ((IntKind.i64.wrap (a0.Calls.getD v9.toNat Z5).Parent).tmod (IntKind.i64.wrap (v9 + 1)))) (m := ((IntKind.i64.wrap (a0.Calls.getD v9.toNat Z5).Parent).tmod (IntKind.i64.wrap (v9 + 1))).toNat) I s87 I I (vecR_map _ _ _) I hg26 (Nat.zero_add _)) ?_
        have ⟨hg27, h⟩ := Zu h
        refine Z9 12 I (st_storeV (l := v10) (enc := Z13) (z := 0) (a := (if (v10.getD v9.toNat 0) > (v10.getD ((IntKind.i64.wrap (a0.Calls.getD v9.toNat Z5).Parent).tmod (IntKind.i64.wrap (v9 + 1))).toNat 0) then (v10.getD v9.toNat 0) else (v10.getD ((IntKind.i64.wrap (a0.Calls.getD v9.toNat Z5).Parent).tmod (IntKind.i64.wrap (v9 + 1))).toNat 0))) (v := (.int .i64 (if (v10.getD v9.toNat 0) > (v10.getD ((IntKind.i64.wrap (a0.Calls.getD v9.toNat Z5).Parent).tmod (IntKind.i64.wrap (v9 + 1))).toNat 0) then (v10.getD v9.toNat 0) else (v10.getD ((IntKind.i64.wrap (a0.Calls.getD v9.toNat Z5).Parent).tmod (IntKind.i64.wrap (v9 + 1))).toNat 0)))) sz3 I I hg27 I els_i64 I I I I) <| Z1l (by kernel_rfl) I ?_
        exact Zw (st' := ⟨[(1, (.ptr 1 0)), (2, (.vs 2)), (3, (.vs 3)), (8, (.int .i64 v9))], [(1, (.box (Zq a0).cells)), (2, (.vec 1 (List.map Z13 v5))), (3, (.vec 1 (List.map Z13 (v10.set ((IntKind.i64.wrap (a0.Calls.getD v9.toNat Z5).Parent).tmod (IntKind.i64.wrap (v9 + 1))).toNat (if (v10.getD v9.toNat 0) > (v10.getD ((IntKind.i64.wrap (a0.Calls.getD v9.toNat Z5).Parent).tmod (IntKind.i64.wrap (v9 + 1))).toNat 0) then (v10.getD v9.toNat 0) else (v10.getD ((IntKind.i64.wrap (a0.Calls.getD v9.toNat Z5).Parent).tmod (IntKind.i64.wrap (v9 + 1))).toNat 0))))))]⟩) ⟨rfl, rfl, rfl, rfl, trivial⟩ ⟨rfl, rfl, rfl, trivial⟩ (J21 (v10.set ((IntKind.i64.wrap (a0.Calls.getD v9.toNat Z5).Parent).tmod (IntKind.i64.wrap (v9 + 1))).toNat (if (v10.getD v9.toNat 0) > (v10.getD ((IntKind.i64.wrap (a0.Calls.getD v9.toNat Z5).Parent).tmod (IntKind.i64.wrap (v9 + 1))).toNat 0) then (v10.getD v9.toNat 0) else (v10.getD ((IntKind.i64.wrap (a0.Calls.getD v9.toNat Z5).Parent).tmod (IntKind.i64.wrap (v9 + 1))).toNat 0))) h)
       ·have h := hif.2 hc
        refine Z14 ?_
        exact Zw (st' := ⟨[(1, (.ptr 1 0)), (2, (.vs 2)), (3, (.vs 3)), (8, (.int .i64 v9))], [(1, (.box (Zq a0).cells)), (2, (.vec 1 (List.map Z13 v5))), (3, (.vec 1 (List.map Z13 v10)))]⟩) ⟨rfl, rfl, rfl, rfl, trivial⟩ ⟨rfl, rfl, rfl, trivial⟩ (J21 v10 h)
     ·intro J19
      refine Zb <| Z2 I (Zh (v := (.int .i64 ((IntKind.i64.wrap (a0.Calls.getD v9.toNat Z5).Parent).tmod (IntKind.i64.wrap (v9 + 1))))) I I) I <| Z2 I (Zh (v := (.int .i64 v9)) I I) I <| Z2 I (Z1k (k := .i64) (a := ((IntKind.i64.wrap (a0.Calls.getD v9.toNat Z5).Parent).tmod (IntKind.i64.wrap (v9 + 1)))) (b := v9) (c := (decide (((IntKind.i64.wrap (a0.Calls.getD v9.toNat Z5).Parent).tmod (IntKind.i64.wrap (v9 + 1))) < v9))) I I I I) I <| Z2 I (Zh (v := (.bool (decide (((IntKind.i64.wrap (a0.Calls.getD v9.toNat Z5).Parent).tmod (IntKind.i64.wrap (v9 + 1))) < v9)))) I I) I ?_
      have hif := Z1u h
      refine AOps.split (fun hc => ?_) (fun hc => ?_)
      ·have h := hif.1 hc
       refine Z11 I I I I (Zr (m := 1) (o := 0) I f102_2 I I) I <| Z11 I I I I (Zz (cs := (Zq a0).cells) (v := (.sl 11 (a0.Calls.map Zk) false)) I o100 I I I) I <| Z11 I I I I (Zh (v := (.int .i64 v9)) I I) I ?_
       have ⟨hg28, h⟩ := Zu h
       refine Z11 I I I I (Z1p (k := .i64) (l := a0.Calls) (enc := Zk) (z := Z5) (n := v9) (cs := (Zk (a0.Calls.getD v9.toNat Z5)).cells) (full := false) I s100 I I hg28 I) I <| Z11 I I I I (st_loadIA (cs := (Zk (a0.Calls.getD v9.toNat Z5)).cells) (vs := (Zk (a0.Calls.getD v9.toNat Z5)).cells) I a113 I I I) I ?_
       have ⟨v30, hv30, h⟩ := Z16 h
       refine Z11 I I I I (Z15 (ar := [(Zk (a0.Calls.getD v9.toNat Z5))]) (caps := []) Try.call126 (F126_ok K (a0.Calls.getD v9.toNat Z5) v30 hv30) I I ⟨rfl, trivial⟩ I) I <| Z11 I I I I (Z1k (k := .i64) (a := v30) (b := 3) (c := (v30 == 3)) I I I I) I <| Z2 I (st_pickT (v := (.bool (v30 == 3))) I I I) I <| Z2 I (Zh (v := (.bool (v30 == 3))) I I) I ?_
       have hif := Z1u h
       refine AOps.split (fun hc => ?_) (fun hc => ?_)
       ·have h := hif.1 hc
        refine Z11 I I I I (Zr (m := 1) (o := 0) I f102_2 I I) I <| Z11 I I I I (Zz (cs := (Zq a0).cells) (v := (.sl 11 (a0.Calls.map Zk) false)) I o100 I I I) I <| Z11 I I I I (Zh (v := (.int .i64 ((IntKind.i64.wrap (a0.Calls.getD v9.toNat Z5).Parent).tmod (IntKind.i64.wrap (v9 + 1))))) I I) I ?_
        have ⟨hg31, h⟩ := Zu h
        refine Z11 I I I I (Z1p (k := .i64) (l := a0.Calls) (enc := Zk) (z := Z5) (n := ((IntKind.i64.wrap (a0.Calls.getD v9.toNat Z5).Parent).tmod (IntKind.i64.wrap (v9 + 1)))) (cs := (Zk (a0.Calls.getD ((IntKind.i64.wrap (a0.Calls.getD v9.toNat Z5).Parent).tmod (IntKind.i64.wrap (v9 + 1))).toNat Z5)).cells) (full := false) I s100 I I hg31 I) I <| Z11 I I I I (st_loadIA (cs := (Zk (a0.Calls.getD ((IntKind.i64.wrap (a0.Calls.getD v9.toNat Z5).Parent).tmod (IntKind.i64.wrap (v9 + 1))).toNat Z5)).cells) (vs := (Zk (a0.Calls.getD ((IntKind.i64.wrap (a0.Calls.getD v9.toNat Z5).Parent).tmod (IntKind.i64.wrap (v9 + 1))).toNat Z5)).cells) I a113 I I I) I ?_
        have ⟨v33, hv33, h⟩ := Z16 h
        refine Z11 I I I I (Z15 (ar := [(Zk (a0.Calls.getD ((IntKind.i64.wrap (a0.Calls.getD v9.toNat Z5).Parent).tmod (IntKind.i64.wrap (v9 + 1))).toNat Z5))]) (caps := []) Try.call126 (F126_ok K (a0.Calls.getD ((IntKind.i64.wrap (a0.Calls.getD v9.toNat Z5).Parent).tmod (IntKind.i64.wrap (v9 + 1))).toNat Z5) v33 hv33) I I ⟨rfl, trivial⟩ I) I <| Z11 I I I I (Z1k (k := .i64) (a := v33) (b := 2) (c := (v33 == 2)) I I I I) I <| Z2 I (st_pickT (v := (.bool (v33 == 2))) I I I) I <| Z2 I (Zh (v := (.bool (v33 == 2))) I I) I ?_
        have hif := Z1u h
        refine AOps.split (fun hc => ?_) (fun hc => ?_)
        ·have h := hif.1 hc
         refine Z11 I I I I (Zr (m := 1) (o := 0) I f102_2 I I) I <| Z11 I I I I (Zz (cs := (Zq a0).cells) (v := (.sl 11 (a0.Calls.map Zk) false)) I o100 I I I) I <| Z11 I I I I (Zh (v := (.int .i64 ((IntKind.i64.wrap (a0.Calls.getD v9.toNat Z5).Parent).tmod (IntKind.i64.wrap (v9 + 1))))) I I) I ?_
         have ⟨hg34, h⟩ := Zu h
         refine Z11 I I I I (Z1p (k := .i64) (l := a0.Calls) (enc := Zk) (z := Z5) (n := ((IntKind.i64.wrap (a0.Calls.getD v9.toNat Z5).Parent).tmod (IntKind.i64.wrap (v9 + 1)))) (cs := (Zk (a0.Calls.getD ((IntKind.i64.wrap (a0.Calls.getD v9.toNat Z5).Parent).tmod (IntKind.i64.wrap (v9 + 1))).toNat Z5)).cells) (full := false) I s100 I I hg34 I) I <| Z11 I I I I (st_fieldI (cs := (Zk (a0.Calls.getD ((IntKind.i64.wrap (a0.Calls.getD v9.toNat Z5).Parent).tmod (IntKind.i64.wrap (v9 + 1))).toNat Z5)).cells) (ds := [(.bool (a0.Calls.getD ((IntKind.i64.wrap (a0.Calls.getD v9.toNat Z5).Parent).tmod (IntKind.i64.wrap (v9 + 1))).toNat Z5).Fail)]) I f113_10 I I I) I <| Z11 I I I I (st_loadI (cs := [(.bool (a0.Calls.getD ((IntKind.i64.wrap (a0.Calls.getD v9.toNat Z5).Parent).tmod (IntKind.i64.wrap (v9 + 1))).toNat Z5).Fail)]) (v := (.bool (a0.Calls.getD ((IntKind.i64.wrap (a0.Calls.getD v9.toNat Z5).Parent).tmod (IntKind.i64.wrap (v9 + 1))).toNat Z5).Fail)) I o4 I I) I <| Z11 I I I I (st_not (b := (a0.Calls.getD ((IntKind.i64.wrap (a0.Calls.getD v9.toNat Z5).Parent).tmod (IntKind.i64.wrap (v9 + 1))).toNat Z5).Fail) I I) I <| Z2 I (st_pickT (v := (.bool (!(a0.Calls.getD ((IntKind.i64.wrap (a0.Calls.getD v9.toNat Z5).Parent).tmod (IntKind.i64.wrap (v9 + 1))).toNat Z5).Fail))) I I I) I <| Zd ?_
         exact Zw (st' := ⟨[(1, (.ptr 1 0)), (2, (.vs 2)), (3, (.vs 3)), (8, (.int .i64 v9)), (9, (.int .i64 ((IntKind.i64.wrap (a0.Calls.getD v9.toNat Z5).Parent).tmod (IntKind.i64.wrap (v9 + 1))))), (108, (.bool (!(a0.Calls.getD ((IntKind.i64.wrap (a0.Calls.getD v9.toNat Z5).Parent).tmod (IntKind.i64.wrap (v9 + 1))).toNat Z5).Fail)))], [(1, (.box (Zq a0).cells)), (2, (.vec 1 (List.map Z13 v5))), (3, (.vec 1 (List.map Z13 v10)))]⟩) ⟨rfl, rfl, rfl, rfl, rfl, rfl, trivial⟩ ⟨rfl, rfl, rfl, trivial⟩ (J19 (!(a0.Calls.getD ((IntKind.i64.wrap (a0.Calls.getD v9.toNat Z5).Parent).tmod (IntKind.i64.wrap (v9 + 1))).toNat Z5).Fail) h)
        ·have h := hif.2 hc
         refine Zt I I I I I I I <| Zt I I I I I I I <| Zt I I I I I I I <| Zt I I I I I I I <| Zt I I I I I I I <| Zt I I I I I I I <| Zt I I I I I I I <| Z2 I (Z1r (v := (.bool false)) I I I) I ?_
         refine Zd ?_
         exact Zw (st' := ⟨[(1, (.ptr 1 0)), (2, (.vs 2)), (3, (.vs 3)), (8, (.int .i64 v9)), (9, (.int .i64 ((IntKind.i64.wrap (a0.Calls.getD v9.toNat Z5).Parent).tmod (IntKind.i64.wrap (v9 + 1))))), (108, (.bool false))], [(1, (.box (Zq a0).cells)), (2, (.vec 1 (List.map Z13 v5))), (3, (.vec 1 (List.map Z13 v10)))]⟩) ⟨rfl, rfl, rfl, rfl, rfl, rfl, trivial⟩ ⟨rfl, rfl, rfl, trivial⟩ (J19 false h)
       ·have h := hif.2 hc
        refine Zt I I I I I I I <| Zt I I I I I I I <| Zt I I I I I I I <| Zt I I I I I I I <| Zt I I I I I I I <| Zt I I I I I I I <| Zt I I I I I I I <| Z2 I (Z1r (v := (.bool false)) I I I) I ?_
        refine Z2 I (Zh (v := (.bool false)) I I) I <| Zt I I I I I I I <| Zt I I I I I I I <| Zt I I I I I I I <| Zt I I I I I I I <| Zt I I I I I I I <| Zt I I I I I I I <| Zt I I I I I I I ?_
        refine Z2 I (Z1r (v := (.bool false)) I I I) I <| Zd ?_
        exact Zw (st' := ⟨[(1, (.ptr 1 0)), (2, (.vs 2)), (3, (.vs 3)), (8, (.int .i64 v9)), (9, (.int .i64 ((IntKind.i64.wrap (a0.Calls.getD v9.toNat Z5).Parent).tmod (IntKind.i64.wrap (v9 + 1))))), (108, (.bool false))], [(1, (.box (Zq a0).cells)), (2, (.vec 1 (List.map Z13 v5))), (3, (.vec 1 (List.map Z13 v10)))]⟩) ⟨rfl, rfl, rfl, rfl, rfl, rfl, trivial⟩ ⟨rfl, rfl, rfl, trivial⟩ (J19 false h)
      ·have h := hif.2 hc
       refine Zt I I I I I I I <| Zt I I I I I I I <| Zt I I I I I I I <| Zt I I I I I I I <| Zt I I I I I I I <| Zt I I I I I I I <| Zt I I I I I I I <| Z2 I (Z1r (v := (.bool false)) I I I) I ?_
       refine Z2 I (Zh (v := (.bool false)) I I) I <| Zt I I I I I I I <| Zt I I I I I I I <| Zt I I I I I I I <| Zt I I I I I I I <| Zt I I I I I I I <| Zt I I I I I I I <| Zt I I I I I I I ?_
       refine Z2 I (Z1r (v := (.bool false)) I I I) I <| Z2 I (Zh (v := (.bool false)) I I) I <| Zt I I I I I I I <| Zt I I I I I I I <| Zt I I I I I I I <| Zt I I I I I I I <| Zt I I I I I I I <| Zt I I I I I I I ?_
       refine Zt I I I I I I I <| Z2 I (Z1r (v := (.bool false)) I I I) I <| Zd ?_
       exact Zw (st' := ⟨[(1, (.ptr 1 0)), (2, (.vs 2)), (3, (.vs 3)), (8, (.int .i64 v9)), (9, (.int .i64 ((IntKind.i64.wrap (a0.Calls.getD v9.toNat Z5).Parent).tmod (IntKind.i64.wrap (v9 + 1))))), (108, (.bool false))], [(1, (.box (Zq a0).cells)), (2, (.vec 1 (List.map Z13 v5))), (3, (.vec 1 (List.map Z13 v10)))]⟩) ⟨rfl, rfl, rfl, rfl, rfl, rfl, trivial⟩ ⟨rfl, rfl, rfl, trivial⟩ (J19 false h)
    ·have h := hif.2 hc
     refine AWp.exit <| At.thru ?_
     exact Zw (st' := ⟨[(2, (.vs 2)), (3, (.vs 3))], [(2, (.vec 1 (List.map Z13 v5))), (3, (.vec 1 (List.map Z13 v10)))]⟩) ⟨rfl, rfl, trivial⟩ ⟨rfl, rfl, trivial⟩ (J11 v10 h)
 ·intro N k4 v h IH4 J4
  obtain ⟨v1, v2, v3⟩ := v
  try dsimp only at h IH4 J4 ⊢
  cases k4 with
  | zero => cases h
  | succ k4 =>
   rw [F100_l4] at h
   refine Zf <| Zf <| Zb <| Z2 I (Zh (v := (.int .i64 v1)) I I) I <| Z2 I (Zr (m := 1) (o := 0) I f102_2 I I) I <| Z2 I (Zz (cs := (Zq a0).cells) (v := (.sl 11 (a0.Calls.map Zk) false)) I o100 I I I) I <| Z2 I (stx_len (l := a0.Calls) (enc := Zk) I s100 I) I <| Z2 I (Z1k (k := .i64) (a := v1) (b := (a0.Calls.length : Int)) (c := (decide (v1 < (a0.Calls.length : Int)))) I I I I) I ?_
   refine Zd <| Ze ?_
   have hif := Z1u h
   refine Z12 I (fun hc => ?_) (fun hc => ?_)
   ·have h := hif.1 hc
    refine Z14 <| Ze <| Zf <| AWp.block <| Zf <| Zb <| Z2 I (Zr (m := 1) (o := 0) I f102_2 I I) I <| Z2 I (Zz (cs := (Zq a0).cells) (v := (.sl 11 (a0.Calls.map Zk) false)) I o100 I I I) I ?_
    refine Z2 I (Zh (v := (.int .i64 v1)) I I) I ?_
    have ⟨hg36, h⟩ := Zu h
    refine Z2 I (Z1p (k := .i64) (l := a0.Calls) (enc := Zk) (z := Z5) (n := v1) (cs := (Zk (a0.Calls.getD v1.toNat Z5)).cells) (full := false) I s100 I I hg36 I) I <| Z2 I (st_loadIA (cs := (Zk (a0.Calls.getD v1.toNat Z5)).cells) (vs := (Zk (a0.Calls.getD v1.toNat Z5)).cells) I a113 I I I) I <| Z2 I (st_alloc (cs := [(.int .u8 0), (.int .u8 0), (.int .u8 0), (.int .u8 0), (.int .u8 0), (.int .u8 0), (.int .u8 0), (.int .u8 0), (.int .u8 0), (.int .u8 0), (.bool false)]) I z113 I I I) I <| Z2 I (Z1m (cs := [(.int .u8 0), (.int .u8 0), (.int .u8 0), (.int .u8 0), (.int .u8 0), (.int .u8 0), (.int .u8 0), (.int .u8 0), (.int .u8 0), (.int .u8 0), (.bool false)]) (vs := (Zk (a0.Calls.getD v1.toNat Z5)).cells) (ds := (Zk (a0.Calls.getD v1.toNat Z5)).cells) (v := (Zk (a0.Calls.getD v1.toNat Z5))) sz113 I I I I I I I I) I <| Zd <| Ze <| Zf <| Zb ?_
    refine Z2 I (Zr (m := 1) (o := 0) I f102_1 I I) I <| Z2 I (Zz (cs := (Zq a0).cells) (v := (.int .u8 a0.Start)) I o5 I I I) I <| Z2 I (st_div (k := .u8) (a := a0.Start) (b := 32) (c := (a0.Start.tmod 32)) I I I I (by decide)) I <| Z2 I (st_conv I us5 u3 I) I <| Z2 I (Z1a (k := .i64) (a := 1000) (b := (IntKind.i64.wrap (a0.Start.tmod 32))) (c := (IntKind.i64.wrap (1000 + (IntKind.i64.wrap (a0.Start.tmod 32))))) I I I I) I <| Z2 I (Zi (v := (.int .i64 (IntKind.i64.wrap (1000 + (IntKind.i64.wrap (a0.Start.tmod 32)))))) I I) I <| Zd <| Ze ?_
    refine Zf <| Zf <| Zb <| Z2 I (Zr (m := 5) (o := 0) I f113_0 I I) I <| Z2 I (Zz (cs := (Zk (a0.Calls.getD v1.toNat Z5)).cells) (v := (.int .u8 (a0.Calls.getD v1.toNat Z5).Parent)) I o5 I I I) I <| Z2 I (st_conv I us5 u3 I) I <| Z2 I (Zh (v := (.int .i64 v1)) I I) I <| Z2 I (Z1a (k := .i64) (a := v1) (b := 1) (c := (IntKind.i64.wrap (v1 + 1))) I I I I) I ?_
    have ⟨hg37, h⟩ := Zu h
    refine Z2 I (st_div (k := .i64) (a := (IntKind.i64.wrap (a0.Calls.getD v1.toNat Z5).Parent)) (b := (IntKind.i64.wrap (v1 + 1))) (c := ((IntKind.i64.wrap (a0.Calls.getD v1.toNat Z5).Parent).tmod (IntKind.i64.wrap (v1 + 1)))) I I I I hg37) I <| Z2 I (Zi (v := (.int .i64 ((IntKind.i64.wrap (a0.Calls.getD v1.toNat Z5).Parent).tmod (IntKind.i64.wrap (v1 + 1))))) I I) I <| Zd <| Ze <| Zf <| Zb <| Z2 I (Zh (v := (.int .i64 ((IntKind.i64.wrap (a0.Calls.getD v1.toNat Z5).Parent).tmod (IntKind.i64.wrap (v1 + 1))))) I I) I <| Z2 I (Zh (v := (.int .i64 v1)) I I) I ?_
    refine Z2 I (Z1k (k := .i64) (a := ((IntKind.i64.wrap (a0.Calls.getD v1.toNat Z5).Parent).tmod (IntKind.i64.wrap (v1 + 1)))) (b := v1) (c := (decide (((IntKind.i64.wrap (a0.Calls.getD v1.toNat Z5).Parent).tmod (IntKind.i64.wrap (v1 + 1))) < v1))) I I I I) I <| Zd <| Ze ?_
    refine AWp.join (V := Int) (lp := fun v => F100_j39 K v1 v2 v3 a0 (F100_l4 K a0 (F100_c7 K a0) k4) v = some r) (sh := fun v => ⟨[(1, (.ptr 1 0)), (2, (.vs 2)), (3, (.vs 3)), (4, (.int .i64 v1)), (5, (.ptr 5 0)), (6, (.int .i64 v))], [(1, (.box (Zq a0).cells)), (2, (.vec 1 (List.map Z13 v2))), (3, (.vec 1 (List.map Z13 v3))), (5, (.box (Zk (a0.Calls.getD v1.toNat Z5)).cells))]⟩) ?_ ?_
    ·intro v h
     revert h
     revert v
     intro v38 h
     try dsimp only at h ⊢
     unfold F100_j39 at h
     refine Ze <| Zf <| Zf <| Zb <| Z2 I (Zh (v := (.int .i64 v1)) I I) I <| Z2 I (Z1k (k := .i64) (a := v1) (b := 0) (c := (decide (v1 > 0))) I I I I) I <| Zd <| Ze ?_
     refine AWp.join (V := Int) (lp := fun v => F100_j41 K v2 v3 a0 v1 (F100_l4 K a0 (F100_c7 K a0) k4) v = some r) (sh := fun v => ⟨[(1, (.ptr 1 0)), (2, (.vs 2)), (3, (.vs 3)), (4, (.int .i64 v1)), (5, (.ptr 5 0)), (6, (.int .i64 v))], [(1, (.box (Zq a0).cells)), (2, (.vec 1 (List.map Z13 v2))), (3, (.vec 1 (List.map Z13 v3))), (5, (.box (Zk (a0.Calls.getD v1.toNat Z5)).cells))]⟩) ?_ ?_
     ·intro v h
      revert h
      revert v
      intro v40 h
      try dsimp only at h ⊢
      unfold F100_j41 at h
      refine Ze <| Z1n mixed <| Z9 0 I (Zh (v := (.vs 2)) I I) <| Z9 1 I (Zh (v := (.int .i64 v40)) I I) <| Z9 2 I (Z1g (vs := [(.int .i64 v40)]) (enc := Z13) (l := [v40]) I el87 I I ⟨rfl, trivial⟩ I els_i64 I I I I) ?_
      have ⟨hg42, h⟩ := Zu h
      refine Z9 3 I (st_append (m := 2) (enc := Z13) (l := v2) (l' := [v40]) (src := (.vs 50)) (rd := [(50, (.vec 1 (List.map Z13 [v40])))]) I I el87 I u87 I I I I (oneRead I) els_i64 hg42) <| Z9 4 I (Zh (v := (.vs 3)) I I) <| Z9 5 I (Zh (v := (.int .i64 v40)) I I) <| Z9 6 I (Zr (m := 5) (o := 0) I f113_7 I I) <| Z9 7 I (Zz (cs := (Zk (a0.Calls.getD v1.toNat Z5)).cells) (v := (.int .u8 (a0.Calls.getD v1.toNat Z5).Long)) I o5 I I I) <| Z9 8 I (st_div (k := .u8) (a := (a0.Calls.getD v1.toNat Z5).Long) (b := 32) (c := ((a0.Calls.getD v1.toNat Z5).Long.tmod 32)) I I I I (by decide)) <| Z9 9 I (st_conv I us5 u3 I) <| Z9 10 I (Z1a (k := .i64) (a := v40) (b := (IntKind.i64.wrap ((a0.Calls.getD v1.toNat Z5).Long.tmod 32))) (c := (IntKind.i64.wrap (v40 + (IntKind.i64.wrap ((a0.Calls.getD v1.toNat Z5).Long.tmod 32))))) I I I I) ?_
      refine Z9 11 I (Z1g (vs := [(.int .i64 (IntKind.i64.wrap (v40 + (IntKind.i64.wrap ((a0.Calls.getD v1.toNat Z5).Long.tmod 32)))))]) (enc := Z13) (l := [(IntKind.i64.wrap (v40 + (IntKind.i64.wrap ((a0.Calls.getD v1.toNat Z5).Long.tmod 32))))]) I el87 I I ⟨rfl, trivial⟩ I els_i64 I I I I) ?_
      have ⟨hg43, h⟩ := Zu h
      refine Z9 12 I (st_append (m := 3) (enc := Z13) (l := v3) (l' := [(IntKind.i64.wrap (v40 + (IntKind.i64.wrap ((a0.Calls.getD v1.toNat Z5).Long.tmod 32))))]) (src := (.vs 59)) (rd := [(59, (.vec 1 (List.map Z13 [(IntKind.i64.wrap (v40 + (IntKind.i64.wrap ((a0.Calls.getD v1.toNat Z5).Long.tmod 32))))])))]) I I el87 I u87 I I I I (oneRead I) els_i64 hg43) <| Z9 13 I (Zi (v := (.vs 2)) I I) <| Z9 14 I (Zi (v := (.vs 3)) I I) <| Z1l (by kernel_rfl) I <| At.end <| Ze <| Zb <| Z2 I (Zh (v := (.int .i64 v1)) I I) I ?_
      refine Z2 I (Z1a (k := .i64) (a := v1) (b := 1) (c := (IntKind.i64.wrap (v1 + 1))) I I I I) I <| Z2 I (Zi (v := (.int .i64 (IntKind.i64.wrap (v1 + 1)))) I I) I <| Zd ?_
      exact Zw (st' := ⟨[(1, (.ptr 1 0)), (2, (.vs 2)), (3, (.vs 3)), (4, (.int .i64 (IntKind.i64.wrap (v1 + 1))))], [(1, (.box (Zq a0).cells)), (2, (.vec 1 (List.map Z13 (v2 ++ [v40])))), (3, (.vec 1 (List.map Z13 (v3 ++ [(IntKind.i64.wrap (v40 + (IntKind.i64.wrap ((a0.Calls.getD v1.toNat Z5).Long.tmod 32))))]))))]⟩) ⟨rfl, rfl, rfl, rfl, trivial⟩ ⟨rfl, rfl, rfl, trivial⟩ (IH4 _ ((IntKind.i64.wrap (v1 + 1)), (v2 ++ [v40]), (v3 ++ [(IntKind.i64.wrap (v40 + (IntKind.i64.wrap ((a0.Calls.getD v1.toNat Z5).Long.tmod 32))))])) (Nat.lt_succ_self _) h)
     ·intro J41
      have hif := Z1u h
      refine Z12 I (fun hc => ?_) (fun hc => ?_)
      ·have h := hif.1 hc
       refine Zb <| Z2 I (Zh (v := (.int .i64 v38)) I I) I <| Z2 I (Zr (m := 5) (o := 0) I f113_6 I I) I <| Z2 I (Zz (cs := (Zk (a0.Calls.getD v1.toNat Z5)).cells) (v := (.int .u8 (a0.Calls.getD v1.toNat Z5).Wait)) I o5 I I I) I <| Z2 I (st_div (k := .u8) (a := (a0.Calls.getD v1.toNat Z5).Wait) (b := 32) (c := ((a0.Calls.getD v1.toNat Z5).Wait.tmod 32)) I I I I (by decide)) I <| Z2 I (st_conv I us5 u3 I) I <| Z2 I (Z1a (k := .i64) (a := v38) (b := (IntKind.i64.wrap ((a0.Calls.getD v1.toNat Z5).Wait.tmod 32))) (c := (IntKind.i64.wrap (v38 + (IntKind.i64.wrap ((a0.Calls.getD v1.toNat Z5).Wait.tmod 32))))) I I I I) I <| Z2 I (Zi (v := (.int .i64 (IntKind.i64.wrap (v38 + (IntKind.i64.wrap ((a0.Calls.getD v1.toNat Z5).Wait.tmod 32)))))) I I) I ?_
       refine Zd ?_
       exact Zw (st' := ⟨[(1, (.ptr 1 0)), (2, (.vs 2)), (3, (.vs 3)), (4, (.int .i64 v1)), (5, (.ptr 5 0)), (6, (.int .i64 (IntKind.i64.wrap (v38 + (IntKind.i64.wrap ((a0.Calls.getD v1.toNat Z5).Wait.tmod 32))))))], [(1, (.box (Zq a0).cells)), (2, (.vec 1 (List.map Z13 v2))), (3, (.vec 1 (List.map Z13 v3))), (5, (.box (Zk (a0.Calls.getD v1.toNat Z5)).cells))]⟩) ⟨rfl, rfl, rfl, rfl, rfl, rfl, trivial⟩ ⟨rfl, rfl, rfl, rfl, trivial⟩ (J41 (IntKind.i64.wrap (v38 + (IntKind.i64.wrap ((a0.Calls.getD v1.toNat Z5).Wait.tmod 32)))) h)
      ·have h := hif.2 hc
       refine Z14 ?_
       exact Zw (st' := ⟨[(1, (.ptr 1 0)), (2, (.vs 2)), (3, (.vs 3)), (4, (.int .i64 v1)), (5, (.ptr 5 0)), (6, (.int .i64 v38))], [(1, (.box (Zq a0).cells)), (2, (.vec 1 (List.map Z13 v2))), (3, (.vec 1 (List.map Z13 v3))), (5, (.box (Zk (a0.Calls.getD v1.toNat Z5)).cells))]⟩) ⟨rfl, rfl, rfl, rfl, rfl, rfl, trivial⟩ ⟨rfl, rfl, rfl, rfl, trivial⟩ (J41 v38 h)
    ·intro J39
     have hif := Z1u h
     refine Z12 I (fun hc => ?_) (fun hc => ?_)
     ·have h := hif.1 hc
      refine Zb <| Z2 I (Zh (v := (.vs 2)) I I) I <| Z2 I (Zh (v := (.int .i64 ((IntKind.i64.wrap (a0.Calls.getD v1.toNat Z5).Parent).tmod (IntKind.i64.wrap (v1 + 1))))) I I) I ?_
      have ⟨hg44, h⟩ := Zu h
      refine Z2 I (st_indexV (k := .i64) (v := (.vs 2)) (n := 2) (off := 0) (len := v2.length) (es := (List.map Z13 v2)) (j := ((IntKind.i64.wrap (a0.Calls.getD v1.toNat Z5).Parent).tmod (IntKind.i64.wrap (v1 + 1)))) (m := ((IntKind.i64.wrap (a0.Calls.getD v1.toNat Z5).Parent).tmod (IntKind.i64.wrap (v1 + 1))).toNat) I s87 I I (vecR_map _ _ _) I hg44 (Nat.zero_add _)) I ?_
      have ⟨hg45, h⟩ := Zu h
      refine Z2 I (st_loadV (l := v2) (enc := Z13) (z := 0) (v := (.int .i64 (v2.getD ((IntKind.i64.wrap (a0.Calls.getD v1.toNat Z5).Parent).tmod (IntKind.i64.wrap (v1 + 1))).toNat 0))) I o3 I I hg45 I) I <| Z2 I (Zi (v := (.int .i64 (v2.getD ((IntKind.i64.wrap (a0.Calls.getD v1.toNat Z5).Parent).tmod (IntKind.i64.wrap (v1 + 1))).toNat 0))) I I) I <| Zd ?_
      exact Zw (st' := ⟨[(1, (.ptr 1 0)), (2, (.vs 2)), (3, (.vs 3)), (4, (.int .i64 v1)), (5, (.ptr 5 0)), (6, (.int .i64 (v2.getD ((IntKind.i64.wrap (a0.Calls.getD v1.toNat Z5).Parent).tmod (IntKind.i64.wrap (v1 + 1))).toNat 0)))], [(1, (.box (Zq a0).cells)), (2, (.vec 1 (List.map Z13 v2))), (3, (.vec 1 (List.map Z13 v3))), (5, (.box (Zk (a0.Calls.getD v1.toNat Z5)).cells))]⟩) ⟨rfl, rfl, rfl, rfl, rfl, rfl, trivial⟩ ⟨rfl, rfl, rfl, rfl, trivial⟩ (J39 (v2.getD ((IntKind.i64.wrap (a0.Calls.getD v1.toNat Z5).Parent).tmod (IntKind.i64.wrap (v1 + 1))).toNat 0) h)
     ·have h := hif.2 hc
      refine Z14 ?_
      exact Zw (st' := ⟨[(1, (.ptr 1 0)), (2, (.vs 2)), (3, (.vs 3)), (4, (.int .i64 v1)), (5, (.ptr 5 0)), (6, (.int .i64 (IntKind.i64.wrap (1000 + (IntKind.i64.wrap (a0.Start.tmod 32))))))], [(1, (.box (Zq a0).cells)), (2, (.vec 1 (List.map Z13 v2))), (3, (.vec 1 (List.map Z13 v3))), (5, (.box (Zk (a0.Calls.getD v1.toNat Z5)).cells))]⟩) ⟨rfl, rfl, rfl, rfl, rfl, rfl, trivial⟩ ⟨rfl, rfl, rfl, rfl, trivial⟩ (J39 (IntKind.i64.wrap (1000 + (IntKind.i64.wrap (a0.Start.tmod 32)))) h)
   ·have h := hif.2 hc
    refine AWp.exit <| At.thru ?_
    exact Zw (st' := ⟨[(1, (.ptr 1 0)), (2, (.vs 2)), (3, (.vs 3))], [(1, (.box (Zq a0).cells)), (2, (.vec 1 (List.map Z13 v2))), (3, (.vec 1 (List.map Z13 v3)))]⟩) ⟨rfl, rfl, rfl, trivial⟩ ⟨rfl, rfl, rfl, trivial⟩ (J4 (v2, v3) h)
def F127 (K : Nat) (a0 : Z1t) : Option ((List Z1f)) :=
 if (0 : Int) ≤ ((IntKind.u8.wrap (a0.Tag.tdiv 8)).tmod 3) ∧ ((IntKind.u8.wrap (a0.Tag.tdiv 8)).tmod 3) < (([[97], [98], [119, 101, 115, 116, 32, 49]]).length : Nat) then
  if ((IntKind.u8.wrap (a0.Tag.tdiv 8)).tmod 3).toNat < ([[97], [98], [119, 101, 115, 116, 32, 49]]).length then
   if (0 : Int) ≤ 0 ∧ 0 ≤ (a0.Tag.tmod 4) ∧ (a0.Tag.tmod 4) ≤ (([(⟨[111, 107], (⟨3, [], (IntKind.i64.wrap ((IntKind.u8.wrap (a0.Tag.tdiv 4)).tmod 2))⟩ : Z1o)⟩ : Z1f), (⟨[115, 105, 122, 101], (⟨2, [], (IntKind.i64.wrap ((IntKind.i64.wrap a0.Tag) - 100))⟩ : Z1o)⟩ : Z1f), (⟨[122, 111, 110, 101], (⟨1, (([[97], [98], [119, 101, 115, 116, 32, 49]]).getD ((IntKind.u8.wrap (a0.Tag.tdiv 8)).tmod 3).toNat []), 0⟩ : Z1o)⟩ : Z1f)]).length : Nat) then
    if (0 + (0 : Int).toNat) + ((a0.Tag.tmod 4).toNat - (0 : Int).toNat) ≤ ([(⟨[111, 107], (⟨3, [], (IntKind.i64.wrap ((IntKind.u8.wrap (a0.Tag.tdiv 4)).tmod 2))⟩ : Z1o)⟩ : Z1f), (⟨[115, 105, 122, 101], (⟨2, [], (IntKind.i64.wrap ((IntKind.i64.wrap a0.Tag) - 100))⟩ : Z1o)⟩ : Z1f), (⟨[122, 111, 110, 101], (⟨1, (([[97], [98], [119, 101, 115, 116, 32, 49]]).getD ((IntKind.u8.wrap (a0.Tag.tdiv 8)).tmod 3).toNat []), 0⟩ : Z1o)⟩ : Z1f)]).length then
     some ((([(⟨[111, 107], (⟨3, [], (IntKind.i64.wrap ((IntKind.u8.wrap (a0.Tag.tdiv 4)).tmod 2))⟩ : Z1o)⟩ : Z1f), (⟨[115, 105, 122, 101], (⟨2, [], (IntKind.i64.wrap ((IntKind.i64.wrap a0.Tag) - 100))⟩ : Z1o)⟩ : Z1f), (⟨[122, 111, 110, 101], (⟨1, (([[97], [98], [119, 101, 115, 116, 32, 49]]).getD ((IntKind.u8.wrap (a0.Tag.tdiv 8)).tmod 3).toNat []), 0⟩ : Z1o)⟩ : Z1f)]).drop (0 + (0 : Int).toNat)).take ((a0.Tag.tmod 4).toNat - (0 : Int).toNat))
    else none
   else none
  else none
 else none
theorem F127_ok (K : Nat) (a0 : Z1t) (r : (List Z1f)) (h : F127 K a0 = some r) : ACall P 127 ⟨[(Zk a0)], [], (.sl 4 (r.map Zx) false), [], []⟩ := by
 refine Z1q Try.func127 Try.results127 rfl Try.ntmps127 rfl rfl rfl ?_
 intro E Q hP hN hro hret
 obtain ⟨P', nt', w0, F0, p0, S0, β0, ro0⟩ := E
 simp only at hP hN
 subst hP hN
 dsimp only [argT]
 unfold F127 at h
 refine Zf <| Zb <| Z2 I (st_box (v := (Zk a0)) (cs := (Zk a0).cells) I I I I I) I <| Z2 I (Zi (v := (.sl 4 [] false)) I I) I <| Zd <| Ze <| Zf <| Z1n mixed ?_
 refine Z9 0 I (Zr (m := 1) (o := 0) I f113_9 I I) <| Z9 1 I (Zz (cs := (Zk a0).cells) (v := (.int .u8 a0.Tag)) I o5 I I I) <| Z9 2 I (st_div (k := .u8) (a := a0.Tag) (b := 4) (c := (IntKind.u8.wrap (a0.Tag.tdiv 4))) I I I I (by decide)) <| Z9 3 I (st_div (k := .u8) (a := (IntKind.u8.wrap (a0.Tag.tdiv 4))) (b := 2) (c := ((IntKind.u8.wrap (a0.Tag.tdiv 4)).tmod 2)) I I I I (by decide)) <| Z9 4 I (st_conv I us5 u3 I) <| Z9 5 I (stx_build (vs := [(0, (.int .i64 3)), (2, (.int .i64 (IntKind.i64.wrap ((IntKind.u8.wrap (a0.Tag.tdiv 4)).tmod 2))))]) (cs := [(.int .i64 3), (.str []), (.int .i64 (IntKind.i64.wrap ((IntKind.u8.wrap (a0.Tag.tdiv 4)).tmod 2)))]) I st165 ⟨rfl, rfl, rfl, rfl, trivial⟩ I) <| Z9 6 I (stx_build (vs := [(0, (.str [111, 107])), (1, (.ag [(.int .i64 3), (.str []), (.int .i64 (IntKind.i64.wrap ((IntKind.u8.wrap (a0.Tag.tdiv 4)).tmod 2)))]))]) (cs := [(.str [111, 107]), (.int .i64 3), (.str []), (.int .i64 (IntKind.i64.wrap ((IntKind.u8.wrap (a0.Tag.tdiv 4)).tmod 2)))]) I st167 ⟨rfl, rfl, rfl, rfl, trivial⟩ I) <| Z9 7 I (Zr (m := 1) (o := 0) I f113_9 I I) ?_
 refine Z9 8 I (Zz (cs := (Zk a0).cells) (v := (.int .u8 a0.Tag)) I o5 I I I) <| Z9 9 I (st_conv I us5 u3 I) <| Z9 10 I (Z1a (k := .i64) (a := (IntKind.i64.wrap a0.Tag)) (b := 100) (c := (IntKind.i64.wrap ((IntKind.i64.wrap a0.Tag) - 100))) I I I I) <| Z9 11 I (stx_build (vs := [(0, (.int .i64 2)), (2, (.int .i64 (IntKind.i64.wrap ((IntKind.i64.wrap a0.Tag) - 100))))]) (cs := [(.int .i64 2), (.str []), (.int .i64 (IntKind.i64.wrap ((IntKind.i64.wrap a0.Tag) - 100)))]) I st165 ⟨rfl, rfl, rfl, rfl, trivial⟩ I) <| Z9 12 I (stx_build (vs := [(0, (.str [115, 105, 122, 101])), (1, (.ag [(.int .i64 2), (.str []), (.int .i64 (IntKind.i64.wrap ((IntKind.i64.wrap a0.Tag) - 100)))]))]) (cs := [(.str [115, 105, 122, 101]), (.int .i64 2), (.str []), (.int .i64 (IntKind.i64.wrap ((IntKind.i64.wrap a0.Tag) - 100)))]) I st167 ⟨rfl, rfl, rfl, rfl, trivial⟩ I) <| Z9 13 I (Z1g (vs := [(.str [97]), (.str [98]), (.str [119, 101, 115, 116, 32, 49])]) (enc := e_str) (l := [[97], [98], [119, 101, 115, 116, 32, 49]]) I el181 I I ⟨rfl, rfl, rfl, trivial⟩ I els_str I I I I) <| Z9 14 I (Zr (m := 1) (o := 0) I f113_9 I I) <| Z9 15 I (Zz (cs := (Zk a0).cells) (v := (.int .u8 a0.Tag)) I o5 I I I) ?_
 refine Z9 16 I (st_div (k := .u8) (a := a0.Tag) (b := 8) (c := (IntKind.u8.wrap (a0.Tag.tdiv 8))) I I I I (by decide)) <| Z9 17 I (st_div (k := .u8) (a := (IntKind.u8.wrap (a0.Tag.tdiv 8))) (b := 3) (c := ((IntKind.u8.wrap (a0.Tag.tdiv 8)).tmod 3)) I I I I (by decide)) ?_
 have ⟨hg1, h⟩ := Zu h
 refine Z9 18 I (st_indexV (k := .u8) (v := (.vs 17)) (n := 17) (off := 0) (len := ([[97], [98], [119, 101, 115, 116, 32, 49]]).length) (es := (List.map e_str ([[97], [98], [119, 101, 115, 116, 32, 49]]))) (j := ((IntKind.u8.wrap (a0.Tag.tdiv 8)).tmod 3)) (m := ((IntKind.u8.wrap (a0.Tag.tdiv 8)).tmod 3).toNat) I s181 I I (vecR_map _ _ _) I hg1 (Nat.zero_add _)) ?_
 have ⟨hg2, h⟩ := Zu h
 refine Z9 19 I (st_loadV (l := ([[97], [98], [119, 101, 115, 116, 32, 49]])) (enc := e_str) (z := []) (v := (.str (([[97], [98], [119, 101, 115, 116, 32, 49]]).getD ((IntKind.u8.wrap (a0.Tag.tdiv 8)).tmod 3).toNat []))) I o9 I I hg2 I) <| Z9 20 I (stx_build (vs := [(0, (.int .i64 1)), (1, (.str (([[97], [98], [119, 101, 115, 116, 32, 49]]).getD ((IntKind.u8.wrap (a0.Tag.tdiv 8)).tmod 3).toNat [])))]) (cs := [(.int .i64 1), (.str (([[97], [98], [119, 101, 115, 116, 32, 49]]).getD ((IntKind.u8.wrap (a0.Tag.tdiv 8)).tmod 3).toNat [])), (.int .i64 0)]) I st165 ⟨rfl, rfl, rfl, rfl, trivial⟩ I) <| Z9 21 I (stx_build (vs := [(0, (.str [122, 111, 110, 101])), (1, (.ag [(.int .i64 1), (.str (([[97], [98], [119, 101, 115, 116, 32, 49]]).getD ((IntKind.u8.wrap (a0.Tag.tdiv 8)).tmod 3).toNat [])), (.int .i64 0)]))]) (cs := [(.str [122, 111, 110, 101]), (.int .i64 1), (.str (([[97], [98], [119, 101, 115, 116, 32, 49]]).getD ((IntKind.u8.wrap (a0.Tag.tdiv 8)).tmod 3).toNat [])), (.int .i64 0)]) I st167 ⟨rfl, rfl, rfl, rfl, trivial⟩ I) <| Z9 22 I (Z1g (vs := [(.ag [(.str [111, 107]), (.int .i64 3), (.str []), (.int .i64 (IntKind.i64.wrap ((IntKind.u8.wrap (a0.Tag.tdiv 4)).tmod 2)))]), (.ag [(.str [115, 105, 122, 101]), (.int .i64 2), (.str []), (.int .i64 (IntKind.i64.wrap ((IntKind.i64.wrap a0.Tag) - 100)))]), (.ag [(.str [122, 111, 110, 101]), (.int .i64 1), (.str (([[97], [98], [119, 101, 115, 116, 32, 49]]).getD ((IntKind.u8.wrap (a0.Tag.tdiv 8)).tmod 3).toNat [])), (.int .i64 0)])]) (enc := Zx) (l := [(⟨[111, 107], (⟨3, [], (IntKind.i64.wrap ((IntKind.u8.wrap (a0.Tag.tdiv 4)).tmod 2))⟩ : Z1o)⟩ : Z1f), (⟨[115, 105, 122, 101], (⟨2, [], (IntKind.i64.wrap ((IntKind.i64.wrap a0.Tag) - 100))⟩ : Z1o)⟩ : Z1f), (⟨[122, 111, 110, 101], (⟨1, (([[97], [98], [119, 101, 115, 116, 32, 49]]).getD ((IntKind.u8.wrap (a0.Tag.tdiv 8)).tmod 3).toNat []), 0⟩ : Z1o)⟩ : Z1f)]) I el35 I I ⟨rfl, rfl, rfl, trivial⟩ I els_Tapi_Attr I I I I) <| Z9 23 I (Zi (v := (.vs 26)) I I) <| Z1l (by kernel_rfl) I <| Ze <| Zf ?_
 refine Zb <| Z2 I (Zh (v := (.vs 26)) I I) I <| Z2 I (Zr (m := 1) (o := 0) I f113_9 I I) I <| Z2 I (Zz (cs := (Zk a0).cells) (v := (.int .u8 a0.Tag)) I o5 I I I) I <| Z2 I (st_div (k := .u8) (a := a0.Tag) (b := 4) (c := (a0.Tag.tmod 4)) I I I I (by decide)) I ?_
 have ⟨hg3, h⟩ := Zu h
 have ⟨hg4, h⟩ := Zu h
 refine Z2 I (stx_sliceVH (v := (.vs 26)) (n := 26) (off := 0) (len := ([(⟨[111, 107], (⟨3, [], (IntKind.i64.wrap ((IntKind.u8.wrap (a0.Tag.tdiv 4)).tmod 2))⟩ : Z1o)⟩ : Z1f), (⟨[115, 105, 122, 101], (⟨2, [], (IntKind.i64.wrap ((IntKind.i64.wrap a0.Tag) - 100))⟩ : Z1o)⟩ : Z1f), (⟨[122, 111, 110, 101], (⟨1, (([[97], [98], [119, 101, 115, 116, 32, 49]]).getD ((IntKind.u8.wrap (a0.Tag.tdiv 8)).tmod 3).toNat []), 0⟩ : Z1o)⟩ : Z1f)]).length) (l := ([(⟨[111, 107], (⟨3, [], (IntKind.i64.wrap ((IntKind.u8.wrap (a0.Tag.tdiv 4)).tmod 2))⟩ : Z1o)⟩ : Z1f), (⟨[115, 105, 122, 101], (⟨2, [], (IntKind.i64.wrap ((IntKind.i64.wrap a0.Tag) - 100))⟩ : Z1o)⟩ : Z1f), (⟨[122, 111, 110, 101], (⟨1, (([[97], [98], [119, 101, 115, 116, 32, 49]]).getD ((IntKind.u8.wrap (a0.Tag.tdiv 8)).tmod 3).toNat []), 0⟩ : Z1o)⟩ : Z1f)])) (enc := Zx) (kh := .u8) (hi := (a0.Tag.tmod 4)) I s35 I I (vecR_map _ _ _) I hg3 I) I <| Z2 I (Zi (v := (.vsub 26 (0 + (0 : Int).toNat) ((a0.Tag.tmod 4).toNat - (0 : Int).toNat) false)) I I) I <| Zd <| Ze <| Z1d <| At.ghost (st' := ⟨[(2, (.sl 4 (((([(⟨[111, 107], (⟨3, [], (IntKind.i64.wrap ((IntKind.u8.wrap (a0.Tag.tdiv 4)).tmod 2))⟩ : Z1o)⟩ : Z1f), (⟨[115, 105, 122, 101], (⟨2, [], (IntKind.i64.wrap ((IntKind.i64.wrap a0.Tag) - 100))⟩ : Z1o)⟩ : Z1f), (⟨[122, 111, 110, 101], (⟨1, (([[97], [98], [119, 101, 115, 116, 32, 49]]).getD ((IntKind.u8.wrap (a0.Tag.tdiv 8)).tmod 3).toNat []), 0⟩ : Z1o)⟩ : Z1f)]).drop (0 + (0 : Int).toNat)).take ((a0.Tag.tmod 4).toNat - (0 : Int).toNat)).map Zx) false))], []⟩) (fun a w h => (Z19 ⟨[(2, (.sl 4 (((([(⟨[111, 107], (⟨3, [], (IntKind.i64.wrap ((IntKind.u8.wrap (a0.Tag.tdiv 4)).tmod 2))⟩ : Z1o)⟩ : Z1f), (⟨[115, 105, 122, 101], (⟨2, [], (IntKind.i64.wrap ((IntKind.i64.wrap a0.Tag) - 100))⟩ : Z1o)⟩ : Z1f), (⟨[122, 111, 110, 101], (⟨1, (([[97], [98], [119, 101, 115, 116, 32, 49]]).getD ((IntKind.u8.wrap (a0.Tag.tdiv 8)).tmod 3).toNat []), 0⟩ : Z1o)⟩ : Z1f)]).drop (0 + (0 : Int).toNat)).take ((a0.Tag.tmod 4).toNat - (0 : Int).toNat)).map Zx) false))], []⟩ (ghost_freeze (m := 26) (sz := 4) (es := (List.map Zx ([(⟨[111, 107], (⟨3, [], (IntKind.i64.wrap ((IntKind.u8.wrap (a0.Tag.tdiv 4)).tmod 2))⟩ : Z1o)⟩ : Z1f), (⟨[115, 105, 122, 101], (⟨2, [], (IntKind.i64.wrap ((IntKind.i64.wrap a0.Tag) - 100))⟩ : Z1o)⟩ : Z1f), (⟨[122, 111, 110, 101], (⟨1, (([[97], [98], [119, 101, 115, 116, 32, 49]]).getD ((IntKind.u8.wrap (a0.Tag.tdiv 8)).tmod 3).toNat []), 0⟩ : Z1o)⟩ : Z1f)]))) a w (Z19 ⟨[(2, (.vsub 26 (0 + (0 : Int).toNat) ((a0.Tag.tmod 4).toNat - (0 : Int).toNat) false))], [(26, (.vec 4 (List.map Zx ([(⟨[111, 107], (⟨3, [], (IntKind.i64.wrap ((IntKind.u8.wrap (a0.Tag.tdiv 4)).tmod 2))⟩ : Z1o)⟩ : Z1f), (⟨[115, 105, 122, 101], (⟨2, [], (IntKind.i64.wrap ((IntKind.i64.wrap a0.Tag) - 100))⟩ : Z1o)⟩ : Z1f), (⟨[122, 111, 110, 101], (⟨1, (([[97], [98], [119, 101, 115, 116, 32, 49]]).getD ((IntKind.u8.wrap (a0.Tag.tdiv 8)).tmod 3).toNat []), 0⟩ : Z1o)⟩ : Z1f)]))))]⟩ h ⟨rfl, trivial⟩ ⟨rfl, trivial⟩)) ⟨(congrArg some (frz_sub hg4)), trivial⟩ trivial)) ?_
 have h := Option.some.inj h
 subst h
 refine (hret _ ?_).1
 exact ⟨[(.sl 4 (((([(⟨[111, 107], (⟨3, [], (IntKind.i64.wrap ((IntKind.u8.wrap (a0.Tag.tdiv 4)).tmod 2))⟩ : Z1o)⟩ : Z1f), (⟨[115, 105, 122, 101], (⟨2, [], (IntKind.i64.wrap ((IntKind.i64.wrap a0.Tag) - 100))⟩ : Z1o)⟩ : Z1f), (⟨[122, 111, 110, 101], (⟨1, (([[97], [98], [119, 101, 115, 116, 32, 49]]).getD ((IntKind.u8.wrap (a0.Tag.tdiv 8)).tmod 3).toNat []), 0⟩ : Z1o)⟩ : Z1f)]).drop (0 + (0 : Int).toNat)).take ((a0.Tag.tmod 4).toNat - (0 : Int).toNat)).map Zx) false)], ⟨rfl, trivial⟩, rfl, trivial⟩
def F101_j21 (K : Nat) (a0 : Zp) (a1 : Int) (a2 : Int) (v16 : Zg) (v20 : (List Zs)) : Option (Zg) :=
 (F127 K ((a0.Trees.getD a1.toNat Z7).Calls.getD a2.toNat Z5)).bind fun v23 =>
  some (⟨v16.Trace, v16.Id, v16.Parent, v16.Revision, v16.Clock, v16.Kind, v16.Service, v16.Version, v16.Operation, v16.Start, v16.End, v16.Error, v23, v20⟩ : Zg)
def F101_j17 (K : Nat) (a0 : Zp) (a1 : Int) (a2 : Int) (a3 : (List Int)) (v16 : Zg) : Option (Zg) :=
 if (decide ((IntKind.i64.wrap (((a0.Trees.getD a1.toNat Z7).Calls.getD a2.toNat Z5).Link.tmod 16)) < a2)) = true then
  if (0 : Int) ≤ (IntKind.i64.wrap (((a0.Trees.getD a1.toNat Z7).Calls.getD a2.toNat Z5).Link.tmod 16)) ∧ (IntKind.i64.wrap (((a0.Trees.getD a1.toNat Z7).Calls.getD a2.toNat Z5).Link.tmod 16)) < a3.length then
   if (0 : Int) ≤ a2 ∧ a2 < a3.length then
    if (decide ((a3.getD (IntKind.i64.wrap (((a0.Trees.getD a1.toNat Z7).Calls.getD a2.toNat Z5).Link.tmod 16)).toNat 0) ≤ (a3.getD a2.toNat 0))) = true then
     F101_j21 K a0 a1 a2 v16 [(⟨v16.Trace, (IntKind.i64.wrap ((IntKind.i64.wrap (((a0.Trees.getD a1.toNat Z7).Calls.getD a2.toNat Z5).Link.tmod 16)) + 1))⟩ : Zs)]
    else
     F101_j21 K a0 a1 a2 v16 v16.Links
   else none
  else none
 else
  (F127 K ((a0.Trees.getD a1.toNat Z7).Calls.getD a2.toNat Z5)).bind fun v25 =>
   some (⟨v16.Trace, v16.Id, v16.Parent, v16.Revision, v16.Clock, v16.Kind, v16.Service, v16.Version, v16.Operation, v16.Start, v16.End, v16.Error, v25, v16.Links⟩ : Zg)
def F101 (K : Nat) (a0 : Zp) (a1 : Int) (a2 : Int) (a3 : (List Int)) (a4 : (List Int)) : Option (Zg) :=
 if (0 : Int) ≤ a1 ∧ a1 < a0.Trees.length then
  if (0 : Int) ≤ a2 ∧ a2 < (a0.Trees.getD a1.toNat Z7).Calls.length then
   (F62 K a0 a1).bind fun v4 =>
    (F126 K ((a0.Trees.getD a1.toNat Z7).Calls.getD a2.toNat Z5)).bind fun v6 =>
     if (0 : Int) ≤ a2 ∧ a2 < a3.length then
      if (0 : Int) ≤ a2 ∧ a2 < a4.length then
       if (0 : Int) ≤ (((a0.Trees.getD a1.toNat Z7).Calls.getD a2.toNat Z5).Service.tmod 4) ∧ (((a0.Trees.getD a1.toNat Z7).Calls.getD a2.toNat Z5).Service.tmod 4) < (([[97, 112, 105], [100, 98], [119, 101, 98], [99, 97, 99, 104, 101]]).length : Nat) then
        if (((a0.Trees.getD a1.toNat Z7).Calls.getD a2.toNat Z5).Service.tmod 4).toNat < ([[97, 112, 105], [100, 98], [119, 101, 98], [99, 97, 99, 104, 101]]).length then
         if (0 : Int) ≤ (((a0.Trees.getD a1.toNat Z7).Calls.getD a2.toNat Z5).Version.tmod 3) ∧ (((a0.Trees.getD a1.toNat Z7).Calls.getD a2.toNat Z5).Version.tmod 3) < (([[118, 49], [118, 50], []]).length : Nat) then
          if (((a0.Trees.getD a1.toNat Z7).Calls.getD a2.toNat Z5).Version.tmod 3).toNat < ([[118, 49], [118, 50], []]).length then
           if (0 : Int) ≤ (((a0.Trees.getD a1.toNat Z7).Calls.getD a2.toNat Z5).Operation.tmod 3) ∧ (((a0.Trees.getD a1.toNat Z7).Calls.getD a2.toNat Z5).Operation.tmod 3) < (([[103, 101, 116], [112, 117, 116], [108, 105, 115, 116]]).length : Nat) then
            if (((a0.Trees.getD a1.toNat Z7).Calls.getD a2.toNat Z5).Operation.tmod 3).toNat < ([[103, 101, 116], [112, 117, 116], [108, 105, 115, 116]]).length then
             if (IntKind.i64.wrap (a2 + 1)) ≠ 0 then
              if (decide (((IntKind.i64.wrap ((a0.Trees.getD a1.toNat Z7).Calls.getD a2.toNat Z5).Parent).tmod (IntKind.i64.wrap (a2 + 1))) < a2)) = true then
               F101_j17 K a0 a1 a2 a3 (⟨v4, (IntKind.i64.wrap (a2 + 1)), (IntKind.i64.wrap (((IntKind.i64.wrap ((a0.Trees.getD a1.toNat Z7).Calls.getD a2.toNat Z5).Parent).tmod (IntKind.i64.wrap (a2 + 1))) + 1)), 0, (IntKind.i64.wrap (1 + (IntKind.i64.wrap (((a0.Trees.getD a1.toNat Z7).Calls.getD a2.toNat Z5).Clock.tmod 4)))), v6, (([[97, 112, 105], [100, 98], [119, 101, 98], [99, 97, 99, 104, 101]]).getD (((a0.Trees.getD a1.toNat Z7).Calls.getD a2.toNat Z5).Service.tmod 4).toNat []), (([[118, 49], [118, 50], []]).getD (((a0.Trees.getD a1.toNat Z7).Calls.getD a2.toNat Z5).Version.tmod 3).toNat []), (([[103, 101, 116], [112, 117, 116], [108, 105, 115, 116]]).getD (((a0.Trees.getD a1.toNat Z7).Calls.getD a2.toNat Z5).Operation.tmod 3).toNat []), (a3.getD a2.toNat 0), (a4.getD a2.toNat 0), ((a0.Trees.getD a1.toNat Z7).Calls.getD a2.toNat Z5).Fail, [], []⟩ : Zg)
              else
               if (decide (a2 > 0)) = true then
                F101_j17 K a0 a1 a2 a3 (⟨v4, (IntKind.i64.wrap (a2 + 1)), 100, 0, (IntKind.i64.wrap (1 + (IntKind.i64.wrap (((a0.Trees.getD a1.toNat Z7).Calls.getD a2.toNat Z5).Clock.tmod 4)))), v6, (([[97, 112, 105], [100, 98], [119, 101, 98], [99, 97, 99, 104, 101]]).getD (((a0.Trees.getD a1.toNat Z7).Calls.getD a2.toNat Z5).Service.tmod 4).toNat []), (([[118, 49], [118, 50], []]).getD (((a0.Trees.getD a1.toNat Z7).Calls.getD a2.toNat Z5).Version.tmod 3).toNat []), (([[103, 101, 116], [112, 117, 116], [108, 105, 115, 116]]).getD (((a0.Trees.getD a1.toNat Z7).Calls.getD a2.toNat Z5).Operation.tmod 3).toNat []), (a3.getD a2.toNat 0), (a4.getD a2.toNat 0), ((a0.Trees.getD a1.toNat Z7).Calls.getD a2.toNat Z5).Fail, [], []⟩ : Zg)
               else
                F101_j17 K a0 a1 a2 a3 (⟨v4, (IntKind.i64.wrap (a2 + 1)), 0, 0, (IntKind.i64.wrap (1 + (IntKind.i64.wrap (((a0.Trees.getD a1.toNat Z7).Calls.getD a2.toNat Z5).Clock.tmod 4)))), v6, (([[97, 112, 105], [100, 98], [119, 101, 98], [99, 97, 99, 104, 101]]).getD (((a0.Trees.getD a1.toNat Z7).Calls.getD a2.toNat Z5).Service.tmod 4).toNat []), (([[118, 49], [118, 50], []]).getD (((a0.Trees.getD a1.toNat Z7).Calls.getD a2.toNat Z5).Version.tmod 3).toNat []), (([[103, 101, 116], [112, 117, 116], [108, 105, 115, 116]]).getD (((a0.Trees.getD a1.toNat Z7).Calls.getD a2.toNat Z5).Operation.tmod 3).toNat []), (a3.getD a2.toNat 0), (a4.getD a2.toNat 0), ((a0.Trees.getD a1.toNat Z7).Calls.getD a2.toNat Z5).Fail, [], []⟩ : Zg)
             else none
            else none
           else none
          else none
         else none
        else none
       else none
      else none
     else none
  else none
 else none
theorem F101_ok (K : Nat) (a0 : Zp) (a1 : Int) (a2 : Int) (a3 : (List Int)) (a4 : (List Int)) (r : Zg) (h : F101 K a0 a1 a2 a3 a4 = some r) : ACall P 101 ⟨[(Zc a0), (.int .i64 a1), (.int .i64 a2), (.sl 1 (a3.map Z13) false), (.sl 1 (a4.map Z13) false)], [], (Z6 r), [], []⟩ := by
 refine Z1q Try.func101 Try.results101 rfl Try.ntmps101 rfl rfl rfl ?_
 intro E Q hP hN hro hret
 obtain ⟨P', nt', w0, F0, p0, S0, β0, ro0⟩ := E
 simp only at hP hN
 subst hP hN
 dsimp only [argT]
 unfold F101 at h
 refine Zf <| Zb <| Z2 I (st_box (v := (Zc a0)) (cs := (Zc a0).cells) I I I I I) I <| Z2 I (st_alloc (cs := [(.int .i64 0), (.int .i64 0), (.int .i64 0), (.int .i64 0), (.int .i64 0), (.int .i64 0), (.str []), (.str []), (.str []), (.int .i64 0), (.int .i64 0), (.bool false), (.sl 4 [] false), (.sl 2 [] false)]) I z38 I I I) I <| Zd <| Ze <| Zf <| Zb ?_
 refine Z2 I (Zr (m := 5) (o := 0) I f46_0 I I) I <| Z2 I (Zz (cs := (Zc a0).cells) (v := (.sl 3 (a0.Trees.map Zq) false)) I o41 I I I) I <| Z2 I (Zh (v := (.int .i64 a1)) I I) I ?_
 have ⟨hg1, h⟩ := Zu h
 refine Z2 I (Z1p (k := .i64) (l := a0.Trees) (enc := Zq) (z := Z7) (n := a1) (cs := (Zq (a0.Trees.getD a1.toNat Z7)).cells) (full := false) I s41 I I hg1 I) I <| Z2 I (st_fieldI (cs := (Zq (a0.Trees.getD a1.toNat Z7)).cells) (ds := [(.sl 11 ((a0.Trees.getD a1.toNat Z7).Calls.map Zk) false)]) I f102_2 I I I) I <| Z2 I (st_loadI (cs := [(.sl 11 ((a0.Trees.getD a1.toNat Z7).Calls.map Zk) false)]) (v := (.sl 11 ((a0.Trees.getD a1.toNat Z7).Calls.map Zk) false)) I o100 I I) I <| Z2 I (Zh (v := (.int .i64 a2)) I I) I ?_
 have ⟨hg2, h⟩ := Zu h
 refine Z2 I (Z1p (k := .i64) (l := (a0.Trees.getD a1.toNat Z7).Calls) (enc := Zk) (z := Z5) (n := a2) (cs := (Zk ((a0.Trees.getD a1.toNat Z7).Calls.getD a2.toNat Z5)).cells) (full := false) I s100 I I hg2 I) I <| Z2 I (st_loadIA (cs := (Zk ((a0.Trees.getD a1.toNat Z7).Calls.getD a2.toNat Z5)).cells) (vs := (Zk ((a0.Trees.getD a1.toNat Z7).Calls.getD a2.toNat Z5)).cells) I a113 I I I) I <| Z2 I (st_alloc (cs := [(.int .u8 0), (.int .u8 0), (.int .u8 0), (.int .u8 0), (.int .u8 0), (.int .u8 0), (.int .u8 0), (.int .u8 0), (.int .u8 0), (.int .u8 0), (.bool false)]) I z113 I I I) I <| Z2 I (Z1m (cs := [(.int .u8 0), (.int .u8 0), (.int .u8 0), (.int .u8 0), (.int .u8 0), (.int .u8 0), (.int .u8 0), (.int .u8 0), (.int .u8 0), (.int .u8 0), (.bool false)]) (vs := (Zk ((a0.Trees.getD a1.toNat Z7).Calls.getD a2.toNat Z5)).cells) (ds := (Zk ((a0.Trees.getD a1.toNat Z7).Calls.getD a2.toNat Z5)).cells) (v := (Zk ((a0.Trees.getD a1.toNat Z7).Calls.getD a2.toNat Z5))) sz113 I I I I I I I I) I <| Zd <| Ze <| Zf <| Z1n mixed ?_
 refine Z9 0 I (Z18 (cs := (Zc a0).cells) (vs := (Zc a0).cells) I a46 I I I I) <| Z9 1 I (Zh (v := (.int .i64 a1)) I I) ?_
 have ⟨v4, hv4, h⟩ := Z16 h
 refine Z9 2 I (Z15 (ar := [(Zc a0), (.int .i64 a1)]) (caps := []) Try.call62 (F62_ok K a0 a1 v4 hv4) I I ⟨rfl, rfl, trivial⟩ I) <| Z9 3 I (Zh (v := (.int .i64 a2)) I I) <| Z9 4 I (Z1a (k := .i64) (a := a2) (b := 1) (c := (IntKind.i64.wrap (a2 + 1))) I I I I) <| Z9 5 I (Zr (m := 11) (o := 0) I f113_1 I I) <| Z9 6 I (Zz (cs := (Zk ((a0.Trees.getD a1.toNat Z7).Calls.getD a2.toNat Z5)).cells) (v := (.int .u8 ((a0.Trees.getD a1.toNat Z7).Calls.getD a2.toNat Z5).Clock)) I o5 I I I) <| Z9 7 I (st_div (k := .u8) (a := ((a0.Trees.getD a1.toNat Z7).Calls.getD a2.toNat Z5).Clock) (b := 4) (c := (((a0.Trees.getD a1.toNat Z7).Calls.getD a2.toNat Z5).Clock.tmod 4)) I I I I (by decide)) <| Z9 8 I (st_conv I us5 u3 I) <| Z9 9 I (Z1a (k := .i64) (a := 1) (b := (IntKind.i64.wrap (((a0.Trees.getD a1.toNat Z7).Calls.getD a2.toNat Z5).Clock.tmod 4))) (c := (IntKind.i64.wrap (1 + (IntKind.i64.wrap (((a0.Trees.getD a1.toNat Z7).Calls.getD a2.toNat Z5).Clock.tmod 4))))) I I I I) ?_
 refine Z9 10 I (Z18 (cs := (Zk ((a0.Trees.getD a1.toNat Z7).Calls.getD a2.toNat Z5)).cells) (vs := (Zk ((a0.Trees.getD a1.toNat Z7).Calls.getD a2.toNat Z5)).cells) I a113 I I I I) ?_
 have ⟨v6, hv6, h⟩ := Z16 h
 refine Z9 11 I (Z15 (ar := [(Zk ((a0.Trees.getD a1.toNat Z7).Calls.getD a2.toNat Z5))]) (caps := []) Try.call126 (F126_ok K ((a0.Trees.getD a1.toNat Z7).Calls.getD a2.toNat Z5) v6 hv6) I I ⟨rfl, trivial⟩ I) <| Z9 12 I (Zr (m := 11) (o := 0) I f113_10 I I) <| Z9 13 I (Zz (cs := (Zk ((a0.Trees.getD a1.toNat Z7).Calls.getD a2.toNat Z5)).cells) (v := (.bool ((a0.Trees.getD a1.toNat Z7).Calls.getD a2.toNat Z5).Fail)) I o4 I I I) <| Z9 14 I (Zh (v := (.sl 1 (a3.map Z13) false)) I I) <| Z9 15 I (Zh (v := (.int .i64 a2)) I I) ?_
 have ⟨hg7, h⟩ := Zu h
 refine Z9 16 I (Z1p (k := .i64) (l := a3) (enc := Z13) (z := 0) (n := a2) (cs := [(.int .i64 (a3.getD a2.toNat 0))]) (full := false) I s87 I I hg7 I) <| Z9 17 I (st_loadI (cs := [(.int .i64 (a3.getD a2.toNat 0))]) (v := (.int .i64 (a3.getD a2.toNat 0))) I o3 I I) <| Z9 18 I (Zh (v := (.sl 1 (a4.map Z13) false)) I I) <| Z9 19 I (Zh (v := (.int .i64 a2)) I I) ?_
 have ⟨hg8, h⟩ := Zu h
 refine Z9 20 I (Z1p (k := .i64) (l := a4) (enc := Z13) (z := 0) (n := a2) (cs := [(.int .i64 (a4.getD a2.toNat 0))]) (full := false) I s87 I I hg8 I) <| Z9 21 I (st_loadI (cs := [(.int .i64 (a4.getD a2.toNat 0))]) (v := (.int .i64 (a4.getD a2.toNat 0))) I o3 I I) <| Z9 22 I (stx_build (vs := [(0, (.int .i64 v4)), (1, (.int .i64 (IntKind.i64.wrap (a2 + 1)))), (4, (.int .i64 (IntKind.i64.wrap (1 + (IntKind.i64.wrap (((a0.Trees.getD a1.toNat Z7).Calls.getD a2.toNat Z5).Clock.tmod 4)))))), (5, (.int .i64 v6)), (11, (.bool ((a0.Trees.getD a1.toNat Z7).Calls.getD a2.toNat Z5).Fail)), (9, (.int .i64 (a3.getD a2.toNat 0))), (10, (.int .i64 (a4.getD a2.toNat 0)))]) (cs := [(.int .i64 v4), (.int .i64 (IntKind.i64.wrap (a2 + 1))), (.int .i64 0), (.int .i64 0), (.int .i64 (IntKind.i64.wrap (1 + (IntKind.i64.wrap (((a0.Trees.getD a1.toNat Z7).Calls.getD a2.toNat Z5).Clock.tmod 4))))), (.int .i64 v6), (.str []), (.str []), (.str []), (.int .i64 (a3.getD a2.toNat 0)), (.int .i64 (a4.getD a2.toNat 0)), (.bool ((a0.Trees.getD a1.toNat Z7).Calls.getD a2.toNat Z5).Fail), (.sl 4 [] false), (.sl 2 [] false)]) I st38 ⟨rfl, rfl, rfl, rfl, rfl, rfl, rfl, rfl, rfl, rfl, rfl, rfl, rfl, rfl, trivial⟩ I) <| Z9 23 I (st_alloc (cs := [(.int .i64 0), (.int .i64 0), (.int .i64 0), (.int .i64 0), (.int .i64 0), (.int .i64 0), (.str []), (.str []), (.str []), (.int .i64 0), (.int .i64 0), (.bool false), (.sl 4 [] false), (.sl 2 [] false)]) I z38 I I I) <| Z9 24 I (Z1m (cs := [(.int .i64 0), (.int .i64 0), (.int .i64 0), (.int .i64 0), (.int .i64 0), (.int .i64 0), (.str []), (.str []), (.str []), (.int .i64 0), (.int .i64 0), (.bool false), (.sl 4 [] false), (.sl 2 [] false)]) (vs := [(.int .i64 v4), (.int .i64 (IntKind.i64.wrap (a2 + 1))), (.int .i64 0), (.int .i64 0), (.int .i64 (IntKind.i64.wrap (1 + (IntKind.i64.wrap (((a0.Trees.getD a1.toNat Z7).Calls.getD a2.toNat Z5).Clock.tmod 4))))), (.int .i64 v6), (.str []), (.str []), (.str []), (.int .i64 (a3.getD a2.toNat 0)), (.int .i64 (a4.getD a2.toNat 0)), (.bool ((a0.Trees.getD a1.toNat Z7).Calls.getD a2.toNat Z5).Fail), (.sl 4 [] false), (.sl 2 [] false)]) (ds := [(.int .i64 v4), (.int .i64 (IntKind.i64.wrap (a2 + 1))), (.int .i64 0), (.int .i64 0), (.int .i64 (IntKind.i64.wrap (1 + (IntKind.i64.wrap (((a0.Trees.getD a1.toNat Z7).Calls.getD a2.toNat Z5).Clock.tmod 4))))), (.int .i64 v6), (.str []), (.str []), (.str []), (.int .i64 (a3.getD a2.toNat 0)), (.int .i64 (a4.getD a2.toNat 0)), (.bool ((a0.Trees.getD a1.toNat Z7).Calls.getD a2.toNat Z5).Fail), (.sl 4 [] false), (.sl 2 [] false)]) (v := (.ag [(.int .i64 v4), (.int .i64 (IntKind.i64.wrap (a2 + 1))), (.int .i64 0), (.int .i64 0), (.int .i64 (IntKind.i64.wrap (1 + (IntKind.i64.wrap (((a0.Trees.getD a1.toNat Z7).Calls.getD a2.toNat Z5).Clock.tmod 4))))), (.int .i64 v6), (.str []), (.str []), (.str []), (.int .i64 (a3.getD a2.toNat 0)), (.int .i64 (a4.getD a2.toNat 0)), (.bool ((a0.Trees.getD a1.toNat Z7).Calls.getD a2.toNat Z5).Fail), (.sl 4 [] false), (.sl 2 [] false)])) sz38 I I I I I I I I) <| Z1l (by kernel_rfl) I <| Ze <| Zf ?_
 refine Zb <| Z2 I (Z1g (vs := [(.str [97, 112, 105]), (.str [100, 98]), (.str [119, 101, 98]), (.str [99, 97, 99, 104, 101])]) (enc := e_str) (l := [[97, 112, 105], [100, 98], [119, 101, 98], [99, 97, 99, 104, 101]]) I el181 I I ⟨rfl, rfl, rfl, rfl, trivial⟩ I els_str I I I I) I <| Z2 I (Zr (m := 11) (o := 0) I f113_3 I I) I <| Z2 I (Zz (cs := (Zk ((a0.Trees.getD a1.toNat Z7).Calls.getD a2.toNat Z5)).cells) (v := (.int .u8 ((a0.Trees.getD a1.toNat Z7).Calls.getD a2.toNat Z5).Service)) I o5 I I I) I <| Z2 I (st_div (k := .u8) (a := ((a0.Trees.getD a1.toNat Z7).Calls.getD a2.toNat Z5).Service) (b := 4) (c := (((a0.Trees.getD a1.toNat Z7).Calls.getD a2.toNat Z5).Service.tmod 4)) I I I I (by decide)) I ?_
 have ⟨hg9, h⟩ := Zu h
 refine Z2 I (st_indexV (k := .u8) (v := (.vs 47)) (n := 47) (off := 0) (len := ([[97, 112, 105], [100, 98], [119, 101, 98], [99, 97, 99, 104, 101]]).length) (es := (List.map e_str ([[97, 112, 105], [100, 98], [119, 101, 98], [99, 97, 99, 104, 101]]))) (j := (((a0.Trees.getD a1.toNat Z7).Calls.getD a2.toNat Z5).Service.tmod 4)) (m := (((a0.Trees.getD a1.toNat Z7).Calls.getD a2.toNat Z5).Service.tmod 4).toNat) I s181 I I (vecR_map _ _ _) I hg9 (Nat.zero_add _)) I ?_
 have ⟨hg10, h⟩ := Zu h
 refine Z2 I (st_loadV (l := ([[97, 112, 105], [100, 98], [119, 101, 98], [99, 97, 99, 104, 101]])) (enc := e_str) (z := []) (v := (.str (([[97, 112, 105], [100, 98], [119, 101, 98], [99, 97, 99, 104, 101]]).getD (((a0.Trees.getD a1.toNat Z7).Calls.getD a2.toNat Z5).Service.tmod 4).toNat []))) I o9 I I hg10 I) I <| Z2 I (Zr (m := 12) (o := 0) I f38_6 I I) I <| Z2 I (Z1m (cs := [(.int .i64 v4), (.int .i64 (IntKind.i64.wrap (a2 + 1))), (.int .i64 0), (.int .i64 0), (.int .i64 (IntKind.i64.wrap (1 + (IntKind.i64.wrap (((a0.Trees.getD a1.toNat Z7).Calls.getD a2.toNat Z5).Clock.tmod 4))))), (.int .i64 v6), (.str []), (.str []), (.str []), (.int .i64 (a3.getD a2.toNat 0)), (.int .i64 (a4.getD a2.toNat 0)), (.bool ((a0.Trees.getD a1.toNat Z7).Calls.getD a2.toNat Z5).Fail), (.sl 4 [] false), (.sl 2 [] false)]) (vs := [(.str (([[97, 112, 105], [100, 98], [119, 101, 98], [99, 97, 99, 104, 101]]).getD (((a0.Trees.getD a1.toNat Z7).Calls.getD a2.toNat Z5).Service.tmod 4).toNat []))]) (ds := [(.int .i64 v4), (.int .i64 (IntKind.i64.wrap (a2 + 1))), (.int .i64 0), (.int .i64 0), (.int .i64 (IntKind.i64.wrap (1 + (IntKind.i64.wrap (((a0.Trees.getD a1.toNat Z7).Calls.getD a2.toNat Z5).Clock.tmod 4))))), (.int .i64 v6), (.str (([[97, 112, 105], [100, 98], [119, 101, 98], [99, 97, 99, 104, 101]]).getD (((a0.Trees.getD a1.toNat Z7).Calls.getD a2.toNat Z5).Service.tmod 4).toNat [])), (.str []), (.str []), (.int .i64 (a3.getD a2.toNat 0)), (.int .i64 (a4.getD a2.toNat 0)), (.bool ((a0.Trees.getD a1.toNat Z7).Calls.getD a2.toNat Z5).Fail), (.sl 4 [] false), (.sl 2 [] false)]) (v := (.str (([[97, 112, 105], [100, 98], [119, 101, 98], [99, 97, 99, 104, 101]]).getD (((a0.Trees.getD a1.toNat Z7).Calls.getD a2.toNat Z5).Service.tmod 4).toNat []))) sz9 I I I I I I I I) I <| Zd <| Ze <| Zf <| Zb <| Z2 I (Z1g (vs := [(.str [118, 49]), (.str [118, 50]), (.str [])]) (enc := e_str) (l := [[118, 49], [118, 50], []]) I el181 I I ⟨rfl, rfl, rfl, trivial⟩ I els_str I I I I) I ?_
 refine Z2 I (Zr (m := 11) (o := 0) I f113_4 I I) I <| Z2 I (Zz (cs := (Zk ((a0.Trees.getD a1.toNat Z7).Calls.getD a2.toNat Z5)).cells) (v := (.int .u8 ((a0.Trees.getD a1.toNat Z7).Calls.getD a2.toNat Z5).Version)) I o5 I I I) I <| Z2 I (st_div (k := .u8) (a := ((a0.Trees.getD a1.toNat Z7).Calls.getD a2.toNat Z5).Version) (b := 3) (c := (((a0.Trees.getD a1.toNat Z7).Calls.getD a2.toNat Z5).Version.tmod 3)) I I I I (by decide)) I ?_
 have ⟨hg11, h⟩ := Zu h
 refine Z2 I (st_indexV (k := .u8) (v := (.vs 54)) (n := 54) (off := 0) (len := ([[118, 49], [118, 50], []]).length) (es := (List.map e_str ([[118, 49], [118, 50], []]))) (j := (((a0.Trees.getD a1.toNat Z7).Calls.getD a2.toNat Z5).Version.tmod 3)) (m := (((a0.Trees.getD a1.toNat Z7).Calls.getD a2.toNat Z5).Version.tmod 3).toNat) I s181 I I (vecR_map _ _ _) I hg11 (Nat.zero_add _)) I ?_
 have ⟨hg12, h⟩ := Zu h
 refine Z2 I (st_loadV (l := ([[118, 49], [118, 50], []])) (enc := e_str) (z := []) (v := (.str (([[118, 49], [118, 50], []]).getD (((a0.Trees.getD a1.toNat Z7).Calls.getD a2.toNat Z5).Version.tmod 3).toNat []))) I o9 I I hg12 I) I <| Z2 I (Zr (m := 12) (o := 0) I f38_7 I I) I <| Z2 I (Z1m (cs := [(.int .i64 v4), (.int .i64 (IntKind.i64.wrap (a2 + 1))), (.int .i64 0), (.int .i64 0), (.int .i64 (IntKind.i64.wrap (1 + (IntKind.i64.wrap (((a0.Trees.getD a1.toNat Z7).Calls.getD a2.toNat Z5).Clock.tmod 4))))), (.int .i64 v6), (.str (([[97, 112, 105], [100, 98], [119, 101, 98], [99, 97, 99, 104, 101]]).getD (((a0.Trees.getD a1.toNat Z7).Calls.getD a2.toNat Z5).Service.tmod 4).toNat [])), (.str []), (.str []), (.int .i64 (a3.getD a2.toNat 0)), (.int .i64 (a4.getD a2.toNat 0)), (.bool ((a0.Trees.getD a1.toNat Z7).Calls.getD a2.toNat Z5).Fail), (.sl 4 [] false), (.sl 2 [] false)]) (vs := [(.str (([[118, 49], [118, 50], []]).getD (((a0.Trees.getD a1.toNat Z7).Calls.getD a2.toNat Z5).Version.tmod 3).toNat []))]) (ds := [(.int .i64 v4), (.int .i64 (IntKind.i64.wrap (a2 + 1))), (.int .i64 0), (.int .i64 0), (.int .i64 (IntKind.i64.wrap (1 + (IntKind.i64.wrap (((a0.Trees.getD a1.toNat Z7).Calls.getD a2.toNat Z5).Clock.tmod 4))))), (.int .i64 v6), (.str (([[97, 112, 105], [100, 98], [119, 101, 98], [99, 97, 99, 104, 101]]).getD (((a0.Trees.getD a1.toNat Z7).Calls.getD a2.toNat Z5).Service.tmod 4).toNat [])), (.str (([[118, 49], [118, 50], []]).getD (((a0.Trees.getD a1.toNat Z7).Calls.getD a2.toNat Z5).Version.tmod 3).toNat [])), (.str []), (.int .i64 (a3.getD a2.toNat 0)), (.int .i64 (a4.getD a2.toNat 0)), (.bool ((a0.Trees.getD a1.toNat Z7).Calls.getD a2.toNat Z5).Fail), (.sl 4 [] false), (.sl 2 [] false)]) (v := (.str (([[118, 49], [118, 50], []]).getD (((a0.Trees.getD a1.toNat Z7).Calls.getD a2.toNat Z5).Version.tmod 3).toNat []))) sz9 I I I I I I I I) I <| Zd <| Ze <| Zf <| Zb <| Z2 I (Z1g (vs := [(.str [103, 101, 116]), (.str [112, 117, 116]), (.str [108, 105, 115, 116])]) (enc := e_str) (l := [[103, 101, 116], [112, 117, 116], [108, 105, 115, 116]]) I el181 I I ⟨rfl, rfl, rfl, trivial⟩ I els_str I I I I) I ?_
 refine Z2 I (Zr (m := 11) (o := 0) I f113_5 I I) I <| Z2 I (Zz (cs := (Zk ((a0.Trees.getD a1.toNat Z7).Calls.getD a2.toNat Z5)).cells) (v := (.int .u8 ((a0.Trees.getD a1.toNat Z7).Calls.getD a2.toNat Z5).Operation)) I o5 I I I) I <| Z2 I (st_div (k := .u8) (a := ((a0.Trees.getD a1.toNat Z7).Calls.getD a2.toNat Z5).Operation) (b := 3) (c := (((a0.Trees.getD a1.toNat Z7).Calls.getD a2.toNat Z5).Operation.tmod 3)) I I I I (by decide)) I ?_
 have ⟨hg13, h⟩ := Zu h
 refine Z2 I (st_indexV (k := .u8) (v := (.vs 61)) (n := 61) (off := 0) (len := ([[103, 101, 116], [112, 117, 116], [108, 105, 115, 116]]).length) (es := (List.map e_str ([[103, 101, 116], [112, 117, 116], [108, 105, 115, 116]]))) (j := (((a0.Trees.getD a1.toNat Z7).Calls.getD a2.toNat Z5).Operation.tmod 3)) (m := (((a0.Trees.getD a1.toNat Z7).Calls.getD a2.toNat Z5).Operation.tmod 3).toNat) I s181 I I (vecR_map _ _ _) I hg13 (Nat.zero_add _)) I ?_
 have ⟨hg14, h⟩ := Zu h
 refine Z2 I (st_loadV (l := ([[103, 101, 116], [112, 117, 116], [108, 105, 115, 116]])) (enc := e_str) (z := []) (v := (.str (([[103, 101, 116], [112, 117, 116], [108, 105, 115, 116]]).getD (((a0.Trees.getD a1.toNat Z7).Calls.getD a2.toNat Z5).Operation.tmod 3).toNat []))) I o9 I I hg14 I) I <| Z2 I (Zr (m := 12) (o := 0) I f38_8 I I) I <| Z2 I (Z1m (cs := [(.int .i64 v4), (.int .i64 (IntKind.i64.wrap (a2 + 1))), (.int .i64 0), (.int .i64 0), (.int .i64 (IntKind.i64.wrap (1 + (IntKind.i64.wrap (((a0.Trees.getD a1.toNat Z7).Calls.getD a2.toNat Z5).Clock.tmod 4))))), (.int .i64 v6), (.str (([[97, 112, 105], [100, 98], [119, 101, 98], [99, 97, 99, 104, 101]]).getD (((a0.Trees.getD a1.toNat Z7).Calls.getD a2.toNat Z5).Service.tmod 4).toNat [])), (.str (([[118, 49], [118, 50], []]).getD (((a0.Trees.getD a1.toNat Z7).Calls.getD a2.toNat Z5).Version.tmod 3).toNat [])), (.str []), (.int .i64 (a3.getD a2.toNat 0)), (.int .i64 (a4.getD a2.toNat 0)), (.bool ((a0.Trees.getD a1.toNat Z7).Calls.getD a2.toNat Z5).Fail), (.sl 4 [] false), (.sl 2 [] false)]) (vs := [(.str (([[103, 101, 116], [112, 117, 116], [108, 105, 115, 116]]).getD (((a0.Trees.getD a1.toNat Z7).Calls.getD a2.toNat Z5).Operation.tmod 3).toNat []))]) (ds := [(.int .i64 v4), (.int .i64 (IntKind.i64.wrap (a2 + 1))), (.int .i64 0), (.int .i64 0), (.int .i64 (IntKind.i64.wrap (1 + (IntKind.i64.wrap (((a0.Trees.getD a1.toNat Z7).Calls.getD a2.toNat Z5).Clock.tmod 4))))), (.int .i64 v6), (.str (([[97, 112, 105], [100, 98], [119, 101, 98], [99, 97, 99, 104, 101]]).getD (((a0.Trees.getD a1.toNat Z7).Calls.getD a2.toNat Z5).Service.tmod 4).toNat [])), (.str (([[118, 49], [118, 50], []]).getD (((a0.Trees.getD a1.toNat Z7).Calls.getD a2.toNat Z5).Version.tmod 3).toNat [])), (.str (([[103, 101, 116], [112, 117, 116], [108, 105, 115, 116]]).getD (((a0.Trees.getD a1.toNat Z7).Calls.getD a2.toNat Z5).Operation.tmod 3).toNat [])), (.int .i64 (a3.getD a2.toNat 0)), (.int .i64 (a4.getD a2.toNat 0)), (.bool ((a0.Trees.getD a1.toNat Z7).Calls.getD a2.toNat Z5).Fail), (.sl 4 [] false), (.sl 2 [] false)]) (v := (.str (([[103, 101, 116], [112, 117, 116], [108, 105, 115, 116]]).getD (((a0.Trees.getD a1.toNat Z7).Calls.getD a2.toNat Z5).Operation.tmod 3).toNat []))) sz9 I I I I I I I I) I <| Zd <| Ze <| Zf <| Zf <| Zb ?_
 refine Z2 I (Zr (m := 11) (o := 0) I f113_0 I I) I <| Z2 I (Zz (cs := (Zk ((a0.Trees.getD a1.toNat Z7).Calls.getD a2.toNat Z5)).cells) (v := (.int .u8 ((a0.Trees.getD a1.toNat Z7).Calls.getD a2.toNat Z5).Parent)) I o5 I I I) I <| Z2 I (st_conv I us5 u3 I) I <| Z2 I (Zh (v := (.int .i64 a2)) I I) I <| Z2 I (Z1a (k := .i64) (a := a2) (b := 1) (c := (IntKind.i64.wrap (a2 + 1))) I I I I) I ?_
 have ⟨hg15, h⟩ := Zu h
 refine Z2 I (st_div (k := .i64) (a := (IntKind.i64.wrap ((a0.Trees.getD a1.toNat Z7).Calls.getD a2.toNat Z5).Parent)) (b := (IntKind.i64.wrap (a2 + 1))) (c := ((IntKind.i64.wrap ((a0.Trees.getD a1.toNat Z7).Calls.getD a2.toNat Z5).Parent).tmod (IntKind.i64.wrap (a2 + 1)))) I I I I hg15) I <| Z2 I (Zi (v := (.int .i64 ((IntKind.i64.wrap ((a0.Trees.getD a1.toNat Z7).Calls.getD a2.toNat Z5).Parent).tmod (IntKind.i64.wrap (a2 + 1))))) I I) I <| Zd <| Ze <| Zf <| Zb <| Z2 I (Zh (v := (.int .i64 ((IntKind.i64.wrap ((a0.Trees.getD a1.toNat Z7).Calls.getD a2.toNat Z5).Parent).tmod (IntKind.i64.wrap (a2 + 1))))) I I) I <| Z2 I (Zh (v := (.int .i64 a2)) I I) I ?_
 refine Z2 I (Z1k (k := .i64) (a := ((IntKind.i64.wrap ((a0.Trees.getD a1.toNat Z7).Calls.getD a2.toNat Z5).Parent).tmod (IntKind.i64.wrap (a2 + 1)))) (b := a2) (c := (decide (((IntKind.i64.wrap ((a0.Trees.getD a1.toNat Z7).Calls.getD a2.toNat Z5).Parent).tmod (IntKind.i64.wrap (a2 + 1))) < a2))) I I I I) I <| Zd <| Ze ?_
 refine AWp.join (V := Zg) (lp := fun v => F101_j17 K a0 a1 a2 a3 v = some r) (sh := fun v => ⟨[(2, (.int .i64 a2)), (3, (.sl 1 (a3.map Z13) false)), (10, (.ptr 10 0)), (11, (.ptr 11 0)), (12, (.ptr 12 0))], [(10, (.box [(.int .i64 0), (.int .i64 0), (.int .i64 0), (.int .i64 0), (.int .i64 0), (.int .i64 0), (.str []), (.str []), (.str []), (.int .i64 0), (.int .i64 0), (.bool false), (.sl 4 [] false), (.sl 2 [] false)])), (11, (.box (Zk ((a0.Trees.getD a1.toNat Z7).Calls.getD a2.toNat Z5)).cells)), (12, (.box (Z6 v).cells))]⟩) ?_ ?_
 ·intro v h
  revert h
  revert v
  intro v16 h
  try dsimp only at h ⊢
  unfold F101_j17 at h
  refine Ze <| Zf <| Zf <| Zb <| Z2 I (Zr (m := 11) (o := 0) I f113_8 I I) I <| Z2 I (Zz (cs := (Zk ((a0.Trees.getD a1.toNat Z7).Calls.getD a2.toNat Z5)).cells) (v := (.int .u8 ((a0.Trees.getD a1.toNat Z7).Calls.getD a2.toNat Z5).Link)) I o5 I I I) I <| Z2 I (st_div (k := .u8) (a := ((a0.Trees.getD a1.toNat Z7).Calls.getD a2.toNat Z5).Link) (b := 16) (c := (((a0.Trees.getD a1.toNat Z7).Calls.getD a2.toNat Z5).Link.tmod 16)) I I I I (by decide)) I <| Z2 I (st_conv I us5 u3 I) I ?_
  refine Z2 I (Zi (v := (.int .i64 (IntKind.i64.wrap (((a0.Trees.getD a1.toNat Z7).Calls.getD a2.toNat Z5).Link.tmod 16)))) I I) I <| Zd <| Ze <| Zf <| Z1n mixed <| Z9 0 I (Zh (v := (.int .i64 (IntKind.i64.wrap (((a0.Trees.getD a1.toNat Z7).Calls.getD a2.toNat Z5).Link.tmod 16)))) I I) <| Z9 1 I (Zh (v := (.int .i64 a2)) I I) <| Z9 2 I (Z1k (k := .i64) (a := (IntKind.i64.wrap (((a0.Trees.getD a1.toNat Z7).Calls.getD a2.toNat Z5).Link.tmod 16))) (b := a2) (c := (decide ((IntKind.i64.wrap (((a0.Trees.getD a1.toNat Z7).Calls.getD a2.toNat Z5).Link.tmod 16)) < a2))) I I I I) ?_
  refine Z9 3 I (Zh (v := (.bool (decide ((IntKind.i64.wrap (((a0.Trees.getD a1.toNat Z7).Calls.getD a2.toNat Z5).Link.tmod 16)) < a2)))) I I) ?_
  have hif := Z1u h
  refine AOpsD.split (fun hc => ?_) (fun hc => ?_)
  ·have h := hif.1 hc
   refine Zo 4 I I I I (Zh (v := (.sl 1 (a3.map Z13) false)) I I) <| Zo 5 I I I I (Zh (v := (.int .i64 (IntKind.i64.wrap (((a0.Trees.getD a1.toNat Z7).Calls.getD a2.toNat Z5).Link.tmod 16)))) I I) ?_
   have ⟨hg18, h⟩ := Zu h
   refine Zo 6 I I I I (Z1p (k := .i64) (l := a3) (enc := Z13) (z := 0) (n := (IntKind.i64.wrap (((a0.Trees.getD a1.toNat Z7).Calls.getD a2.toNat Z5).Link.tmod 16))) (cs := [(.int .i64 (a3.getD (IntKind.i64.wrap (((a0.Trees.getD a1.toNat Z7).Calls.getD a2.toNat Z5).Link.tmod 16)).toNat 0))]) (full := false) I s87 I I hg18 I) <| Zo 7 I I I I (st_loadI (cs := [(.int .i64 (a3.getD (IntKind.i64.wrap (((a0.Trees.getD a1.toNat Z7).Calls.getD a2.toNat Z5).Link.tmod 16)).toNat 0))]) (v := (.int .i64 (a3.getD (IntKind.i64.wrap (((a0.Trees.getD a1.toNat Z7).Calls.getD a2.toNat Z5).Link.tmod 16)).toNat 0))) I o3 I I) <| Zo 8 I I I I (Zh (v := (.sl 1 (a3.map Z13) false)) I I) <| Zo 9 I I I I (Zh (v := (.int .i64 a2)) I I) ?_
   have ⟨hg19, h⟩ := Zu h
   refine Zo 10 I I I I (Z1p (k := .i64) (l := a3) (enc := Z13) (z := 0) (n := a2) (cs := [(.int .i64 (a3.getD a2.toNat 0))]) (full := false) I s87 I I hg19 I) <| Zo 11 I I I I (st_loadI (cs := [(.int .i64 (a3.getD a2.toNat 0))]) (v := (.int .i64 (a3.getD a2.toNat 0))) I o3 I I) <| Zo 12 I I I I (Z1k (k := .i64) (a := (a3.getD (IntKind.i64.wrap (((a0.Trees.getD a1.toNat Z7).Calls.getD a2.toNat Z5).Link.tmod 16)).toNat 0)) (b := (a3.getD a2.toNat 0)) (c := (decide ((a3.getD (IntKind.i64.wrap (((a0.Trees.getD a1.toNat Z7).Calls.getD a2.toNat Z5).Link.tmod 16)).toNat 0) ≤ (a3.getD a2.toNat 0)))) I I I I) <| Z9 13 I (st_pickT (v := (.bool (decide ((a3.getD (IntKind.i64.wrap (((a0.Trees.getD a1.toNat Z7).Calls.getD a2.toNat Z5).Link.tmod 16)).toNat 0) ≤ (a3.getD a2.toNat 0))))) I I I) <| Z1l (by kernel_rfl) I <| Ze ?_
   refine AWp.join (V := (List Zs)) (lp := fun v => F101_j21 K a0 a1 a2 v16 v = some r) (sh := fun v => ⟨[(10, (.ptr 10 0)), (11, (.ptr 11 0)), (12, (.ptr 12 0))], [(10, (.box [(.int .i64 0), (.int .i64 0), (.int .i64 0), (.int .i64 0), (.int .i64 0), (.int .i64 0), (.str []), (.str []), (.str []), (.int .i64 0), (.int .i64 0), (.bool false), (.sl 4 [] false), (.sl 2 [] false)])), (11, (.box (Zk ((a0.Trees.getD a1.toNat Z7).Calls.getD a2.toNat Z5)).cells)), (12, (.box [(.int .i64 v16.Trace), (.int .i64 v16.Id), (.int .i64 v16.Parent), (.int .i64 v16.Revision), (.int .i64 v16.Clock), (.int .i64 v16.Kind), (.str v16.Service), (.str v16.Version), (.str v16.Operation), (.int .i64 v16.Start), (.int .i64 v16.End), (.bool v16.Error), (.sl 4 (v16.Attrs.map Zx) false), (.sl 2 (v.map Zj) false)]))]⟩) ?_ ?_
   ·intro v h
    revert h
    revert v
    intro v20 h
    try dsimp only at h ⊢
    unfold F101_j21 at h
    refine Ze <| Zf <| Zb <| Z2 I (Z18 (cs := (Zk ((a0.Trees.getD a1.toNat Z7).Calls.getD a2.toNat Z5)).cells) (vs := (Zk ((a0.Trees.getD a1.toNat Z7).Calls.getD a2.toNat Z5)).cells) I a113 I I I I) I ?_
    have ⟨v23, hv23, h⟩ := Z16 h
    refine Z2 I (Z15 (ar := [(Zk ((a0.Trees.getD a1.toNat Z7).Calls.getD a2.toNat Z5))]) (caps := []) Try.call127 (F127_ok K ((a0.Trees.getD a1.toNat Z7).Calls.getD a2.toNat Z5) v23 hv23) I I ⟨rfl, trivial⟩ I) I <| Z2 I (Zr (m := 12) (o := 0) I f38_12 I I) I <| Z2 I (Z1m (cs := [(.int .i64 v16.Trace), (.int .i64 v16.Id), (.int .i64 v16.Parent), (.int .i64 v16.Revision), (.int .i64 v16.Clock), (.int .i64 v16.Kind), (.str v16.Service), (.str v16.Version), (.str v16.Operation), (.int .i64 v16.Start), (.int .i64 v16.End), (.bool v16.Error), (.sl 4 (v16.Attrs.map Zx) false), (.sl 2 (v20.map Zj) false)]) (vs := [(.sl 4 (v23.map Zx) false)]) (ds := [(.int .i64 v16.Trace), (.int .i64 v16.Id), (.int .i64 v16.Parent), (.int .i64 v16.Revision), (.int .i64 v16.Clock), (.int .i64 v16.Kind), (.str v16.Service), (.str v16.Version), (.str v16.Operation), (.int .i64 v16.Start), (.int .i64 v16.End), (.bool v16.Error), (.sl 4 (v23.map Zx) false), (.sl 2 (v20.map Zj) false)]) (v := (.sl 4 (v23.map Zx) false)) sz35 I I I I I I I I) I <| Zd <| Ze <| Zf <| Zb <| Z2 I (Z18 (cs := [(.int .i64 v16.Trace), (.int .i64 v16.Id), (.int .i64 v16.Parent), (.int .i64 v16.Revision), (.int .i64 v16.Clock), (.int .i64 v16.Kind), (.str v16.Service), (.str v16.Version), (.str v16.Operation), (.int .i64 v16.Start), (.int .i64 v16.End), (.bool v16.Error), (.sl 4 (v23.map Zx) false), (.sl 2 (v20.map Zj) false)]) (vs := [(.int .i64 v16.Trace), (.int .i64 v16.Id), (.int .i64 v16.Parent), (.int .i64 v16.Revision), (.int .i64 v16.Clock), (.int .i64 v16.Kind), (.str v16.Service), (.str v16.Version), (.str v16.Operation), (.int .i64 v16.Start), (.int .i64 v16.End), (.bool v16.Error), (.sl 4 (v23.map Zx) false), (.sl 2 (v20.map Zj) false)]) I a38 I I I I) I ?_
    refine Z2 I (Z1m (cs := [(.int .i64 0), (.int .i64 0), (.int .i64 0), (.int .i64 0), (.int .i64 0), (.int .i64 0), (.str []), (.str []), (.str []), (.int .i64 0), (.int .i64 0), (.bool false), (.sl 4 [] false), (.sl 2 [] false)]) (vs := [(.int .i64 v16.Trace), (.int .i64 v16.Id), (.int .i64 v16.Parent), (.int .i64 v16.Revision), (.int .i64 v16.Clock), (.int .i64 v16.Kind), (.str v16.Service), (.str v16.Version), (.str v16.Operation), (.int .i64 v16.Start), (.int .i64 v16.End), (.bool v16.Error), (.sl 4 (v23.map Zx) false), (.sl 2 (v20.map Zj) false)]) (ds := [(.int .i64 v16.Trace), (.int .i64 v16.Id), (.int .i64 v16.Parent), (.int .i64 v16.Revision), (.int .i64 v16.Clock), (.int .i64 v16.Kind), (.str v16.Service), (.str v16.Version), (.str v16.Operation), (.int .i64 v16.Start), (.int .i64 v16.End), (.bool v16.Error), (.sl 4 (v23.map Zx) false), (.sl 2 (v20.map Zj) false)]) (v := (.ag [(.int .i64 v16.Trace), (.int .i64 v16.Id), (.int .i64 v16.Parent), (.int .i64 v16.Revision), (.int .i64 v16.Clock), (.int .i64 v16.Kind), (.str v16.Service), (.str v16.Version), (.str v16.Operation), (.int .i64 v16.Start), (.int .i64 v16.End), (.bool v16.Error), (.sl 4 (v23.map Zx) false), (.sl 2 (v20.map Zj) false)])) sz38 I I I I I I I I) I <| Zd <| Ze <| Z1d ?_
    have h := Option.some.inj h
    subst h
    refine (hret _ ?_).1
    exact ⟨[(.ag [(.int .i64 v16.Trace), (.int .i64 v16.Id), (.int .i64 v16.Parent), (.int .i64 v16.Revision), (.int .i64 v16.Clock), (.int .i64 v16.Kind), (.str v16.Service), (.str v16.Version), (.str v16.Operation), (.int .i64 v16.Start), (.int .i64 v16.End), (.bool v16.Error), (.sl 4 (v23.map Zx) false), (.sl 2 (v20.map Zj) false)])], ⟨⟨10, _, rfl, rfl, .inr ⟨_, a38, rfl, rfl⟩⟩, trivial⟩, rfl, trivial⟩
   ·intro J21
    have hif := Z1u h
    refine Z12 I (fun hc => ?_) (fun hc => ?_)
    ·have h := hif.1 hc
     refine Zb <| Z2 I (Zr (m := 12) (o := 0) I f38_0 I I) I <| Z2 I (Zz (cs := (Z6 v16).cells) (v := (.int .i64 v16.Trace)) I o3 I I I) I <| Z2 I (Zh (v := (.int .i64 (IntKind.i64.wrap (((a0.Trees.getD a1.toNat Z7).Calls.getD a2.toNat Z5).Link.tmod 16)))) I I) I <| Z2 I (Z1a (k := .i64) (a := (IntKind.i64.wrap (((a0.Trees.getD a1.toNat Z7).Calls.getD a2.toNat Z5).Link.tmod 16))) (b := 1) (c := (IntKind.i64.wrap ((IntKind.i64.wrap (((a0.Trees.getD a1.toNat Z7).Calls.getD a2.toNat Z5).Link.tmod 16)) + 1))) I I I I) I <| Z2 I (stx_build (vs := [(0, (.int .i64 v16.Trace)), (1, (.int .i64 (IntKind.i64.wrap ((IntKind.i64.wrap (((a0.Trees.getD a1.toNat Z7).Calls.getD a2.toNat Z5).Link.tmod 16)) + 1))))]) (cs := [(.int .i64 v16.Trace), (.int .i64 (IntKind.i64.wrap ((IntKind.i64.wrap (((a0.Trees.getD a1.toNat Z7).Calls.getD a2.toNat Z5).Link.tmod 16)) + 1)))]) I st23 ⟨rfl, rfl, rfl, rfl, trivial⟩ I) I <| Z2 I (Z1g (vs := [(.ag [(.int .i64 v16.Trace), (.int .i64 (IntKind.i64.wrap ((IntKind.i64.wrap (((a0.Trees.getD a1.toNat Z7).Calls.getD a2.toNat Z5).Link.tmod 16)) + 1)))])]) (enc := Zj) (l := [(⟨v16.Trace, (IntKind.i64.wrap ((IntKind.i64.wrap (((a0.Trees.getD a1.toNat Z7).Calls.getD a2.toNat Z5).Link.tmod 16)) + 1))⟩ : Zs)]) I el36 I I ⟨rfl, trivial⟩ I els_Tapi_Ref I I I I) I <| Z2 I (Zr (m := 12) (o := 0) I f38_13 I I) I ?_
     refine Z2 I (Z1m (cs := (Z6 v16).cells) (vs := [(.vs 106)]) (ds := [(.int .i64 v16.Trace), (.int .i64 v16.Id), (.int .i64 v16.Parent), (.int .i64 v16.Revision), (.int .i64 v16.Clock), (.int .i64 v16.Kind), (.str v16.Service), (.str v16.Version), (.str v16.Operation), (.int .i64 v16.Start), (.int .i64 v16.End), (.bool v16.Error), (.sl 4 (v16.Attrs.map Zx) false), (.vs 106)]) (v := (.vs 106)) sz36 I I I I I I I I) I <| Zd <| At.ghost (st' := ⟨[(10, (.ptr 10 0)), (11, (.ptr 11 0)), (12, (.ptr 12 0))], [(10, (.box [(.int .i64 0), (.int .i64 0), (.int .i64 0), (.int .i64 0), (.int .i64 0), (.int .i64 0), (.str []), (.str []), (.str []), (.int .i64 0), (.int .i64 0), (.bool false), (.sl 4 [] false), (.sl 2 [] false)])), (11, (.box (Zk ((a0.Trees.getD a1.toNat Z7).Calls.getD a2.toNat Z5)).cells)), (12, (.box [(.int .i64 v16.Trace), (.int .i64 v16.Id), (.int .i64 v16.Parent), (.int .i64 v16.Revision), (.int .i64 v16.Clock), (.int .i64 v16.Kind), (.str v16.Service), (.str v16.Version), (.str v16.Operation), (.int .i64 v16.Start), (.int .i64 v16.End), (.bool v16.Error), (.sl 4 (v16.Attrs.map Zx) false), (.sl 2 ([(⟨v16.Trace, (IntKind.i64.wrap ((IntKind.i64.wrap (((a0.Trees.getD a1.toNat Z7).Calls.getD a2.toNat Z5).Link.tmod 16)) + 1))⟩ : Zs)].map Zj) false)]))]⟩) (fun a w h => (Z19 ⟨[(10, (.ptr 10 0)), (11, (.ptr 11 0)), (12, (.ptr 12 0))], [(10, (.box [(.int .i64 0), (.int .i64 0), (.int .i64 0), (.int .i64 0), (.int .i64 0), (.int .i64 0), (.str []), (.str []), (.str []), (.int .i64 0), (.int .i64 0), (.bool false), (.sl 4 [] false), (.sl 2 [] false)])), (11, (.box (Zk ((a0.Trees.getD a1.toNat Z7).Calls.getD a2.toNat Z5)).cells)), (12, (.box [(.int .i64 v16.Trace), (.int .i64 v16.Id), (.int .i64 v16.Parent), (.int .i64 v16.Revision), (.int .i64 v16.Clock), (.int .i64 v16.Kind), (.str v16.Service), (.str v16.Version), (.str v16.Operation), (.int .i64 v16.Start), (.int .i64 v16.End), (.bool v16.Error), (.sl 4 (v16.Attrs.map Zx) false), (.sl 2 ([(⟨v16.Trace, (IntKind.i64.wrap ((IntKind.i64.wrap (((a0.Trees.getD a1.toNat Z7).Calls.getD a2.toNat Z5).Link.tmod 16)) + 1))⟩ : Zs)].map Zj) false)]))]⟩ (ghost_freeze (m := 106) (sz := 2) (es := (List.map Zj [(⟨v16.Trace, (IntKind.i64.wrap ((IntKind.i64.wrap (((a0.Trees.getD a1.toNat Z7).Calls.getD a2.toNat Z5).Link.tmod 16)) + 1))⟩ : Zs)])) a w (Z19 ⟨[(10, (.ptr 10 0)), (11, (.ptr 11 0)), (12, (.ptr 12 0))], [(106, (.vec 2 (List.map Zj [(⟨v16.Trace, (IntKind.i64.wrap ((IntKind.i64.wrap (((a0.Trees.getD a1.toNat Z7).Calls.getD a2.toNat Z5).Link.tmod 16)) + 1))⟩ : Zs)]))), (10, (.box [(.int .i64 0), (.int .i64 0), (.int .i64 0), (.int .i64 0), (.int .i64 0), (.int .i64 0), (.str []), (.str []), (.str []), (.int .i64 0), (.int .i64 0), (.bool false), (.sl 4 [] false), (.sl 2 [] false)])), (11, (.box (Zk ((a0.Trees.getD a1.toNat Z7).Calls.getD a2.toNat Z5)).cells)), (12, (.box [(.int .i64 v16.Trace), (.int .i64 v16.Id), (.int .i64 v16.Parent), (.int .i64 v16.Revision), (.int .i64 v16.Clock), (.int .i64 v16.Kind), (.str v16.Service), (.str v16.Version), (.str v16.Operation), (.int .i64 v16.Start), (.int .i64 v16.End), (.bool v16.Error), (.sl 4 (v16.Attrs.map Zx) false), (.vs 106)]))]⟩ h ⟨rfl, rfl, rfl, trivial⟩ ⟨rfl, rfl, rfl, rfl, trivial⟩)) ⟨rfl, rfl, rfl, trivial⟩ ⟨rfl, rfl, rfl, trivial⟩)) ?_
     exact Zw (st' := ⟨[(10, (.ptr 10 0)), (11, (.ptr 11 0)), (12, (.ptr 12 0))], [(10, (.box [(.int .i64 0), (.int .i64 0), (.int .i64 0), (.int .i64 0), (.int .i64 0), (.int .i64 0), (.str []), (.str []), (.str []), (.int .i64 0), (.int .i64 0), (.bool false), (.sl 4 [] false), (.sl 2 [] false)])), (11, (.box (Zk ((a0.Trees.getD a1.toNat Z7).Calls.getD a2.toNat Z5)).cells)), (12, (.box [(.int .i64 v16.Trace), (.int .i64 v16.Id), (.int .i64 v16.Parent), (.int .i64 v16.Revision), (.int .i64 v16.Clock), (.int .i64 v16.Kind), (.str v16.Service), (.str v16.Version), (.str v16.Operation), (.int .i64 v16.Start), (.int .i64 v16.End), (.bool v16.Error), (.sl 4 (v16.Attrs.map Zx) false), (.sl 2 ([(⟨v16.Trace, (IntKind.i64.wrap ((IntKind.i64.wrap (((a0.Trees.getD a1.toNat Z7).Calls.getD a2.toNat Z5).Link.tmod 16)) + 1))⟩ : Zs)].map Zj) false)]))]⟩) ⟨rfl, rfl, rfl, trivial⟩ ⟨rfl, rfl, rfl, trivial⟩ (J21 [(⟨v16.Trace, (IntKind.i64.wrap ((IntKind.i64.wrap (((a0.Trees.getD a1.toNat Z7).Calls.getD a2.toNat Z5).Link.tmod 16)) + 1))⟩ : Zs)] h)
    ·have h := hif.2 hc
     refine Z14 ?_
     exact Zw (st' := ⟨[(10, (.ptr 10 0)), (11, (.ptr 11 0)), (12, (.ptr 12 0))], [(10, (.box [(.int .i64 0), (.int .i64 0), (.int .i64 0), (.int .i64 0), (.int .i64 0), (.int .i64 0), (.str []), (.str []), (.str []), (.int .i64 0), (.int .i64 0), (.bool false), (.sl 4 [] false), (.sl 2 [] false)])), (11, (.box (Zk ((a0.Trees.getD a1.toNat Z7).Calls.getD a2.toNat Z5)).cells)), (12, (.box [(.int .i64 v16.Trace), (.int .i64 v16.Id), (.int .i64 v16.Parent), (.int .i64 v16.Revision), (.int .i64 v16.Clock), (.int .i64 v16.Kind), (.str v16.Service), (.str v16.Version), (.str v16.Operation), (.int .i64 v16.Start), (.int .i64 v16.End), (.bool v16.Error), (.sl 4 (v16.Attrs.map Zx) false), (.sl 2 (v16.Links.map Zj) false)]))]⟩) ⟨rfl, rfl, rfl, trivial⟩ ⟨rfl, rfl, rfl, trivial⟩ (J21 v16.Links h)
  ·have h := hif.2 hc
   refine Zl 4 I I I I I I I <| Zl 5 I I I I I I I <| Zl 6 I I I I I I I <| Zl 7 I I I I I I I <| Zl 8 I I I I I I I <| Zl 9 I I I I I I I <| Zl 10 I I I I I I I <| Zl 11 I I I I I I I ?_
   refine Zl 12 I I I I I I I <| Z9 13 I (Z1r (v := (.bool false)) I I I) <| Z1l (by kernel_rfl) I <| Ze ?_
   refine Z12 (b := false) I (fun hc => ?_) (fun hc => ?_)
   ·cases hc
   refine Z14 <| Ze <| Zf <| Zb <| Z2 I (Z18 (cs := (Zk ((a0.Trees.getD a1.toNat Z7).Calls.getD a2.toNat Z5)).cells) (vs := (Zk ((a0.Trees.getD a1.toNat Z7).Calls.getD a2.toNat Z5)).cells) I a113 I I I I) I ?_
   have ⟨v25, hv25, h⟩ := Z16 h
   refine Z2 I (Z15 (ar := [(Zk ((a0.Trees.getD a1.toNat Z7).Calls.getD a2.toNat Z5))]) (caps := []) Try.call127 (F127_ok K ((a0.Trees.getD a1.toNat Z7).Calls.getD a2.toNat Z5) v25 hv25) I I ⟨rfl, trivial⟩ I) I <| Z2 I (Zr (m := 12) (o := 0) I f38_12 I I) I <| Z2 I (Z1m (cs := (Z6 v16).cells) (vs := [(.sl 4 (v25.map Zx) false)]) (ds := [(.int .i64 v16.Trace), (.int .i64 v16.Id), (.int .i64 v16.Parent), (.int .i64 v16.Revision), (.int .i64 v16.Clock), (.int .i64 v16.Kind), (.str v16.Service), (.str v16.Version), (.str v16.Operation), (.int .i64 v16.Start), (.int .i64 v16.End), (.bool v16.Error), (.sl 4 (v25.map Zx) false), (.sl 2 (v16.Links.map Zj) false)]) (v := (.sl 4 (v25.map Zx) false)) sz35 I I I I I I I I) I <| Zd <| Ze <| Zf <| Zb <| Z2 I (Z18 (cs := [(.int .i64 v16.Trace), (.int .i64 v16.Id), (.int .i64 v16.Parent), (.int .i64 v16.Revision), (.int .i64 v16.Clock), (.int .i64 v16.Kind), (.str v16.Service), (.str v16.Version), (.str v16.Operation), (.int .i64 v16.Start), (.int .i64 v16.End), (.bool v16.Error), (.sl 4 (v25.map Zx) false), (.sl 2 (v16.Links.map Zj) false)]) (vs := [(.int .i64 v16.Trace), (.int .i64 v16.Id), (.int .i64 v16.Parent), (.int .i64 v16.Revision), (.int .i64 v16.Clock), (.int .i64 v16.Kind), (.str v16.Service), (.str v16.Version), (.str v16.Operation), (.int .i64 v16.Start), (.int .i64 v16.End), (.bool v16.Error), (.sl 4 (v25.map Zx) false), (.sl 2 (v16.Links.map Zj) false)]) I a38 I I I I) I ?_
   refine Z2 I (Z1m (cs := [(.int .i64 0), (.int .i64 0), (.int .i64 0), (.int .i64 0), (.int .i64 0), (.int .i64 0), (.str []), (.str []), (.str []), (.int .i64 0), (.int .i64 0), (.bool false), (.sl 4 [] false), (.sl 2 [] false)]) (vs := [(.int .i64 v16.Trace), (.int .i64 v16.Id), (.int .i64 v16.Parent), (.int .i64 v16.Revision), (.int .i64 v16.Clock), (.int .i64 v16.Kind), (.str v16.Service), (.str v16.Version), (.str v16.Operation), (.int .i64 v16.Start), (.int .i64 v16.End), (.bool v16.Error), (.sl 4 (v25.map Zx) false), (.sl 2 (v16.Links.map Zj) false)]) (ds := [(.int .i64 v16.Trace), (.int .i64 v16.Id), (.int .i64 v16.Parent), (.int .i64 v16.Revision), (.int .i64 v16.Clock), (.int .i64 v16.Kind), (.str v16.Service), (.str v16.Version), (.str v16.Operation), (.int .i64 v16.Start), (.int .i64 v16.End), (.bool v16.Error), (.sl 4 (v25.map Zx) false), (.sl 2 (v16.Links.map Zj) false)]) (v := (.ag [(.int .i64 v16.Trace), (.int .i64 v16.Id), (.int .i64 v16.Parent), (.int .i64 v16.Revision), (.int .i64 v16.Clock), (.int .i64 v16.Kind), (.str v16.Service), (.str v16.Version), (.str v16.Operation), (.int .i64 v16.Start), (.int .i64 v16.End), (.bool v16.Error), (.sl 4 (v25.map Zx) false), (.sl 2 (v16.Links.map Zj) false)])) sz38 I I I I I I I I) I <| Zd <| Ze <| Z1d ?_
   have h := Option.some.inj h
   subst h
   refine (hret _ ?_).1
   exact ⟨[(.ag [(.int .i64 v16.Trace), (.int .i64 v16.Id), (.int .i64 v16.Parent), (.int .i64 v16.Revision), (.int .i64 v16.Clock), (.int .i64 v16.Kind), (.str v16.Service), (.str v16.Version), (.str v16.Operation), (.int .i64 v16.Start), (.int .i64 v16.End), (.bool v16.Error), (.sl 4 (v25.map Zx) false), (.sl 2 (v16.Links.map Zj) false)])], ⟨⟨10, _, rfl, rfl, .inr ⟨_, a38, rfl, rfl⟩⟩, trivial⟩, rfl, trivial⟩
 ·intro J17
  have hif := Z1u h
  refine Z12 I (fun hc => ?_) (fun hc => ?_)
  ·have h := hif.1 hc
   refine Zb <| Z2 I (Zh (v := (.int .i64 ((IntKind.i64.wrap ((a0.Trees.getD a1.toNat Z7).Calls.getD a2.toNat Z5).Parent).tmod (IntKind.i64.wrap (a2 + 1))))) I I) I <| Z2 I (Z1a (k := .i64) (a := ((IntKind.i64.wrap ((a0.Trees.getD a1.toNat Z7).Calls.getD a2.toNat Z5).Parent).tmod (IntKind.i64.wrap (a2 + 1)))) (b := 1) (c := (IntKind.i64.wrap (((IntKind.i64.wrap ((a0.Trees.getD a1.toNat Z7).Calls.getD a2.toNat Z5).Parent).tmod (IntKind.i64.wrap (a2 + 1))) + 1))) I I I I) I <| Z2 I (Zr (m := 12) (o := 0) I f38_2 I I) I <| Z2 I (Z1m (cs := [(.int .i64 v4), (.int .i64 (IntKind.i64.wrap (a2 + 1))), (.int .i64 0), (.int .i64 0), (.int .i64 (IntKind.i64.wrap (1 + (IntKind.i64.wrap (((a0.Trees.getD a1.toNat Z7).Calls.getD a2.toNat Z5).Clock.tmod 4))))), (.int .i64 v6), (.str (([[97, 112, 105], [100, 98], [119, 101, 98], [99, 97, 99, 104, 101]]).getD (((a0.Trees.getD a1.toNat Z7).Calls.getD a2.toNat Z5).Service.tmod 4).toNat [])), (.str (([[118, 49], [118, 50], []]).getD (((a0.Trees.getD a1.toNat Z7).Calls.getD a2.toNat Z5).Version.tmod 3).toNat [])), (.str (([[103, 101, 116], [112, 117, 116], [108, 105, 115, 116]]).getD (((a0.Trees.getD a1.toNat Z7).Calls.getD a2.toNat Z5).Operation.tmod 3).toNat [])), (.int .i64 (a3.getD a2.toNat 0)), (.int .i64 (a4.getD a2.toNat 0)), (.bool ((a0.Trees.getD a1.toNat Z7).Calls.getD a2.toNat Z5).Fail), (.sl 4 [] false), (.sl 2 [] false)]) (vs := [(.int .i64 (IntKind.i64.wrap (((IntKind.i64.wrap ((a0.Trees.getD a1.toNat Z7).Calls.getD a2.toNat Z5).Parent).tmod (IntKind.i64.wrap (a2 + 1))) + 1)))]) (ds := [(.int .i64 v4), (.int .i64 (IntKind.i64.wrap (a2 + 1))), (.int .i64 (IntKind.i64.wrap (((IntKind.i64.wrap ((a0.Trees.getD a1.toNat Z7).Calls.getD a2.toNat Z5).Parent).tmod (IntKind.i64.wrap (a2 + 1))) + 1))), (.int .i64 0), (.int .i64 (IntKind.i64.wrap (1 + (IntKind.i64.wrap (((a0.Trees.getD a1.toNat Z7).Calls.getD a2.toNat Z5).Clock.tmod 4))))), (.int .i64 v6), (.str (([[97, 112, 105], [100, 98], [119, 101, 98], [99, 97, 99, 104, 101]]).getD (((a0.Trees.getD a1.toNat Z7).Calls.getD a2.toNat Z5).Service.tmod 4).toNat [])), (.str (([[118, 49], [118, 50], []]).getD (((a0.Trees.getD a1.toNat Z7).Calls.getD a2.toNat Z5).Version.tmod 3).toNat [])), (.str (([[103, 101, 116], [112, 117, 116], [108, 105, 115, 116]]).getD (((a0.Trees.getD a1.toNat Z7).Calls.getD a2.toNat Z5).Operation.tmod 3).toNat [])), (.int .i64 (a3.getD a2.toNat 0)), (.int .i64 (a4.getD a2.toNat 0)), (.bool ((a0.Trees.getD a1.toNat Z7).Calls.getD a2.toNat Z5).Fail), (.sl 4 [] false), (.sl 2 [] false)]) (v := (.int .i64 (IntKind.i64.wrap (((IntKind.i64.wrap ((a0.Trees.getD a1.toNat Z7).Calls.getD a2.toNat Z5).Parent).tmod (IntKind.i64.wrap (a2 + 1))) + 1)))) sz3 I I I I I I I I) I <| Zd ?_
   exact Zw (st' := ⟨[(2, (.int .i64 a2)), (3, (.sl 1 (a3.map Z13) false)), (10, (.ptr 10 0)), (11, (.ptr 11 0)), (12, (.ptr 12 0))], [(10, (.box [(.int .i64 0), (.int .i64 0), (.int .i64 0), (.int .i64 0), (.int .i64 0), (.int .i64 0), (.str []), (.str []), (.str []), (.int .i64 0), (.int .i64 0), (.bool false), (.sl 4 [] false), (.sl 2 [] false)])), (11, (.box (Zk ((a0.Trees.getD a1.toNat Z7).Calls.getD a2.toNat Z5)).cells)), (12, (.box (Z6 (⟨v4, (IntKind.i64.wrap (a2 + 1)), (IntKind.i64.wrap (((IntKind.i64.wrap ((a0.Trees.getD a1.toNat Z7).Calls.getD a2.toNat Z5).Parent).tmod (IntKind.i64.wrap (a2 + 1))) + 1)), 0, (IntKind.i64.wrap (1 + (IntKind.i64.wrap (((a0.Trees.getD a1.toNat Z7).Calls.getD a2.toNat Z5).Clock.tmod 4)))), v6, (([[97, 112, 105], [100, 98], [119, 101, 98], [99, 97, 99, 104, 101]]).getD (((a0.Trees.getD a1.toNat Z7).Calls.getD a2.toNat Z5).Service.tmod 4).toNat []), (([[118, 49], [118, 50], []]).getD (((a0.Trees.getD a1.toNat Z7).Calls.getD a2.toNat Z5).Version.tmod 3).toNat []), (([[103, 101, 116], [112, 117, 116], [108, 105, 115, 116]]).getD (((a0.Trees.getD a1.toNat Z7).Calls.getD a2.toNat Z5).Operation.tmod 3).toNat []), (a3.getD a2.toNat 0), (a4.getD a2.toNat 0), ((a0.Trees.getD a1.toNat Z7).Calls.getD a2.toNat Z5).Fail, [], []⟩ : Zg)).cells))]⟩) ⟨rfl, rfl, rfl, rfl, rfl, trivial⟩ ⟨rfl, rfl, rfl, trivial⟩ (J17 (⟨v4, (IntKind.i64.wrap (a2 + 1)), (IntKind.i64.wrap (((IntKind.i64.wrap ((a0.Trees.getD a1.toNat Z7).Calls.getD a2.toNat Z5).Parent).tmod (IntKind.i64.wrap (a2 + 1))) + 1)), 0, (IntKind.i64.wrap (1 + (IntKind.i64.wrap (((a0.Trees.getD a1.toNat Z7).Calls.getD a2.toNat Z5).Clock.tmod 4)))), v6, (([[97, 112, 105], [100, 98], [119, 101, 98], [99, 97, 99, 104, 101]]).getD (((a0.Trees.getD a1.toNat Z7).Calls.getD a2.toNat Z5).Service.tmod 4).toNat []), (([[118, 49], [118, 50], []]).getD (((a0.Trees.getD a1.toNat Z7).Calls.getD a2.toNat Z5).Version.tmod 3).toNat []), (([[103, 101, 116], [112, 117, 116], [108, 105, 115, 116]]).getD (((a0.Trees.getD a1.toNat Z7).Calls.getD a2.toNat Z5).Operation.tmod 3).toNat []), (a3.getD a2.toNat 0), (a4.getD a2.toNat 0), ((a0.Trees.getD a1.toNat Z7).Calls.getD a2.toNat Z5).Fail, [], []⟩ : Zg) h)
  ·have h := hif.2 hc
   refine Zf <| Zb <| Z2 I (Zh (v := (.int .i64 a2)) I I) I <| Z2 I (Z1k (k := .i64) (a := a2) (b := 0) (c := (decide (a2 > 0))) I I I I) I <| Zd <| Ze ?_
   have hif := Z1u h
   refine Z12 I (fun hc => ?_) (fun hc => ?_)
   ·have h := hif.1 hc
    refine Zb <| Z2 I (Zr (m := 12) (o := 0) I f38_2 I I) I <| Z2 I (Z1m (cs := [(.int .i64 v4), (.int .i64 (IntKind.i64.wrap (a2 + 1))), (.int .i64 0), (.int .i64 0), (.int .i64 (IntKind.i64.wrap (1 + (IntKind.i64.wrap (((a0.Trees.getD a1.toNat Z7).Calls.getD a2.toNat Z5).Clock.tmod 4))))), (.int .i64 v6), (.str (([[97, 112, 105], [100, 98], [119, 101, 98], [99, 97, 99, 104, 101]]).getD (((a0.Trees.getD a1.toNat Z7).Calls.getD a2.toNat Z5).Service.tmod 4).toNat [])), (.str (([[118, 49], [118, 50], []]).getD (((a0.Trees.getD a1.toNat Z7).Calls.getD a2.toNat Z5).Version.tmod 3).toNat [])), (.str (([[103, 101, 116], [112, 117, 116], [108, 105, 115, 116]]).getD (((a0.Trees.getD a1.toNat Z7).Calls.getD a2.toNat Z5).Operation.tmod 3).toNat [])), (.int .i64 (a3.getD a2.toNat 0)), (.int .i64 (a4.getD a2.toNat 0)), (.bool ((a0.Trees.getD a1.toNat Z7).Calls.getD a2.toNat Z5).Fail), (.sl 4 [] false), (.sl 2 [] false)]) (vs := [(.int .i64 100)]) (ds := [(.int .i64 v4), (.int .i64 (IntKind.i64.wrap (a2 + 1))), (.int .i64 100), (.int .i64 0), (.int .i64 (IntKind.i64.wrap (1 + (IntKind.i64.wrap (((a0.Trees.getD a1.toNat Z7).Calls.getD a2.toNat Z5).Clock.tmod 4))))), (.int .i64 v6), (.str (([[97, 112, 105], [100, 98], [119, 101, 98], [99, 97, 99, 104, 101]]).getD (((a0.Trees.getD a1.toNat Z7).Calls.getD a2.toNat Z5).Service.tmod 4).toNat [])), (.str (([[118, 49], [118, 50], []]).getD (((a0.Trees.getD a1.toNat Z7).Calls.getD a2.toNat Z5).Version.tmod 3).toNat [])), (.str (([[103, 101, 116], [112, 117, 116], [108, 105, 115, 116]]).getD (((a0.Trees.getD a1.toNat Z7).Calls.getD a2.toNat Z5).Operation.tmod 3).toNat [])), (.int .i64 (a3.getD a2.toNat 0)), (.int .i64 (a4.getD a2.toNat 0)), (.bool ((a0.Trees.getD a1.toNat Z7).Calls.getD a2.toNat Z5).Fail), (.sl 4 [] false), (.sl 2 [] false)]) (v := (.int .i64 100)) sz3 I I I I I I I I) I <| Zd ?_
    exact Zw (st' := ⟨[(2, (.int .i64 a2)), (3, (.sl 1 (a3.map Z13) false)), (10, (.ptr 10 0)), (11, (.ptr 11 0)), (12, (.ptr 12 0))], [(10, (.box [(.int .i64 0), (.int .i64 0), (.int .i64 0), (.int .i64 0), (.int .i64 0), (.int .i64 0), (.str []), (.str []), (.str []), (.int .i64 0), (.int .i64 0), (.bool false), (.sl 4 [] false), (.sl 2 [] false)])), (11, (.box (Zk ((a0.Trees.getD a1.toNat Z7).Calls.getD a2.toNat Z5)).cells)), (12, (.box (Z6 (⟨v4, (IntKind.i64.wrap (a2 + 1)), 100, 0, (IntKind.i64.wrap (1 + (IntKind.i64.wrap (((a0.Trees.getD a1.toNat Z7).Calls.getD a2.toNat Z5).Clock.tmod 4)))), v6, (([[97, 112, 105], [100, 98], [119, 101, 98], [99, 97, 99, 104, 101]]).getD (((a0.Trees.getD a1.toNat Z7).Calls.getD a2.toNat Z5).Service.tmod 4).toNat []), (([[118, 49], [118, 50], []]).getD (((a0.Trees.getD a1.toNat Z7).Calls.getD a2.toNat Z5).Version.tmod 3).toNat []), (([[103, 101, 116], [112, 117, 116], [108, 105, 115, 116]]).getD (((a0.Trees.getD a1.toNat Z7).Calls.getD a2.toNat Z5).Operation.tmod 3).toNat []), (a3.getD a2.toNat 0), (a4.getD a2.toNat 0), ((a0.Trees.getD a1.toNat Z7).Calls.getD a2.toNat Z5).Fail, [], []⟩ : Zg)).cells))]⟩) ⟨rfl, rfl, rfl, rfl, rfl, trivial⟩ ⟨rfl, rfl, rfl, trivial⟩ (J17 (⟨v4, (IntKind.i64.wrap (a2 + 1)), 100, 0, (IntKind.i64.wrap (1 + (IntKind.i64.wrap (((a0.Trees.getD a1.toNat Z7).Calls.getD a2.toNat Z5).Clock.tmod 4)))), v6, (([[97, 112, 105], [100, 98], [119, 101, 98], [99, 97, 99, 104, 101]]).getD (((a0.Trees.getD a1.toNat Z7).Calls.getD a2.toNat Z5).Service.tmod 4).toNat []), (([[118, 49], [118, 50], []]).getD (((a0.Trees.getD a1.toNat Z7).Calls.getD a2.toNat Z5).Version.tmod 3).toNat []), (([[103, 101, 116], [112, 117, 116], [108, 105, 115, 116]]).getD (((a0.Trees.getD a1.toNat Z7).Calls.getD a2.toNat Z5).Operation.tmod 3).toNat []), (a3.getD a2.toNat 0), (a4.getD a2.toNat 0), ((a0.Trees.getD a1.toNat Z7).Calls.getD a2.toNat Z5).Fail, [], []⟩ : Zg) h)
   ·have h := hif.2 hc
    refine Z14 ?_
    exact Zw (st' := ⟨[(2, (.int .i64 a2)), (3, (.sl 1 (a3.map Z13) false)), (10, (.ptr 10 0)), (11, (.ptr 11 0)), (12, (.ptr 12 0))], [(10, (.box [(.int .i64 0), (.int .i64 0), (.int .i64 0), (.int .i64 0), (.int .i64 0), (.int .i64 0), (.str []), (.str []), (.str []), (.int .i64 0), (.int .i64 0), (.bool false), (.sl 4 [] false), (.sl 2 [] false)])), (11, (.box (Zk ((a0.Trees.getD a1.toNat Z7).Calls.getD a2.toNat Z5)).cells)), (12, (.box (Z6 (⟨v4, (IntKind.i64.wrap (a2 + 1)), 0, 0, (IntKind.i64.wrap (1 + (IntKind.i64.wrap (((a0.Trees.getD a1.toNat Z7).Calls.getD a2.toNat Z5).Clock.tmod 4)))), v6, (([[97, 112, 105], [100, 98], [119, 101, 98], [99, 97, 99, 104, 101]]).getD (((a0.Trees.getD a1.toNat Z7).Calls.getD a2.toNat Z5).Service.tmod 4).toNat []), (([[118, 49], [118, 50], []]).getD (((a0.Trees.getD a1.toNat Z7).Calls.getD a2.toNat Z5).Version.tmod 3).toNat []), (([[103, 101, 116], [112, 117, 116], [108, 105, 115, 116]]).getD (((a0.Trees.getD a1.toNat Z7).Calls.getD a2.toNat Z5).Operation.tmod 3).toNat []), (a3.getD a2.toNat 0), (a4.getD a2.toNat 0), ((a0.Trees.getD a1.toNat Z7).Calls.getD a2.toNat Z5).Fail, [], []⟩ : Zg)).cells))]⟩) ⟨rfl, rfl, rfl, rfl, rfl, trivial⟩ ⟨rfl, rfl, rfl, trivial⟩ (J17 (⟨v4, (IntKind.i64.wrap (a2 + 1)), 0, 0, (IntKind.i64.wrap (1 + (IntKind.i64.wrap (((a0.Trees.getD a1.toNat Z7).Calls.getD a2.toNat Z5).Clock.tmod 4)))), v6, (([[97, 112, 105], [100, 98], [119, 101, 98], [99, 97, 99, 104, 101]]).getD (((a0.Trees.getD a1.toNat Z7).Calls.getD a2.toNat Z5).Service.tmod 4).toNat []), (([[118, 49], [118, 50], []]).getD (((a0.Trees.getD a1.toNat Z7).Calls.getD a2.toNat Z5).Version.tmod 3).toNat []), (([[103, 101, 116], [112, 117, 116], [108, 105, 115, 116]]).getD (((a0.Trees.getD a1.toNat Z7).Calls.getD a2.toNat Z5).Operation.tmod 3).toNat []), (a3.getD a2.toNat 0), (a4.getD a2.toNat 0), ((a0.Trees.getD a1.toNat Z7).Calls.getD a2.toNat Z5).Fail, [], []⟩ : Zg) h)
def F26 (K : Nat) (a0 : Zp) (a1 : Int) : Option (Int) :=
 if (0 : Int) ≤ ((IntKind.u64.wrap ((IntKind.u64.wrap a1) + 3)).tmod 4) ∧ ((IntKind.u64.wrap ((IntKind.u64.wrap a1) + 3)).tmod 4) < (4 : Nat) then
  some ((IntKind.i64.wrap (([a0.Offsets.e0, a0.Offsets.e1, a0.Offsets.e2, a0.Offsets.e3] : List Int).getD ((IntKind.u64.wrap ((IntKind.u64.wrap a1) + 3)).tmod 4).toNat 0)).tmod 21)
 else none
theorem F26_ok (K : Nat) (a0 : Zp) (a1 : Int) (r : Int) (h : F26 K a0 a1 = some r) : ACall P 26 ⟨[(Zc a0), (.int .i64 a1)], [], (.int .i64 r), [], []⟩ := by
 refine Z1q Try.func26 Try.results26 rfl Try.ntmps26 rfl rfl rfl ?_
 intro E Q hP hN hro hret
 obtain ⟨P', nt', w0, F0, p0, S0, β0, ro0⟩ := E
 simp only at hP hN
 subst hP hN
 dsimp only [argT]
 unfold F26 at h
 refine Zf <| Zb <| Z2 I (st_box (v := (Zc a0)) (cs := (Zc a0).cells) I I I I I) I <| Z2 I (Zi (v := (.int .i64 0)) I I) I <| Zd <| Ze <| Zf <| Zb ?_
 refine Z2 I (Zh (v := (.int .i64 a1)) I I) I <| Z2 I (st_conv I us3 u109 I) I <| Z2 I (Z1a (k := .u64) (a := (IntKind.u64.wrap a1)) (b := 3) (c := (IntKind.u64.wrap ((IntKind.u64.wrap a1) + 3))) I I I I) I <| Z2 I (st_div (k := .u64) (a := (IntKind.u64.wrap ((IntKind.u64.wrap a1) + 3))) (b := 4) (c := ((IntKind.u64.wrap ((IntKind.u64.wrap a1) + 3)).tmod 4)) I I I I (by decide)) I <| Z2 I (Zr (m := 2) (o := 0) I f46_1 I I) I <| AOps.ghost (st' := ⟨[(0, (Zc a0)), (1, (.int .i64 a1)), (2, (.ip (Zc a0).cells)), (4, (.int .i64 0)), (5, (.int .i64 a1)), (6, (.int .u64 (IntKind.u64.wrap a1))), (7, (.int .u64 (IntKind.u64.wrap ((IntKind.u64.wrap a1) + 3)))), (8, (.int .u64 ((IntKind.u64.wrap ((IntKind.u64.wrap a1) + 3)).tmod 4))), (9, (.ip [(.int .i8 a0.Offsets.e0), (.int .i8 a0.Offsets.e1), (.int .i8 a0.Offsets.e2), (.int .i8 a0.Offsets.e3), (.sl 5 (a0.Syncs.map Z1j) false), (.int .u8 a0.Wrong)]))], []⟩) (fun a w h => (Z19 ⟨[(0, (Zc a0)), (1, (.int .i64 a1)), (2, (.ip (Zc a0).cells)), (4, (.int .i64 0)), (5, (.int .i64 a1)), (6, (.int .u64 (IntKind.u64.wrap a1))), (7, (.int .u64 (IntKind.u64.wrap ((IntKind.u64.wrap a1) + 3)))), (8, (.int .u64 ((IntKind.u64.wrap ((IntKind.u64.wrap a1) + 3)).tmod 4))), (9, (.ip [(.int .i8 a0.Offsets.e0), (.int .i8 a0.Offsets.e1), (.int .i8 a0.Offsets.e2), (.int .i8 a0.Offsets.e3), (.sl 5 (a0.Syncs.map Z1j) false), (.int .u8 a0.Wrong)]))], []⟩ (ghost_freezeB (m := 2) (cs := (Zc a0).cells) I a w (Z19 ⟨[(0, (Zc a0)), (1, (.int .i64 a1)), (2, (.ptr 2 0)), (4, (.int .i64 0)), (5, (.int .i64 a1)), (6, (.int .u64 (IntKind.u64.wrap a1))), (7, (.int .u64 (IntKind.u64.wrap ((IntKind.u64.wrap a1) + 3)))), (8, (.int .u64 ((IntKind.u64.wrap ((IntKind.u64.wrap a1) + 3)).tmod 4))), (9, (.ptr 2 1))], [(2, (.box (Zc a0).cells))]⟩ h ⟨rfl, rfl, rfl, rfl, rfl, rfl, rfl, rfl, rfl, trivial⟩ ⟨rfl, trivial⟩)) ⟨rfl, rfl, rfl, rfl, rfl, rfl, rfl, rfl, rfl, trivial⟩ trivial)) ?_
 have ⟨hg1, h⟩ := Zu h
 refine Z2 I (st_indexIL (k := .u64) (j := ((IntKind.u64.wrap ((IntKind.u64.wrap a1) + 3)).tmod 4)) (l := [a0.Offsets.e0, a0.Offsets.e1, a0.Offsets.e2, a0.Offsets.e3]) (enc := e_i8) (z := 0) (cs := [(.int .i8 a0.Offsets.e0), (.int .i8 a0.Offsets.e1), (.int .i8 a0.Offsets.e2), (.int .i8 a0.Offsets.e3), (.sl 5 (a0.Syncs.map Z1j) false), (.int .u8 a0.Wrong)]) (ds := [(.int .i8 (([a0.Offsets.e0, a0.Offsets.e1, a0.Offsets.e2, a0.Offsets.e3] : List Int).getD ((IntKind.u64.wrap ((IntKind.u64.wrap a1) + 3)).tmod 4).toNat 0))]) I u43 sz42 I I I I els_i8 hg1 I) I <| Z2 I (st_loadI (cs := [(.int .i8 (([a0.Offsets.e0, a0.Offsets.e1, a0.Offsets.e2, a0.Offsets.e3] : List Int).getD ((IntKind.u64.wrap ((IntKind.u64.wrap a1) + 3)).tmod 4).toNat 0))]) (v := (.int .i8 (([a0.Offsets.e0, a0.Offsets.e1, a0.Offsets.e2, a0.Offsets.e3] : List Int).getD ((IntKind.u64.wrap ((IntKind.u64.wrap a1) + 3)).tmod 4).toNat 0))) I o42 I I) I <| Z2 I (st_conv I us42 u3 I) I <| Z2 I (st_div (k := .i64) (a := (IntKind.i64.wrap (([a0.Offsets.e0, a0.Offsets.e1, a0.Offsets.e2, a0.Offsets.e3] : List Int).getD ((IntKind.u64.wrap ((IntKind.u64.wrap a1) + 3)).tmod 4).toNat 0))) (b := 21) (c := ((IntKind.i64.wrap (([a0.Offsets.e0, a0.Offsets.e1, a0.Offsets.e2, a0.Offsets.e3] : List Int).getD ((IntKind.u64.wrap ((IntKind.u64.wrap a1) + 3)).tmod 4).toNat 0)).tmod 21)) I I I I (by decide)) I <| Z2 I (Zi (v := (.int .i64 ((IntKind.i64.wrap (([a0.Offsets.e0, a0.Offsets.e1, a0.Offsets.e2, a0.Offsets.e3] : List Int).getD ((IntKind.u64.wrap ((IntKind.u64.wrap a1) + 3)).tmod 4).toNat 0)).tmod 21))) I I) I <| Zd <| Ze <| Z1d ?_
 have h := Option.some.inj h
 subst h
 refine (hret _ ?_).1
 exact ⟨[(.int .i64 ((IntKind.i64.wrap (([a0.Offsets.e0, a0.Offsets.e1, a0.Offsets.e2, a0.Offsets.e3] : List Int).getD ((IntKind.u64.wrap ((IntKind.u64.wrap a1) + 3)).tmod 4).toNat 0)).tmod 21))], ⟨rfl, trivial⟩, rfl, trivial⟩
def F81_c8 (K : Nat) (v7 : (List Zg)) : Option ((List Zg)) :=
 some v7
def F81_j15 (K : Nat) (v5 : (List Zg)) (b10 : Int → (List Zg) → Option ((List Zg))) (v4 : Int) (v14 : Zg) : Option ((List Zg)) :=
 if v5.length + [v14].length ≤ 1073741824 then
  b10 (IntKind.i64.wrap (v4 + 1)) (v5 ++ [v14])
 else none
def F81_j22 (K : Nat) (v5 : (List Zg)) (b10 : Int → (List Zg) → Option ((List Zg))) (v4 : Int) (v13 : Zg) (v21 : Int) : Option ((List Zg)) :=
 F81_j15 K v5 b10 v4 (⟨v13.Trace, v13.Id, v13.Parent, v13.Revision, v13.Clock, v13.Kind, v13.Service, v13.Version, v13.Operation, (IntKind.i64.wrap (v13.Start + v21)), (IntKind.i64.wrap (v13.End + v21)), v13.Error, v13.Attrs, v13.Links⟩ : Zg)
def F81_j20 (K : Nat) (v5 : (List Zg)) (b10 : Int → (List Zg) → Option ((List Zg))) (v4 : Int) (v13 : Zg) (v18 : Int) (v19 : Bool) : Option ((List Zg)) :=
 if v19 = true then
  F81_j22 K v5 b10 v4 v13 (IntKind.i64.wrap (v18 + 500))
 else
  F81_j22 K v5 b10 v4 v13 v18
def F81_l6 (K : Nat) (a1 : Int) (a0 : Zp) (v3 : (List Int) × (List Int)) (a2 : Bool) (c9 : (List Zg) → Option ((List Zg))) : Nat → Int → (List Zg) → Option ((List Zg))
 | 0, _, _ => none
 | k6 + 1, v4, v5 =>
  if (0 : Int) ≤ a1 ∧ a1 < a0.Trees.length then
   if (decide (v4 < ((a0.Trees.getD a1.toNat Z7).Calls.length : Int))) = true then
    (F101 K a0 a1 v4 v3.1 v3.2).bind fun v13 =>
     if (!a2) = true then
      (F26 K a0 v13.Clock).bind fun v18 =>
       if (decide (a0.Wrong > 0)) = true then
        if (((IntKind.i64.wrap a0.Wrong).tmod 8) == v4) = true then
         F81_j20 K v5 (F81_l6 K a1 a0 v3 a2 c9 k6) v4 v13 v18 (((IntKind.i64.wrap ((IntKind.i64.wrap a0.Wrong).tdiv 8)).tmod 3) == a1)
        else
         F81_j20 K v5 (F81_l6 K a1 a0 v3 a2 c9 k6) v4 v13 v18 false
       else
        F81_j20 K v5 (F81_l6 K a1 a0 v3 a2 c9 k6) v4 v13 v18 false
     else
      F81_j15 K v5 (F81_l6 K a1 a0 v3 a2 c9 k6) v4 v13
   else
    c9 v5
  else none
def F81 (K : Nat) (a0 : Zp) (a1 : Int) (a2 : Bool) : Option ((List Zg)) :=
 if (0 : Int) ≤ a1 ∧ a1 < a0.Trees.length then
  (F100 K (a0.Trees.getD a1.toNat Z7)).bind fun v3 =>
   F81_l6 K a1 a0 v3 a2 (F81_c8 K) K 0 []
 else none
theorem F81_ok (K : Nat) (a0 : Zp) (a1 : Int) (a2 : Bool) (r : (List Zg)) (h : F81 K a0 a1 a2 = some r) : ACall P 81 ⟨[(Zc a0), (.int .i64 a1), (.bool a2)], [], (.sl 14 (r.map Z6) false), [], []⟩ := by
 refine Z1q Try.func81 Try.results81 rfl Try.ntmps81 rfl rfl rfl ?_
 intro E Q hP hN hro hret
 obtain ⟨P', nt', w0, F0, p0, S0, β0, ro0⟩ := E
 simp only at hP hN
 subst hP hN
 dsimp only [argT]
 unfold F81 at h
 refine Zf <| Zb <| Z2 I (st_box (v := (Zc a0)) (cs := (Zc a0).cells) I I I I I) I <| Z2 I (Zi (v := (.sl 14 [] false)) I I) I <| Zd <| Ze <| Zf <| Zb ?_
 refine Z2 I (Zi (v := (.sl 14 [] true)) I I) I <| Zd <| Ze <| Zf <| Zb <| Z2 I (Zr (m := 3) (o := 0) I f46_0 I I) I <| Z2 I (Zz (cs := (Zc a0).cells) (v := (.sl 3 (a0.Trees.map Zq) false)) I o41 I I I) I <| Z2 I (Zh (v := (.int .i64 a1)) I I) I ?_
 have ⟨hg1, h⟩ := Zu h
 refine Z2 I (Z1p (k := .i64) (l := a0.Trees) (enc := Zq) (z := Z7) (n := a1) (cs := (Zq (a0.Trees.getD a1.toNat Z7)).cells) (full := false) I s41 I I hg1 I) I <| Z2 I (st_loadIA (cs := (Zq (a0.Trees.getD a1.toNat Z7)).cells) (vs := (Zq (a0.Trees.getD a1.toNat Z7)).cells) I a102 I I I) I ?_
 have ⟨v3, hv3, h⟩ := Z16 h
 refine Z2 I (Z15 (ar := [(Zq (a0.Trees.getD a1.toNat Z7))]) (caps := []) Try.call100 (F100_ok K (a0.Trees.getD a1.toNat Z7) v3 hv3) I I ⟨rfl, trivial⟩ I) I <| Z2 I (Zh (v := (.tup [(.sl 1 (v3.1.map Z13) false), (.sl 1 (v3.2.map Z13) false)])) I I) I <| Z2 I (st_extract (vs := [(.sl 1 (v3.1.map Z13) false), (.sl 1 (v3.2.map Z13) false)]) (v := (.sl 1 (v3.1.map Z13) false)) I I I) I <| Z2 I (st_extract (vs := [(.sl 1 (v3.1.map Z13) false), (.sl 1 (v3.2.map Z13) false)]) (v := (.sl 1 (v3.2.map Z13) false)) I I I) I <| Z2 I (Zi (v := (.sl 1 (v3.1.map Z13) false)) I I) I <| Z2 I (Zi (v := (.sl 1 (v3.2.map Z13) false)) I I) I <| Zd <| Ze ?_
 refine Zf <| Zf <| Zb <| Z2 I (Zi (v := (.int .i64 0)) I I) I <| Zd <| Ze <| AWp.ghost (st' := ⟨[(1, (.int .i64 a1)), (2, (.bool a2)), (3, (.ptr 3 0)), (7, (.vs 7)), (8, (.sl 1 (v3.1.map Z13) false)), (9, (.sl 1 (v3.2.map Z13) false)), (10, (.int .i64 0))], [(3, (.box (Zc a0).cells)), (7, (.vec 14 (List.map Z6 ([] : List Zg))))]⟩) (fun a w h => (Z19 ⟨[(1, (.int .i64 a1)), (2, (.bool a2)), (3, (.ptr 3 0)), (7, (.vs 7)), (8, (.sl 1 (v3.1.map Z13) false)), (9, (.sl 1 (v3.2.map Z13) false)), (10, (.int .i64 0))], [(3, (.box (Zc a0).cells)), (7, (.vec 14 (List.map Z6 ([] : List Zg))))]⟩ (ghost_own (k := 7) (m := 7) (sz := 14) I I a w (Z19 ⟨[(7, (.sl 14 [] true)), (1, (.int .i64 a1)), (2, (.bool a2)), (3, (.ptr 3 0)), (8, (.sl 1 (v3.1.map Z13) false)), (9, (.sl 1 (v3.2.map Z13) false)), (10, (.int .i64 0))], [(3, (.box (Zc a0).cells))]⟩ h ⟨rfl, rfl, rfl, rfl, rfl, rfl, rfl, trivial⟩ ⟨rfl, trivial⟩)) ⟨rfl, rfl, rfl, rfl, rfl, rfl, rfl, trivial⟩ ⟨rfl, rfl, trivial⟩)) <| Z1s (st' := ⟨[(1, (.int .i64 a1)), (2, (.bool a2)), (3, (.ptr 3 0)), (7, (.vs 7)), (8, (.sl 1 (v3.1.map Z13) false)), (9, (.sl 1 (v3.2.map Z13) false)), (10, (.int .i64 0))], [(3, (.box (Zc a0).cells)), (7, (.vec 14 (List.map Z6 [])))]⟩) ⟨rfl, rfl, rfl, rfl, rfl, rfl, rfl, trivial⟩ ⟨rfl, rfl, trivial⟩ ?_
 refine Z1h (V := Int × (List Zg)) (X := (List Zg)) (lp := fun k v => F81_l6 K a1 a0 v3 a2 (F81_c8 K) k v.1 v.2 = some r) (sh := fun v => ⟨[(1, (.int .i64 a1)), (2, (.bool a2)), (3, (.ptr 3 0)), (7, (.vs 7)), (8, (.sl 1 (v3.1.map Z13) false)), (9, (.sl 1 (v3.2.map Z13) false)), (10, (.int .i64 v.1))], [(3, (.box (Zc a0).cells)), (7, (.vec 14 (List.map Z6 v.2)))]⟩) (x := fun v => F81_c8 K v = some r) (shx := fun v => ⟨[(7, (.vs 7))], [(7, (.vec 14 (List.map Z6 v)))]⟩) (k := K) (v := (0, [])) h ?_ ?_
 ·intro v h
  revert h
  revert v
  intro v7 h
  try dsimp only at h ⊢
  unfold F81_c8 at h
  refine Ze <| Zf <| Zb <| Z2 I (Zh (v := (.vs 7)) I I) I <| Z2 I (Zi (v := (.vs 7)) I I) I <| Zd <| Ze <| Z1d ?_
  refine At.ghost (st' := ⟨[(6, (.sl 14 (v7.map Z6) false))], []⟩) (fun a w h => (Z19 ⟨[(6, (.sl 14 (v7.map Z6) false))], []⟩ (ghost_freeze (m := 7) (sz := 14) (es := (List.map Z6 v7)) a w (Z19 ⟨[(6, (.vs 7))], [(7, (.vec 14 (List.map Z6 v7)))]⟩ h ⟨rfl, trivial⟩ ⟨rfl, trivial⟩)) ⟨rfl, trivial⟩ trivial)) ?_
  have h := Option.some.inj h
  subst h
  refine (hret _ ?_).1
  exact ⟨[(.sl 14 (v7.map Z6) false)], ⟨rfl, trivial⟩, rfl, trivial⟩
 ·intro N k6 v h IH6 J6
  obtain ⟨v4, v5⟩ := v
  try dsimp only at h IH6 J6 ⊢
  cases k6 with
  | zero => cases h
  | succ k6 =>
   rw [F81_l6] at h
   refine Zf <| Zf <| Zb <| Z2 I (Zh (v := (.int .i64 v4)) I I) I <| Z2 I (Zr (m := 3) (o := 0) I f46_0 I I) I <| Z2 I (Zz (cs := (Zc a0).cells) (v := (.sl 3 (a0.Trees.map Zq) false)) I o41 I I I) I <| Z2 I (Zh (v := (.int .i64 a1)) I I) I ?_
   have ⟨hg11, h⟩ := Zu h
   refine Z2 I (Z1p (k := .i64) (l := a0.Trees) (enc := Zq) (z := Z7) (n := a1) (cs := (Zq (a0.Trees.getD a1.toNat Z7)).cells) (full := false) I s41 I I hg11 I) I <| Z2 I (st_fieldI (cs := (Zq (a0.Trees.getD a1.toNat Z7)).cells) (ds := [(.sl 11 ((a0.Trees.getD a1.toNat Z7).Calls.map Zk) false)]) I f102_2 I I I) I <| Z2 I (st_loadI (cs := [(.sl 11 ((a0.Trees.getD a1.toNat Z7).Calls.map Zk) false)]) (v := (.sl 11 ((a0.Trees.getD a1.toNat Z7).Calls.map Zk) false)) I o100 I I) I <| Z2 I (stx_len (l := (a0.Trees.getD a1.toNat Z7).Calls) (enc := Zk) I s100 I) I <| Z2 I (Z1k (k := .i64) (a := v4) (b := ((a0.Trees.getD a1.toNat Z7).Calls.length : Int)) (c := (decide (v4 < ((a0.Trees.getD a1.toNat Z7).Calls.length : Int)))) I I I I) I <| Zd <| Ze ?_
   have hif := Z1u h
   refine Z12 I (fun hc => ?_) (fun hc => ?_)
   ·have h := hif.1 hc
    refine Z14 <| Ze <| Zf <| AWp.block <| Zf <| Zb <| Z2 I (Z18 (cs := (Zc a0).cells) (vs := (Zc a0).cells) I a46 I I I I) I <| Z2 I (Zh (v := (.int .i64 a1)) I I) I ?_
    refine Z2 I (Zh (v := (.int .i64 v4)) I I) I <| Z2 I (Zh (v := (.sl 1 (v3.1.map Z13) false)) I I) I <| Z2 I (Zh (v := (.sl 1 (v3.2.map Z13) false)) I I) I ?_
    have ⟨v13, hv13, h⟩ := Z16 h
    refine Z2 I (Z15 (ar := [(Zc a0), (.int .i64 a1), (.int .i64 v4), (.sl 1 (v3.1.map Z13) false), (.sl 1 (v3.2.map Z13) false)]) (caps := []) Try.call101 (F101_ok K a0 a1 v4 v3.1 v3.2 v13 hv13) I I ⟨rfl, rfl, rfl, rfl, rfl, trivial⟩ I) I <| Z2 I (st_alloc (cs := [(.int .i64 0), (.int .i64 0), (.int .i64 0), (.int .i64 0), (.int .i64 0), (.int .i64 0), (.str []), (.str []), (.str []), (.int .i64 0), (.int .i64 0), (.bool false), (.sl 4 [] false), (.sl 2 [] false)]) I z38 I I I) I <| Z2 I (Z1m (cs := [(.int .i64 0), (.int .i64 0), (.int .i64 0), (.int .i64 0), (.int .i64 0), (.int .i64 0), (.str []), (.str []), (.str []), (.int .i64 0), (.int .i64 0), (.bool false), (.sl 4 [] false), (.sl 2 [] false)]) (vs := (Z6 v13).cells) (ds := (Z6 v13).cells) (v := (Z6 v13)) sz38 I I I I I I I I) I <| Zd <| Ze <| Zf <| Zf <| Zb ?_
    refine Z2 I (Zh (v := (.bool a2)) I I) I <| Z2 I (st_not (b := a2) I I) I <| Zd <| Ze ?_
    refine AWp.join (V := Zg) (lp := fun v => F81_j15 K v5 (F81_l6 K a1 a0 v3 a2 (F81_c8 K) k6) v4 v = some r) (sh := fun v => ⟨[(1, (.int .i64 a1)), (2, (.bool a2)), (3, (.ptr 3 0)), (7, (.vs 7)), (8, (.sl 1 (v3.1.map Z13) false)), (9, (.sl 1 (v3.2.map Z13) false)), (10, (.int .i64 v4)), (11, (.ptr 11 0))], [(3, (.box (Zc a0).cells)), (7, (.vec 14 (List.map Z6 v5))), (11, (.box (Z6 v).cells))]⟩) ?_ ?_
    ·intro v h
     revert h
     revert v
     intro v14 h
     try dsimp only at h ⊢
     unfold F81_j15 at h
     refine Ze <| Zb <| Z2 I (Zh (v := (.vs 7)) I I) I <| Z2 I (Z18 (cs := (Z6 v14).cells) (vs := (Z6 v14).cells) I a38 I I I I) I <| Z2 I (Z1g (vs := [(Z6 v14)]) (enc := Z6) (l := [v14]) I el33 I I ⟨rfl, trivial⟩ I els_Tapi_Span I I I I) I ?_
     have ⟨hg16, h⟩ := Zu h
     refine Z2 I (st_append (m := 7) (enc := Z6) (l := v5) (l' := [v14]) (src := (.vs 79)) (rd := [(79, (.vec 14 (List.map Z6 [v14])))]) I I el33 I u33 I I I I (oneRead I) els_Tapi_Span hg16) I <| Z2 I (Zi (v := (.vs 7)) I I) I <| Zd <| At.end <| Ze <| Zb <| Z2 I (Zh (v := (.int .i64 v4)) I I) I <| Z2 I (Z1a (k := .i64) (a := v4) (b := 1) (c := (IntKind.i64.wrap (v4 + 1))) I I I I) I ?_
     refine Z2 I (Zi (v := (.int .i64 (IntKind.i64.wrap (v4 + 1)))) I I) I <| Zd ?_
     exact Zw (st' := ⟨[(1, (.int .i64 a1)), (2, (.bool a2)), (3, (.ptr 3 0)), (7, (.vs 7)), (8, (.sl 1 (v3.1.map Z13) false)), (9, (.sl 1 (v3.2.map Z13) false)), (10, (.int .i64 (IntKind.i64.wrap (v4 + 1))))], [(3, (.box (Zc a0).cells)), (7, (.vec 14 (List.map Z6 (v5 ++ [v14]))))]⟩) ⟨rfl, rfl, rfl, rfl, rfl, rfl, rfl, trivial⟩ ⟨rfl, rfl, trivial⟩ (IH6 _ ((IntKind.i64.wrap (v4 + 1)), (v5 ++ [v14])) (Nat.lt_succ_self _) h)
    ·intro J15
     have hif := Z1u h
     refine Z12 I (fun hc => ?_) (fun hc => ?_)
     ·have h := hif.1 hc
      refine Zf <| Zb <| Z2 I (Z18 (cs := (Zc a0).cells) (vs := (Zc a0).cells) I a46 I I I I) I <| Z2 I (Zr (m := 11) (o := 0) I f38_4 I I) I <| Z2 I (Zz (cs := (Z6 v13).cells) (v := (.int .i64 v13.Clock)) I o3 I I I) I ?_
      have ⟨v18, hv18, h⟩ := Z16 h
      refine Z2 I (Z15 (ar := [(Zc a0), (.int .i64 v13.Clock)]) (caps := []) Try.call26 (F26_ok K a0 v13.Clock v18 hv18) I I ⟨rfl, rfl, trivial⟩ I) I <| Z2 I (Zi (v := (.int .i64 v18)) I I) I <| Zd <| Ze <| Zf <| Zf ?_
      refine AWp.join (V := Bool) (lp := fun v => F81_j20 K v5 (F81_l6 K a1 a0 v3 a2 (F81_c8 K) k6) v4 v13 v18 v = some r) (sh := fun v => ⟨[(1, (.int .i64 a1)), (2, (.bool a2)), (3, (.ptr 3 0)), (7, (.vs 7)), (8, (.sl 1 (v3.1.map Z13) false)), (9, (.sl 1 (v3.2.map Z13) false)), (10, (.int .i64 v4)), (11, (.ptr 11 0)), (12, (.int .i64 v18)), (64, (.bool v))], [(3, (.box (Zc a0).cells)), (7, (.vec 14 (List.map Z6 v5))), (11, (.box (Z6 v13).cells))]⟩) ?_ ?_
      ·intro v h
       revert h
       revert v
       intro v19 h
       try dsimp only at h ⊢
       unfold F81_j20 at h
       refine Ze ?_
       refine AWp.join (V := Int) (lp := fun v => F81_j22 K v5 (F81_l6 K a1 a0 v3 a2 (F81_c8 K) k6) v4 v13 v = some r) (sh := fun v => ⟨[(1, (.int .i64 a1)), (2, (.bool a2)), (3, (.ptr 3 0)), (7, (.vs 7)), (8, (.sl 1 (v3.1.map Z13) false)), (9, (.sl 1 (v3.2.map Z13) false)), (10, (.int .i64 v4)), (11, (.ptr 11 0)), (12, (.int .i64 v))], [(3, (.box (Zc a0).cells)), (7, (.vec 14 (List.map Z6 v5))), (11, (.box (Z6 v13).cells))]⟩) ?_ ?_
       ·intro v h
        revert h
        revert v
        intro v21 h
        try dsimp only at h ⊢
        unfold F81_j22 at h
        refine Ze <| Zb <| Z2 I (Zr (m := 11) (o := 0) I f38_9 I I) I <| Z2 I (Zz (cs := (Z6 v13).cells) (v := (.int .i64 v13.Start)) I o3 I I I) I <| Z2 I (Zh (v := (.int .i64 v21)) I I) I <| Z2 I (Z1a (k := .i64) (a := v13.Start) (b := v21) (c := (IntKind.i64.wrap (v13.Start + v21))) I I I I) I <| Z2 I (Zr (m := 11) (o := 0) I f38_10 I I) I <| Z2 I (Zz (cs := (Z6 v13).cells) (v := (.int .i64 v13.End)) I o3 I I I) I ?_
        refine Z2 I (Zh (v := (.int .i64 v21)) I I) I <| Z2 I (Z1a (k := .i64) (a := v13.End) (b := v21) (c := (IntKind.i64.wrap (v13.End + v21))) I I I I) I <| Z2 I (Zr (m := 11) (o := 0) I f38_9 I I) I <| Z2 I (Z1m (cs := (Z6 v13).cells) (vs := [(.int .i64 (IntKind.i64.wrap (v13.Start + v21)))]) (ds := [(.int .i64 v13.Trace), (.int .i64 v13.Id), (.int .i64 v13.Parent), (.int .i64 v13.Revision), (.int .i64 v13.Clock), (.int .i64 v13.Kind), (.str v13.Service), (.str v13.Version), (.str v13.Operation), (.int .i64 (IntKind.i64.wrap (v13.Start + v21))), (.int .i64 v13.End), (.bool v13.Error), (.sl 4 (v13.Attrs.map Zx) false), (.sl 2 (v13.Links.map Zj) false)]) (v := (.int .i64 (IntKind.i64.wrap (v13.Start + v21)))) sz3 I I I I I I I I) I <| Z2 I (Zr (m := 11) (o := 0) I f38_10 I I) I <| Z2 I (Z1m (cs := [(.int .i64 v13.Trace), (.int .i64 v13.Id), (.int .i64 v13.Parent), (.int .i64 v13.Revision), (.int .i64 v13.Clock), (.int .i64 v13.Kind), (.str v13.Service), (.str v13.Version), (.str v13.Operation), (.int .i64 (IntKind.i64.wrap (v13.Start + v21))), (.int .i64 v13.End), (.bool v13.Error), (.sl 4 (v13.Attrs.map Zx) false), (.sl 2 (v13.Links.map Zj) false)]) (vs := [(.int .i64 (IntKind.i64.wrap (v13.End + v21)))]) (ds := [(.int .i64 v13.Trace), (.int .i64 v13.Id), (.int .i64 v13.Parent), (.int .i64 v13.Revision), (.int .i64 v13.Clock), (.int .i64 v13.Kind), (.str v13.Service), (.str v13.Version), (.str v13.Operation), (.int .i64 (IntKind.i64.wrap (v13.Start + v21))), (.int .i64 (IntKind.i64.wrap (v13.End + v21))), (.bool v13.Error), (.sl 4 (v13.Attrs.map Zx) false), (.sl 2 (v13.Links.map Zj) false)]) (v := (.int .i64 (IntKind.i64.wrap (v13.End + v21)))) sz3 I I I I I I I I) I <| Zd ?_
        exact Zw (st' := ⟨[(1, (.int .i64 a1)), (2, (.bool a2)), (3, (.ptr 3 0)), (7, (.vs 7)), (8, (.sl 1 (v3.1.map Z13) false)), (9, (.sl 1 (v3.2.map Z13) false)), (10, (.int .i64 v4)), (11, (.ptr 11 0))], [(3, (.box (Zc a0).cells)), (7, (.vec 14 (List.map Z6 v5))), (11, (.box (Z6 (⟨v13.Trace, v13.Id, v13.Parent, v13.Revision, v13.Clock, v13.Kind, v13.Service, v13.Version, v13.Operation, (IntKind.i64.wrap (v13.Start + v21)), (IntKind.i64.wrap (v13.End + v21)), v13.Error, v13.Attrs, v13.Links⟩ : Zg)).cells))]⟩) ⟨rfl, rfl, rfl, rfl, rfl, rfl, rfl, rfl, trivial⟩ ⟨rfl, rfl, rfl, trivial⟩ (J15 (⟨v13.Trace, v13.Id, v13.Parent, v13.Revision, v13.Clock, v13.Kind, v13.Service, v13.Version, v13.Operation, (IntKind.i64.wrap (v13.Start + v21)), (IntKind.i64.wrap (v13.End + v21)), v13.Error, v13.Attrs, v13.Links⟩ : Zg) h)
       ·intro J22
        have hif := Z1u h
        refine Z12 I (fun hc => ?_) (fun hc => ?_)
        ·have h := hif.1 hc
         refine Zb <| Z2 I (Zh (v := (.int .i64 v18)) I I) I <| Z2 I (Z1a (k := .i64) (a := v18) (b := 500) (c := (IntKind.i64.wrap (v18 + 500))) I I I I) I <| Z2 I (Zi (v := (.int .i64 (IntKind.i64.wrap (v18 + 500)))) I I) I <| Zd ?_
         exact Zw (st' := ⟨[(1, (.int .i64 a1)), (2, (.bool a2)), (3, (.ptr 3 0)), (7, (.vs 7)), (8, (.sl 1 (v3.1.map Z13) false)), (9, (.sl 1 (v3.2.map Z13) false)), (10, (.int .i64 v4)), (11, (.ptr 11 0)), (12, (.int .i64 (IntKind.i64.wrap (v18 + 500))))], [(3, (.box (Zc a0).cells)), (7, (.vec 14 (List.map Z6 v5))), (11, (.box (Z6 v13).cells))]⟩) ⟨rfl, rfl, rfl, rfl, rfl, rfl, rfl, rfl, rfl, trivial⟩ ⟨rfl, rfl, rfl, trivial⟩ (J22 (IntKind.i64.wrap (v18 + 500)) h)
        ·have h := hif.2 hc
         refine Z14 ?_
         exact Zw (st' := ⟨[(1, (.int .i64 a1)), (2, (.bool a2)), (3, (.ptr 3 0)), (7, (.vs 7)), (8, (.sl 1 (v3.1.map Z13) false)), (9, (.sl 1 (v3.2.map Z13) false)), (10, (.int .i64 v4)), (11, (.ptr 11 0)), (12, (.int .i64 v18))], [(3, (.box (Zc a0).cells)), (7, (.vec 14 (List.map Z6 v5))), (11, (.box (Z6 v13).cells))]⟩) ⟨rfl, rfl, rfl, rfl, rfl, rfl, rfl, rfl, rfl, trivial⟩ ⟨rfl, rfl, rfl, trivial⟩ (J22 v18 h)
      ·intro J20
       refine Zb <| Z2 I (Zr (m := 3) (o := 0) I f46_3 I I) I <| Z2 I (Zz (cs := (Zc a0).cells) (v := (.int .u8 a0.Wrong)) I o5 I I I) I <| Z2 I (Z1k (k := .u8) (a := a0.Wrong) (b := 0) (c := (decide (a0.Wrong > 0))) I I I I) I <| Z2 I (Zh (v := (.bool (decide (a0.Wrong > 0)))) I I) I ?_
       have hif := Z1u h
       refine AOps.split (fun hc => ?_) (fun hc => ?_)
       ·have h := hif.1 hc
        refine Z11 I I I I (Zr (m := 3) (o := 0) I f46_3 I I) I <| Z11 I I I I (Zz (cs := (Zc a0).cells) (v := (.int .u8 a0.Wrong)) I o5 I I I) I <| Z11 I I I I (st_conv I us5 u3 I) I <| Z11 I I I I (st_div (k := .i64) (a := (IntKind.i64.wrap a0.Wrong)) (b := 8) (c := ((IntKind.i64.wrap a0.Wrong).tmod 8)) I I I I (by decide)) I <| Z11 I I I I (Zh (v := (.int .i64 v4)) I I) I <| Z11 I I I I (Z1k (k := .i64) (a := ((IntKind.i64.wrap a0.Wrong).tmod 8)) (b := v4) (c := (((IntKind.i64.wrap a0.Wrong).tmod 8) == v4)) I I I I) I <| Z2 I (st_pickT (v := (.bool (((IntKind.i64.wrap a0.Wrong).tmod 8) == v4))) I I I) I <| Z2 I (Zh (v := (.bool (((IntKind.i64.wrap a0.Wrong).tmod 8) == v4))) I I) I ?_
        have hif := Z1u h
        refine AOps.split (fun hc => ?_) (fun hc => ?_)
        ·have h := hif.1 hc
         refine Z11 I I I I (Zr (m := 3) (o := 0) I f46_3 I I) I <| Z11 I I I I (Zz (cs := (Zc a0).cells) (v := (.int .u8 a0.Wrong)) I o5 I I I) I <| Z11 I I I I (st_conv I us5 u3 I) I <| Z11 I I I I (st_div (k := .i64) (a := (IntKind.i64.wrap a0.Wrong)) (b := 8) (c := (IntKind.i64.wrap ((IntKind.i64.wrap a0.Wrong).tdiv 8))) I I I I (by decide)) I <| Z11 I I I I (st_div (k := .i64) (a := (IntKind.i64.wrap ((IntKind.i64.wrap a0.Wrong).tdiv 8))) (b := 3) (c := ((IntKind.i64.wrap ((IntKind.i64.wrap a0.Wrong).tdiv 8)).tmod 3)) I I I I (by decide)) I <| Z11 I I I I (Zh (v := (.int .i64 a1)) I I) I <| Z11 I I I I (Z1k (k := .i64) (a := ((IntKind.i64.wrap ((IntKind.i64.wrap a0.Wrong).tdiv 8)).tmod 3)) (b := a1) (c := (((IntKind.i64.wrap ((IntKind.i64.wrap a0.Wrong).tdiv 8)).tmod 3) == a1)) I I I I) I <| Z2 I (st_pickT (v := (.bool (((IntKind.i64.wrap ((IntKind.i64.wrap a0.Wrong).tdiv 8)).tmod 3) == a1))) I I I) I ?_
         refine Zd ?_
         exact Zw (st' := ⟨[(1, (.int .i64 a1)), (2, (.bool a2)), (3, (.ptr 3 0)), (7, (.vs 7)), (8, (.sl 1 (v3.1.map Z13) false)), (9, (.sl 1 (v3.2.map Z13) false)), (10, (.int .i64 v4)), (11, (.ptr 11 0)), (12, (.int .i64 v18)), (64, (.bool (((IntKind.i64.wrap ((IntKind.i64.wrap a0.Wrong).tdiv 8)).tmod 3) == a1)))], [(3, (.box (Zc a0).cells)), (7, (.vec 14 (List.map Z6 v5))), (11, (.box (Z6 v13).cells))]⟩) ⟨rfl, rfl, rfl, rfl, rfl, rfl, rfl, rfl, rfl, rfl, trivial⟩ ⟨rfl, rfl, rfl, trivial⟩ (J20 (((IntKind.i64.wrap ((IntKind.i64.wrap a0.Wrong).tdiv 8)).tmod 3) == a1) h)
        ·have h := hif.2 hc
         refine Zt I I I I I I I <| Zt I I I I I I I <| Zt I I I I I I I <| Zt I I I I I I I <| Zt I I I I I I I <| Zt I I I I I I I <| Zt I I I I I I I <| Z2 I (Z1r (v := (.bool false)) I I I) I ?_
         refine Zd ?_
         exact Zw (st' := ⟨[(1, (.int .i64 a1)), (2, (.bool a2)), (3, (.ptr 3 0)), (7, (.vs 7)), (8, (.sl 1 (v3.1.map Z13) false)), (9, (.sl 1 (v3.2.map Z13) false)), (10, (.int .i64 v4)), (11, (.ptr 11 0)), (12, (.int .i64 v18)), (64, (.bool false))], [(3, (.box (Zc a0).cells)), (7, (.vec 14 (List.map Z6 v5))), (11, (.box (Z6 v13).cells))]⟩) ⟨rfl, rfl, rfl, rfl, rfl, rfl, rfl, rfl, rfl, rfl, trivial⟩ ⟨rfl, rfl, rfl, trivial⟩ (J20 false h)
       ·have h := hif.2 hc
        refine Zt I I I I I I I <| Zt I I I I I I I <| Zt I I I I I I I <| Zt I I I I I I I <| Zt I I I I I I I <| Zt I I I I I I I <| Z2 I (Z1r (v := (.bool false)) I I I) I <| Z2 I (Zh (v := (.bool false)) I I) I ?_
        refine Zt I I I I I I I <| Zt I I I I I I I <| Zt I I I I I I I <| Zt I I I I I I I <| Zt I I I I I I I <| Zt I I I I I I I <| Zt I I I I I I I <| Z2 I (Z1r (v := (.bool false)) I I I) I ?_
        refine Zd ?_
        exact Zw (st' := ⟨[(1, (.int .i64 a1)), (2, (.bool a2)), (3, (.ptr 3 0)), (7, (.vs 7)), (8, (.sl 1 (v3.1.map Z13) false)), (9, (.sl 1 (v3.2.map Z13) false)), (10, (.int .i64 v4)), (11, (.ptr 11 0)), (12, (.int .i64 v18)), (64, (.bool false))], [(3, (.box (Zc a0).cells)), (7, (.vec 14 (List.map Z6 v5))), (11, (.box (Z6 v13).cells))]⟩) ⟨rfl, rfl, rfl, rfl, rfl, rfl, rfl, rfl, rfl, rfl, trivial⟩ ⟨rfl, rfl, rfl, trivial⟩ (J20 false h)
     ·have h := hif.2 hc
      refine Z14 ?_
      exact Zw (st' := ⟨[(1, (.int .i64 a1)), (2, (.bool a2)), (3, (.ptr 3 0)), (7, (.vs 7)), (8, (.sl 1 (v3.1.map Z13) false)), (9, (.sl 1 (v3.2.map Z13) false)), (10, (.int .i64 v4)), (11, (.ptr 11 0))], [(3, (.box (Zc a0).cells)), (7, (.vec 14 (List.map Z6 v5))), (11, (.box (Z6 v13).cells))]⟩) ⟨rfl, rfl, rfl, rfl, rfl, rfl, rfl, rfl, trivial⟩ ⟨rfl, rfl, rfl, trivial⟩ (J15 v13 h)
   ·have h := hif.2 hc
    refine AWp.exit <| At.thru ?_
    exact Zw (st' := ⟨[(7, (.vs 7))], [(7, (.vec 14 (List.map Z6 v5)))]⟩) ⟨rfl, trivial⟩ ⟨rfl, trivial⟩ (J6 v5 h)
def F59_c5 (K : Nat) (v4 : (List Z1c)) : Option ((List Z1c)) :=
 some v4
def F59_j9 (K : Nat) (b7 : Int → (List Z1c) → Option ((List Z1c))) (v1 : Int) (v8 : (List Z1c)) : Option ((List Z1c)) :=
 b7 (IntKind.i64.wrap (v1 + 1)) v8
def F59_c18 (K : Nat) (v2 : (List Z1c)) (v12 : Int) (v14 : (List Zg)) (b7 : Int → (List Z1c) → Option ((List Z1c))) (v1 : Int) (v17 : Int) : Option ((List Z1c)) :=
 if (0 : Int) ≤ 0 ∧ 0 ≤ v17 ∧ v17 ≤ (v2.length : Nat) then
  if (0 + (0 : Int).toNat) + (v17.toNat - (0 : Int).toNat) ≤ v2.length then
   if (0 + (0 : Int).toNat) + (v17.toNat - (0 : Int).toNat) ≤ v2.length then
    if ([] : List Z1c).length + ((v2.drop (0 + (0 : Int).toNat)).take (v17.toNat - (0 : Int).toNat)).length ≤ 1073741824 then
     if ([] ++ ((v2.drop (0 + (0 : Int).toNat)).take (v17.toNat - (0 : Int).toNat))).length + [(⟨v12, 1, v14⟩ : Z1c)].length ≤ 1073741824 then
      if (0 : Int) ≤ v17 ∧ v17 ≤ (v2.length : Int) ∧ (v2.length : Int) ≤ (v2.length : Nat) then
       if (0 + v17.toNat) + ((v2.length : Int).toNat - v17.toNat) ≤ v2.length then
        if (0 + v17.toNat) + ((v2.length : Int).toNat - v17.toNat) ≤ v2.length then
         if (([] ++ ((v2.drop (0 + (0 : Int).toNat)).take (v17.toNat - (0 : Int).toNat))) ++ [(⟨v12, 1, v14⟩ : Z1c)]).length + ((v2.drop (0 + v17.toNat)).take ((v2.length : Int).toNat - v17.toNat)).length ≤ 1073741824 then
          F59_j9 K b7 v1 ((([] ++ ((v2.drop (0 + (0 : Int).toNat)).take (v17.toNat - (0 : Int).toNat))) ++ [(⟨v12, 1, v14⟩ : Z1c)]) ++ ((v2.drop (0 + v17.toNat)).take ((v2.length : Int).toNat - v17.toNat)))
         else none
        else none
       else none
      else none
     else none
    else none
   else none
  else none
 else none
def F59_l16 (K : Nat) (v2 : (List Z1c)) (v12 : Int) (c19 : Int → Option ((List Z1c))) : Nat → Int → Option ((List Z1c))
 | 0, _ => none
 | k16 + 1, v15 =>
  if (decide (v15 > 0)) = true then
   if (0 : Int) ≤ (IntKind.i64.wrap (v15 - 1)) ∧ (IntKind.i64.wrap (v15 - 1)) < (v2.length : Nat) then
    if (IntKind.i64.wrap (v15 - 1)).toNat < v2.length then
     if (decide ((v2.getD (IntKind.i64.wrap (v15 - 1)).toNat z_Tapi_Trace).Id > v12)) = true then
      (F59_l16 K v2 v12 c19 k16) (IntKind.i64.wrap (v15 - 1))
     else
      c19 v15
    else none
   else none
  else
   c19 v15
def F59_l3 (K : Nat) (a0 : Zp) (c6 : (List Z1c) → Option ((List Z1c))) : Nat → Int → (List Z1c) → Option ((List Z1c))
 | 0, _, _ => none
 | k3 + 1, v1, v2 =>
  if (decide (v1 < (a0.Trees.length : Int))) = true then
   if (0 : Int) ≤ v1 ∧ v1 < a0.Trees.length then
    if (((a0.Trees.getD v1.toNat Z7).Calls.length : Int) == 0) = true then
     F59_j9 K (F59_l3 K a0 c6 k3) v1 v2
    else
     (F62 K a0 v1).bind fun v12 =>
      (F81 K a0 v1 false).bind fun v14 =>
       F59_l16 K v2 v12 (F59_c18 K v2 v12 v14 (F59_l3 K a0 c6 k3) v1) K (v2.length : Int)
   else none
  else
   c6 v2
def F59 (K : Nat) (a0 : Zp) : Option ((List Z1c)) :=
 F59_l3 K a0 (F59_c5 K) K 0 []
theorem F59_ok (K : Nat) (a0 : Zp) (r : (List Z1c)) (h : F59 K a0 = some r) : ACall P 59 ⟨[(Zc a0)], [], (.sl 3 (r.map Z1b) false), [], []⟩ := by
 refine Z1q Try.func59 Try.results59 rfl Try.ntmps59 rfl rfl rfl ?_
 intro E Q hP hN hro hret
 obtain ⟨P', nt', w0, F0, p0, S0, β0, ro0⟩ := E
 simp only at hP hN
 subst hP hN
 dsimp only [argT]
 unfold F59 at h
 refine Zf <| Zb <| Z2 I (st_box (v := (Zc a0)) (cs := (Zc a0).cells) I I I I I) I <| Z2 I (Zi (v := (.sl 3 [] false)) I I) I <| Zd <| Ze <| Zf <| Zb ?_
 refine Z2 I (Zi (v := (.sl 3 [] true)) I I) I <| Zd <| Ze <| Zf <| Zf <| Zb <| Z2 I (Zi (v := (.int .i64 0)) I I) I <| Zd ?_
 refine Ze <| AWp.ghost (st' := ⟨[(1, (.ptr 1 0)), (3, (.vs 3)), (4, (.int .i64 0))], [(1, (.box (Zc a0).cells)), (3, (.vec 3 (List.map Z1b ([] : List Z1c))))]⟩) (fun a w h => (Z19 ⟨[(1, (.ptr 1 0)), (3, (.vs 3)), (4, (.int .i64 0))], [(1, (.box (Zc a0).cells)), (3, (.vec 3 (List.map Z1b ([] : List Z1c))))]⟩ (ghost_own (k := 3) (m := 3) (sz := 3) I I a w (Z19 ⟨[(3, (.sl 3 [] true)), (1, (.ptr 1 0)), (4, (.int .i64 0))], [(1, (.box (Zc a0).cells))]⟩ h ⟨rfl, rfl, rfl, trivial⟩ ⟨rfl, trivial⟩)) ⟨rfl, rfl, rfl, trivial⟩ ⟨rfl, rfl, trivial⟩)) <| Z1s (st' := ⟨[(1, (.ptr 1 0)), (3, (.vs 3)), (4, (.int .i64 0))], [(1, (.box (Zc a0).cells)), (3, (.vec 3 (List.map Z1b [])))]⟩) ⟨rfl, rfl, rfl, trivial⟩ ⟨rfl, rfl, trivial⟩ ?_
 refine Z1h (V := Int × (List Z1c)) (X := (List Z1c)) (lp := fun k v => F59_l3 K a0 (F59_c5 K) k v.1 v.2 = some r) (sh := fun v => ⟨[(1, (.ptr 1 0)), (3, (.vs 3)), (4, (.int .i64 v.1))], [(1, (.box (Zc a0).cells)), (3, (.vec 3 (List.map Z1b v.2)))]⟩) (x := fun v => F59_c5 K v = some r) (shx := fun v => ⟨[(3, (.vs 3))], [(3, (.vec 3 (List.map Z1b v)))]⟩) (k := K) (v := (0, [])) h ?_ ?_
 ·intro v h
  revert h
  revert v
  intro v4 h
  try dsimp only at h ⊢
  unfold F59_c5 at h
  refine Ze <| Zf <| Zb <| Z2 I (Zh (v := (.vs 3)) I I) I <| Z2 I (Zi (v := (.vs 3)) I I) I <| Zd <| Ze <| Z1d ?_
  refine At.ghost (st' := ⟨[(2, (.sl 3 (v4.map Z1b) false))], []⟩) (fun a w h => (Z19 ⟨[(2, (.sl 3 (v4.map Z1b) false))], []⟩ (ghost_freeze (m := 3) (sz := 3) (es := (List.map Z1b v4)) a w (Z19 ⟨[(2, (.vs 3))], [(3, (.vec 3 (List.map Z1b v4)))]⟩ h ⟨rfl, trivial⟩ ⟨rfl, trivial⟩)) ⟨rfl, trivial⟩ trivial)) ?_
  have h := Option.some.inj h
  subst h
  refine (hret _ ?_).1
  exact ⟨[(.sl 3 (v4.map Z1b) false)], ⟨rfl, trivial⟩, rfl, trivial⟩
 ·intro N k3 v h IH3 J3
  obtain ⟨v1, v2⟩ := v
  try dsimp only at h IH3 J3 ⊢
  cases k3 with
  | zero => cases h
  | succ k3 =>
   rw [F59_l3] at h
   refine Zf <| Zf <| Zb <| Z2 I (Zh (v := (.int .i64 v1)) I I) I <| Z2 I (Zr (m := 1) (o := 0) I f46_0 I I) I <| Z2 I (Zz (cs := (Zc a0).cells) (v := (.sl 3 (a0.Trees.map Zq) false)) I o41 I I I) I <| Z2 I (stx_len (l := a0.Trees) (enc := Zq) I s41 I) I <| Z2 I (Z1k (k := .i64) (a := v1) (b := (a0.Trees.length : Int)) (c := (decide (v1 < (a0.Trees.length : Int)))) I I I I) I ?_
   refine Zd <| Ze ?_
   have hif := Z1u h
   refine Z12 I (fun hc => ?_) (fun hc => ?_)
   ·have h := hif.1 hc
    refine Z14 <| Ze <| Zf ?_
    refine AWp.blockJoin (V := (List Z1c)) (lp := fun v => F59_j9 K (F59_l3 K a0 (F59_c5 K) k3) v1 v = some r) (sh := fun v => ⟨[(1, (.ptr 1 0)), (3, (.vs 3)), (4, (.int .i64 v1))], [(1, (.box (Zc a0).cells)), (3, (.vec 3 (List.map Z1b v)))]⟩) ?_ ?_
    ·intro v h
     revert h
     revert v
     intro v8 h
     try dsimp only at h ⊢
     unfold F59_j9 at h
     refine Ze <| Zb <| Z2 I (Zh (v := (.int .i64 v1)) I I) I <| Z2 I (Z1a (k := .i64) (a := v1) (b := 1) (c := (IntKind.i64.wrap (v1 + 1))) I I I I) I <| Z2 I (Zi (v := (.int .i64 (IntKind.i64.wrap (v1 + 1)))) I I) I <| Zd ?_
     exact Zw (st' := ⟨[(1, (.ptr 1 0)), (3, (.vs 3)), (4, (.int .i64 (IntKind.i64.wrap (v1 + 1))))], [(1, (.box (Zc a0).cells)), (3, (.vec 3 (List.map Z1b v8)))]⟩) ⟨rfl, rfl, rfl, trivial⟩ ⟨rfl, rfl, trivial⟩ (IH3 _ ((IntKind.i64.wrap (v1 + 1)), v8) (Nat.lt_succ_self _) h)
    ·intro J9
     refine Zf <| Zf <| Zb <| Z2 I (Zr (m := 1) (o := 0) I f46_0 I I) I <| Z2 I (Zz (cs := (Zc a0).cells) (v := (.sl 3 (a0.Trees.map Zq) false)) I o41 I I I) I <| Z2 I (Zh (v := (.int .i64 v1)) I I) I ?_
     have ⟨hg10, h⟩ := Zu h
     refine Z2 I (Z1p (k := .i64) (l := a0.Trees) (enc := Zq) (z := Z7) (n := v1) (cs := (Zq (a0.Trees.getD v1.toNat Z7)).cells) (full := false) I s41 I I hg10 I) I <| Z2 I (st_fieldI (cs := (Zq (a0.Trees.getD v1.toNat Z7)).cells) (ds := [(.sl 11 ((a0.Trees.getD v1.toNat Z7).Calls.map Zk) false)]) I f102_2 I I I) I <| Z2 I (st_loadI (cs := [(.sl 11 ((a0.Trees.getD v1.toNat Z7).Calls.map Zk) false)]) (v := (.sl 11 ((a0.Trees.getD v1.toNat Z7).Calls.map Zk) false)) I o100 I I) I <| Z2 I (stx_len (l := (a0.Trees.getD v1.toNat Z7).Calls) (enc := Zk) I s100 I) I <| Z2 I (Z1k (k := .i64) (a := ((a0.Trees.getD v1.toNat Z7).Calls.length : Int)) (b := 0) (c := (((a0.Trees.getD v1.toNat Z7).Calls.length : Int) == 0)) I I I I) I <| Zd <| Ze ?_
     have hif := Z1u h
     refine Z12 I (fun hc => ?_) (fun hc => ?_)
     ·have h := hif.1 hc
      refine AWp.exit <| At.thru <| At.out ?_
      exact Zw (st' := ⟨[(1, (.ptr 1 0)), (3, (.vs 3)), (4, (.int .i64 v1))], [(1, (.box (Zc a0).cells)), (3, (.vec 3 (List.map Z1b v2)))]⟩) ⟨rfl, rfl, rfl, trivial⟩ ⟨rfl, rfl, trivial⟩ (J9 v2 h)
     ·have h := hif.2 hc
      refine Z14 <| Ze <| Zf <| Z1n mixed <| Z9 0 I (Z18 (cs := (Zc a0).cells) (vs := (Zc a0).cells) I a46 I I I I) <| Z9 1 I (Zh (v := (.int .i64 v1)) I I) ?_
      have ⟨v12, hv12, h⟩ := Z16 h
      refine Z9 2 I (Z15 (ar := [(Zc a0), (.int .i64 v1)]) (caps := []) Try.call62 (F62_ok K a0 v1 v12 hv12) I I ⟨rfl, rfl, trivial⟩ I) <| Z9 3 I (Z18 (cs := (Zc a0).cells) (vs := (Zc a0).cells) I a46 I I I I) <| Z9 4 I (Zh (v := (.int .i64 v1)) I I) ?_
      have ⟨v14, hv14, h⟩ := Z16 h
      refine Z9 5 I (Z15 (ar := [(Zc a0), (.int .i64 v1), (.bool false)]) (caps := []) Try.call81 (F81_ok K a0 v1 false v14 hv14) I I ⟨rfl, rfl, rfl, trivial⟩ I) <| Z9 6 I (stx_build (vs := [(0, (.int .i64 v12)), (1, (.int .i64 1)), (2, (.sl 14 (v14.map Z6) false))]) (cs := [(.int .i64 v12), (.int .i64 1), (.sl 14 (v14.map Z6) false)]) I st106 ⟨rfl, rfl, rfl, rfl, rfl, rfl, trivial⟩ I) <| Z9 7 I (st_alloc (cs := [(.int .i64 0), (.int .i64 0), (.sl 14 [] false)]) I z106 I I I) <| Z9 8 I (Z1m (cs := [(.int .i64 0), (.int .i64 0), (.sl 14 [] false)]) (vs := [(.int .i64 v12), (.int .i64 1), (.sl 14 (v14.map Z6) false)]) (ds := [(.int .i64 v12), (.int .i64 1), (.sl 14 (v14.map Z6) false)]) (v := (.ag [(.int .i64 v12), (.int .i64 1), (.sl 14 (v14.map Z6) false)])) sz106 I I I I I I I I) <| Z1l (by kernel_rfl) I <| Ze <| Zf <| Zb ?_
      refine Z2 I (Zh (v := (.vs 3)) I I) I <| Z2 I (stx_lenV (l := v2) (enc := Z1b) I u103 I I) I <| Z2 I (Zi (v := (.int .i64 (v2.length : Int))) I I) I <| Zd <| Ze <| Zf <| Z1s (st' := ⟨[(1, (.ptr 1 0)), (3, (.vs 3)), (4, (.int .i64 v1)), (5, (.ptr 5 0)), (6, (.int .i64 (v2.length : Int)))], [(1, (.box (Zc a0).cells)), (3, (.vec 3 (List.map Z1b v2))), (5, (.box [(.int .i64 v12), (.int .i64 1), (.sl 14 (v14.map Z6) false)]))]⟩) ⟨rfl, rfl, rfl, rfl, rfl, trivial⟩ ⟨rfl, rfl, rfl, trivial⟩ ?_
      refine Z1h (V := Int) (X := Int) (lp := fun k v => F59_l16 K v2 v12 (F59_c18 K v2 v12 v14 (F59_l3 K a0 (F59_c5 K) k3) v1) k v = some r) (sh := fun v => ⟨[(1, (.ptr 1 0)), (3, (.vs 3)), (4, (.int .i64 v1)), (5, (.ptr 5 0)), (6, (.int .i64 v))], [(1, (.box (Zc a0).cells)), (3, (.vec 3 (List.map Z1b v2))), (5, (.box [(.int .i64 v12), (.int .i64 1), (.sl 14 (v14.map Z6) false)]))]⟩) (x := fun v => F59_c18 K v2 v12 v14 (F59_l3 K a0 (F59_c5 K) k3) v1 v = some r) (shx := fun v => ⟨[(1, (.ptr 1 0)), (3, (.vs 3)), (4, (.int .i64 v1)), (5, (.ptr 5 0)), (6, (.int .i64 v))], [(1, (.box (Zc a0).cells)), (3, (.vec 3 (List.map Z1b v2))), (5, (.box [(.int .i64 v12), (.int .i64 1), (.sl 14 (v14.map Z6) false)]))]⟩) (k := K) (v := (v2.length : Int)) h ?_ ?_
      ·intro v h
       revert h
       revert v
       intro v17 h
       try dsimp only at h ⊢
       unfold F59_c18 at h
       refine Ze <| Z1n mixed <| Z9 0 I (Z1g (vs := []) (enc := Z1b) (l := ([] : List Z1c)) I el103 I I trivial I els_Tapi_Trace I I I I) <| Z9 1 I (Zh (v := (.vs 3)) I I) <| Z9 2 I (Zh (v := (.int .i64 v17)) I I) ?_
       have ⟨hg20, h⟩ := Zu h
       have ⟨hg21, h⟩ := Zu h
       refine Z9 3 I (stx_sliceVH (v := (.vs 3)) (n := 3) (off := 0) (len := v2.length) (l := v2) (enc := Z1b) (kh := .i64) (hi := v17) I s103 I I (vecR_map _ _ _) I hg20 I) ?_
       have ⟨hg22, h⟩ := Zu h
       have ⟨hg23, h⟩ := Zu h
       refine Z9 4 I (st_append (m := 46) (enc := Z1b) (l := ([] : List Z1c)) (l' := ((v2.drop (0 + (0 : Int).toNat)).take (v17.toNat - (0 : Int).toNat))) (src := (.vsub 3 (0 + (0 : Int).toNat) (v17.toNat - (0 : Int).toNat) false)) (rd := [(3, (.vec 3 (List.map Z1b v2)))]) I I el103 I u103 I I I (srcR_vsub hg22) (oneRead I) els_Tapi_Trace hg23) <| Z9 5 I (Z18 (cs := [(.int .i64 v12), (.int .i64 1), (.sl 14 (v14.map Z6) false)]) (vs := [(.int .i64 v12), (.int .i64 1), (.sl 14 (v14.map Z6) false)]) I a106 I I I I) <| Z9 6 I (Z1g (vs := [(.ag [(.int .i64 v12), (.int .i64 1), (.sl 14 (v14.map Z6) false)])]) (enc := Z1b) (l := [(⟨v12, 1, v14⟩ : Z1c)]) I el103 I I ⟨rfl, trivial⟩ I els_Tapi_Trace I I I I) ?_
       have ⟨hg24, h⟩ := Zu h
       refine Z9 7 I (st_append (m := 46) (enc := Z1b) (l := ([] ++ ((v2.drop (0 + (0 : Int).toNat)).take (v17.toNat - (0 : Int).toNat)))) (l' := [(⟨v12, 1, v14⟩ : Z1c)]) (src := (.vs 52)) (rd := [(52, (.vec 3 (List.map Z1b [(⟨v12, 1, v14⟩ : Z1c)])))]) I I el103 I u103 I I I I (oneRead I) els_Tapi_Trace hg24) <| Z9 8 I (Zh (v := (.vs 3)) I I) <| Z9 9 I (Zh (v := (.int .i64 v17)) I I) ?_
       have ⟨hg25, h⟩ := Zu h
       have ⟨hg26, h⟩ := Zu h
       refine Z9 10 I (stx_sliceVL (v := (.vs 3)) (n := 3) (off := 0) (len := v2.length) (l := v2) (enc := Z1b) (kl := .i64) (lo := v17) I s103 I I (vecR_map _ _ _) I hg25 I) ?_
       have ⟨hg27, h⟩ := Zu h
       have ⟨hg28, h⟩ := Zu h
       refine Z9 11 I (st_append (m := 46) (enc := Z1b) (l := (([] ++ ((v2.drop (0 + (0 : Int).toNat)).take (v17.toNat - (0 : Int).toNat))) ++ [(⟨v12, 1, v14⟩ : Z1c)])) (l' := ((v2.drop (0 + v17.toNat)).take ((v2.length : Int).toNat - v17.toNat))) (src := (.vsub 3 (0 + v17.toNat) ((v2.length : Int).toNat - v17.toNat) false)) (rd := [(3, (.vec 3 (List.map Z1b v2)))]) I I el103 I u103 I I I (srcR_vsub hg27) (oneRead I) els_Tapi_Trace hg28) <| Z9 12 I (Zi (v := (.vs 46)) I I) <| Z1l (by kernel_rfl) I <| At.end <| At.ghost (st' := ⟨[(1, (.ptr 1 0)), (3, (.vs 3)), (4, (.int .i64 v1))], [(1, (.box (Zc a0).cells)), (3, (.vec 3 (List.map Z1b ((([] ++ ((v2.drop (0 + (0 : Int).toNat)).take (v17.toNat - (0 : Int).toNat))) ++ [(⟨v12, 1, v14⟩ : Z1c)]) ++ ((v2.drop (0 + v17.toNat)).take ((v2.length : Int).toNat - v17.toNat))))))]⟩) (fun a w h => (Z19 ⟨[(1, (.ptr 1 0)), (3, (.vs 3)), (4, (.int .i64 v1))], [(1, (.box (Zc a0).cells)), (3, (.vec 3 (List.map Z1b ((([] ++ ((v2.drop (0 + (0 : Int).toNat)).take (v17.toNat - (0 : Int).toNat))) ++ [(⟨v12, 1, v14⟩ : Z1c)]) ++ ((v2.drop (0 + v17.toNat)).take ((v2.length : Int).toNat - v17.toNat))))))]⟩ (ghost_sw (a := 46) (b := 3) I I a w (Z19 ⟨[(1, (.ptr 1 0)), (3, (.vs 46)), (4, (.int .i64 v1))], [(1, (.box (Zc a0).cells)), (46, (.vec 3 (List.map Z1b ((([] ++ ((v2.drop (0 + (0 : Int).toNat)).take (v17.toNat - (0 : Int).toNat))) ++ [(⟨v12, 1, v14⟩ : Z1c)]) ++ ((v2.drop (0 + v17.toNat)).take ((v2.length : Int).toNat - v17.toNat))))))]⟩ h ⟨rfl, rfl, rfl, trivial⟩ ⟨rfl, rfl, trivial⟩)) ⟨rfl, rfl, rfl, trivial⟩ ⟨rfl, rfl, trivial⟩)) ?_
       exact Zw (st' := ⟨[(1, (.ptr 1 0)), (3, (.vs 3)), (4, (.int .i64 v1))], [(1, (.box (Zc a0).cells)), (3, (.vec 3 (List.map Z1b ((([] ++ ((v2.drop (0 + (0 : Int).toNat)).take (v17.toNat - (0 : Int).toNat))) ++ [(⟨v12, 1, v14⟩ : Z1c)]) ++ ((v2.drop (0 + v17.toNat)).take ((v2.length : Int).toNat - v17.toNat))))))]⟩) ⟨rfl, rfl, rfl, trivial⟩ ⟨rfl, rfl, trivial⟩ (J9 ((([] ++ ((v2.drop (0 + (0 : Int).toNat)).take (v17.toNat - (0 : Int).toNat))) ++ [(⟨v12, 1, v14⟩ : Z1c)]) ++ ((v2.drop (0 + v17.toNat)).take ((v2.length : Int).toNat - v17.toNat))) h)
      ·intro N k16 v h IH16 J16
       revert h
       revert v
       intro v15 h
       try dsimp only at h IH16 J16 ⊢
       cases k16 with
       | zero => cases h
       | succ k16 =>
        rw [F59_l16] at h
        refine Zf <| Zf <| Z1n mixed <| Z9 0 I (Zh (v := (.int .i64 v15)) I I) <| Z9 1 I (Z1k (k := .i64) (a := v15) (b := 0) (c := (decide (v15 > 0))) I I I I) <| Z9 2 I (Zh (v := (.bool (decide (v15 > 0)))) I I) ?_
        have hif := Z1u h
        refine AOpsD.split (fun hc => ?_) (fun hc => ?_)
        ·have h := hif.1 hc
         refine Zo 3 I I I I (Zh (v := (.vs 3)) I I) <| Zo 4 I I I I (Zh (v := (.int .i64 v15)) I I) <| Zo 5 I I I I (Z1a (k := .i64) (a := v15) (b := 1) (c := (IntKind.i64.wrap (v15 - 1))) I I I I) ?_
         have ⟨hg30, h⟩ := Zu h
         refine Zo 6 I I I I (st_indexV (k := .i64) (v := (.vs 3)) (n := 3) (off := 0) (len := v2.length) (es := (List.map Z1b v2)) (j := (IntKind.i64.wrap (v15 - 1))) (m := (IntKind.i64.wrap (v15 - 1)).toNat) I s103 I I (vecR_map _ _ _) I hg30 (Nat.zero_add _)) <| Zo 7 I I I I (st_fieldV I f106_0 I I) ?_
         have ⟨hg31, h⟩ := Zu h
         refine Zo 8 I I I I (st_loadV (l := v2) (enc := Z1b) (z := z_Tapi_Trace) (v := (.int .i64 (v2.getD (IntKind.i64.wrap (v15 - 1)).toNat z_Tapi_Trace).Id)) I o3 I I hg31 I) <| Zo 9 I I I I (Zr (m := 5) (o := 0) I f106_0 I I) <| Zo 10 I I I I (Zz (cs := [(.int .i64 v12), (.int .i64 1), (.sl 14 (v14.map Z6) false)]) (v := (.int .i64 v12)) I o3 I I I) <| Zo 11 I I I I (Z1k (k := .i64) (a := (v2.getD (IntKind.i64.wrap (v15 - 1)).toNat z_Tapi_Trace).Id) (b := v12) (c := (decide ((v2.getD (IntKind.i64.wrap (v15 - 1)).toNat z_Tapi_Trace).Id > v12))) I I I I) <| Z9 12 I (st_pickT (v := (.bool (decide ((v2.getD (IntKind.i64.wrap (v15 - 1)).toNat z_Tapi_Trace).Id > v12)))) I I I) <| Z1l (by kernel_rfl) I <| Ze ?_
         have hif := Z1u h
         refine Z12 I (fun hc => ?_) (fun hc => ?_)
         ·have h := hif.1 hc
          refine Z14 <| Ze <| AWp.block <| Zb <| Z2 I (Zh (v := (.int .i64 v15)) I I) I <| Z2 I (Z1a (k := .i64) (a := v15) (b := 1) (c := (IntKind.i64.wrap (v15 - 1))) I I I I) I <| Z2 I (Zi (v := (.int .i64 (IntKind.i64.wrap (v15 - 1)))) I I) I <| Zd ?_
          refine At.end ?_
          exact Zw (st' := ⟨[(1, (.ptr 1 0)), (3, (.vs 3)), (4, (.int .i64 v1)), (5, (.ptr 5 0)), (6, (.int .i64 (IntKind.i64.wrap (v15 - 1))))], [(1, (.box (Zc a0).cells)), (3, (.vec 3 (List.map Z1b v2))), (5, (.box [(.int .i64 v12), (.int .i64 1), (.sl 14 (v14.map Z6) false)]))]⟩) ⟨rfl, rfl, rfl, rfl, rfl, trivial⟩ ⟨rfl, rfl, rfl, trivial⟩ (IH16 _ (IntKind.i64.wrap (v15 - 1)) (Nat.lt_succ_self _) h)
         ·have h := hif.2 hc
          refine AWp.exit <| At.thru ?_
          exact Zw (st' := ⟨[(1, (.ptr 1 0)), (3, (.vs 3)), (4, (.int .i64 v1)), (5, (.ptr 5 0)), (6, (.int .i64 v15))], [(1, (.box (Zc a0).cells)), (3, (.vec 3 (List.map Z1b v2))), (5, (.box [(.int .i64 v12), (.int .i64 1), (.sl 14 (v14.map Z6) false)]))]⟩) ⟨rfl, rfl, rfl, rfl, rfl, trivial⟩ ⟨rfl, rfl, rfl, trivial⟩ (J16 v15 h)
        ·have h := hif.2 hc
         refine Zl 3 I I I I I I I <| Zl 4 I I I I I I I <| Zl 5 I I I I I I I <| Zl 6 I I I I I I I <| Zl 7 I I I I I I I <| Zl 8 I I I I I I I <| Zl 9 I I I I I I I <| Zl 10 I I I I I I I ?_
         refine Zl 11 I I I I I I I <| Z9 12 I (Z1r (v := (.bool false)) I I I) <| Z1l (by kernel_rfl) I <| Ze ?_
         refine Z12 (b := false) I (fun hc => ?_) (fun hc => ?_)
         ·cases hc
         refine AWp.exit <| At.thru ?_
         exact Zw (st' := ⟨[(1, (.ptr 1 0)), (3, (.vs 3)), (4, (.int .i64 v1)), (5, (.ptr 5 0)), (6, (.int .i64 v15))], [(1, (.box (Zc a0).cells)), (3, (.vec 3 (List.map Z1b v2))), (5, (.box [(.int .i64 v12), (.int .i64 1), (.sl 14 (v14.map Z6) false)]))]⟩) ⟨rfl, rfl, rfl, rfl, rfl, trivial⟩ ⟨rfl, rfl, rfl, trivial⟩ (J16 v15 h)
   ·have h := hif.2 hc
    refine AWp.exit <| At.thru ?_
    exact Zw (st' := ⟨[(3, (.vs 3))], [(3, (.vec 3 (List.map Z1b v2)))]⟩) ⟨rfl, trivial⟩ ⟨rfl, trivial⟩ (J3 v2 h)
def F25_c5 (K : Nat) (v4 : (List Z17)) : Option ((List Z17)) :=
 some v4
def F25_l3 (K : Nat) (a0 : Zp) (c6 : (List Z17) → Option ((List Z17))) : Nat → Int → (List Z17) → Option ((List Z17))
 | 0, _, _ => none
 | k3 + 1, v1, v2 =>
  if (decide (v1 < (a0.Syncs.length : Int))) = true then
   if (0 : Int) ≤ v1 ∧ v1 < a0.Syncs.length then
    (F26 K a0 (IntKind.i64.wrap (1 + (IntKind.i64.wrap ((a0.Syncs.getD v1.toNat Za).From.tmod 4))))).bind fun v10 =>
     (F26 K a0 (IntKind.i64.wrap (1 + (IntKind.i64.wrap ((a0.Syncs.getD v1.toNat Za).To.tmod 4))))).bind fun v12 =>
      if v2.length + [(⟨(IntKind.i64.wrap (1 + (IntKind.i64.wrap ((a0.Syncs.getD v1.toNat Za).From.tmod 4)))), (IntKind.i64.wrap (1 + (IntKind.i64.wrap ((a0.Syncs.getD v1.toNat Za).To.tmod 4)))), (IntKind.i64.wrap ((IntKind.i64.wrap (1000 + (IntKind.i64.wrap ((a0.Syncs.getD v1.toNat Za).At.tmod 64)))) + v10)), (IntKind.i64.wrap ((IntKind.i64.wrap ((IntKind.i64.wrap (1000 + (IntKind.i64.wrap ((a0.Syncs.getD v1.toNat Za).At.tmod 64)))) + (IntKind.i64.wrap ((a0.Syncs.getD v1.toNat Za).Delay.tmod 16)))) + v12)), (if (IntKind.i64.wrap ((IntKind.i64.wrap ((a0.Syncs.getD v1.toNat Za).Delay.tmod 16)) - (IntKind.i64.wrap ((a0.Syncs.getD v1.toNat Za).Slack.tmod 4)))) > 0 then (IntKind.i64.wrap ((IntKind.i64.wrap ((a0.Syncs.getD v1.toNat Za).Delay.tmod 16)) - (IntKind.i64.wrap ((a0.Syncs.getD v1.toNat Za).Slack.tmod 4)))) else 0)⟩ : Z17)].length ≤ 1073741824 then
       (F25_l3 K a0 c6 k3) (IntKind.i64.wrap (v1 + 1)) (v2 ++ [(⟨(IntKind.i64.wrap (1 + (IntKind.i64.wrap ((a0.Syncs.getD v1.toNat Za).From.tmod 4)))), (IntKind.i64.wrap (1 + (IntKind.i64.wrap ((a0.Syncs.getD v1.toNat Za).To.tmod 4)))), (IntKind.i64.wrap ((IntKind.i64.wrap (1000 + (IntKind.i64.wrap ((a0.Syncs.getD v1.toNat Za).At.tmod 64)))) + v10)), (IntKind.i64.wrap ((IntKind.i64.wrap ((IntKind.i64.wrap (1000 + (IntKind.i64.wrap ((a0.Syncs.getD v1.toNat Za).At.tmod 64)))) + (IntKind.i64.wrap ((a0.Syncs.getD v1.toNat Za).Delay.tmod 16)))) + v12)), (if (IntKind.i64.wrap ((IntKind.i64.wrap ((a0.Syncs.getD v1.toNat Za).Delay.tmod 16)) - (IntKind.i64.wrap ((a0.Syncs.getD v1.toNat Za).Slack.tmod 4)))) > 0 then (IntKind.i64.wrap ((IntKind.i64.wrap ((a0.Syncs.getD v1.toNat Za).Delay.tmod 16)) - (IntKind.i64.wrap ((a0.Syncs.getD v1.toNat Za).Slack.tmod 4)))) else 0)⟩ : Z17)])
      else none
   else none
  else
   c6 v2
def F25 (K : Nat) (a0 : Zp) : Option ((List Z17)) :=
 F25_l3 K a0 (F25_c5 K) K 0 []
theorem F25_ok (K : Nat) (a0 : Zp) (r : (List Z17)) (h : F25 K a0 = some r) : ACall P 25 ⟨[(Zc a0)], [], (.sl 5 (r.map Zn) false), [], []⟩ := by
 refine Z1q Try.func25 Try.results25 rfl Try.ntmps25 rfl rfl rfl ?_
 intro E Q hP hN hro hret
 obtain ⟨P', nt', w0, F0, p0, S0, β0, ro0⟩ := E
 simp only at hP hN
 subst hP hN
 dsimp only [argT]
 unfold F25 at h
 refine Zf <| Zb <| Z2 I (st_box (v := (Zc a0)) (cs := (Zc a0).cells) I I I I I) I <| Z2 I (Zi (v := (.sl 5 [] false)) I I) I <| Zd <| Ze <| Zf <| Zb ?_
 refine Z2 I (Zi (v := (.sl 5 [] true)) I I) I <| Zd <| Ze <| Zf <| Zf <| Zb <| Z2 I (Zi (v := (.int .i64 0)) I I) I <| Zd ?_
 refine Ze <| AWp.ghost (st' := ⟨[(1, (.ptr 1 0)), (3, (.vs 3)), (4, (.int .i64 0))], [(1, (.box (Zc a0).cells)), (3, (.vec 5 (List.map Zn ([] : List Z17))))]⟩) (fun a w h => (Z19 ⟨[(1, (.ptr 1 0)), (3, (.vs 3)), (4, (.int .i64 0))], [(1, (.box (Zc a0).cells)), (3, (.vec 5 (List.map Zn ([] : List Z17))))]⟩ (ghost_own (k := 3) (m := 3) (sz := 5) I I a w (Z19 ⟨[(3, (.sl 5 [] true)), (1, (.ptr 1 0)), (4, (.int .i64 0))], [(1, (.box (Zc a0).cells))]⟩ h ⟨rfl, rfl, rfl, trivial⟩ ⟨rfl, trivial⟩)) ⟨rfl, rfl, rfl, trivial⟩ ⟨rfl, rfl, trivial⟩)) <| Z1s (st' := ⟨[(1, (.ptr 1 0)), (3, (.vs 3)), (4, (.int .i64 0))], [(1, (.box (Zc a0).cells)), (3, (.vec 5 (List.map Zn [])))]⟩) ⟨rfl, rfl, rfl, trivial⟩ ⟨rfl, rfl, trivial⟩ ?_
 refine Z1h (V := Int × (List Z17)) (X := (List Z17)) (lp := fun k v => F25_l3 K a0 (F25_c5 K) k v.1 v.2 = some r) (sh := fun v => ⟨[(1, (.ptr 1 0)), (3, (.vs 3)), (4, (.int .i64 v.1))], [(1, (.box (Zc a0).cells)), (3, (.vec 5 (List.map Zn v.2)))]⟩) (x := fun v => F25_c5 K v = some r) (shx := fun v => ⟨[(3, (.vs 3))], [(3, (.vec 5 (List.map Zn v)))]⟩) (k := K) (v := (0, [])) h ?_ ?_
 ·intro v h
  revert h
  revert v
  intro v4 h
  try dsimp only at h ⊢
  unfold F25_c5 at h
  refine Ze <| Zf <| Zb <| Z2 I (Zh (v := (.vs 3)) I I) I <| Z2 I (Zi (v := (.vs 3)) I I) I <| Zd <| Ze <| Z1d ?_
  refine At.ghost (st' := ⟨[(2, (.sl 5 (v4.map Zn) false))], []⟩) (fun a w h => (Z19 ⟨[(2, (.sl 5 (v4.map Zn) false))], []⟩ (ghost_freeze (m := 3) (sz := 5) (es := (List.map Zn v4)) a w (Z19 ⟨[(2, (.vs 3))], [(3, (.vec 5 (List.map Zn v4)))]⟩ h ⟨rfl, trivial⟩ ⟨rfl, trivial⟩)) ⟨rfl, trivial⟩ trivial)) ?_
  have h := Option.some.inj h
  subst h
  refine (hret _ ?_).1
  exact ⟨[(.sl 5 (v4.map Zn) false)], ⟨rfl, trivial⟩, rfl, trivial⟩
 ·intro N k3 v h IH3 J3
  obtain ⟨v1, v2⟩ := v
  try dsimp only at h IH3 J3 ⊢
  cases k3 with
  | zero => cases h
  | succ k3 =>
   rw [F25_l3] at h
   refine Zf <| Zf <| Zb <| Z2 I (Zh (v := (.int .i64 v1)) I I) I <| Z2 I (Zr (m := 1) (o := 0) I f46_2 I I) I <| Z2 I (Zz (cs := (Zc a0).cells) (v := (.sl 5 (a0.Syncs.map Z1j) false)) I o44 I I I) I <| Z2 I (stx_len (l := a0.Syncs) (enc := Z1j) I s44 I) I <| Z2 I (Z1k (k := .i64) (a := v1) (b := (a0.Syncs.length : Int)) (c := (decide (v1 < (a0.Syncs.length : Int)))) I I I I) I ?_
   refine Zd <| Ze ?_
   have hif := Z1u h
   refine Z12 I (fun hc => ?_) (fun hc => ?_)
   ·have h := hif.1 hc
    refine Z14 <| Ze <| Zf <| AWp.block <| Zf <| Zb <| Z2 I (Zr (m := 1) (o := 0) I f46_2 I I) I <| Z2 I (Zz (cs := (Zc a0).cells) (v := (.sl 5 (a0.Syncs.map Z1j) false)) I o44 I I I) I ?_
    refine Z2 I (Zh (v := (.int .i64 v1)) I I) I ?_
    have ⟨hg8, h⟩ := Zu h
    refine Z2 I (Z1p (k := .i64) (l := a0.Syncs) (enc := Z1j) (z := Za) (n := v1) (cs := (Z1j (a0.Syncs.getD v1.toNat Za)).cells) (full := false) I s44 I I hg8 I) I <| Z2 I (st_loadIA (cs := (Z1j (a0.Syncs.getD v1.toNat Za)).cells) (vs := (Z1j (a0.Syncs.getD v1.toNat Za)).cells) I a108 I I I) I <| Z2 I (st_alloc (cs := [(.int .u8 0), (.int .u8 0), (.int .u8 0), (.int .u8 0), (.int .u8 0)]) I z108 I I I) I <| Z2 I (Z1m (cs := [(.int .u8 0), (.int .u8 0), (.int .u8 0), (.int .u8 0), (.int .u8 0)]) (vs := (Z1j (a0.Syncs.getD v1.toNat Za)).cells) (ds := (Z1j (a0.Syncs.getD v1.toNat Za)).cells) (v := (Z1j (a0.Syncs.getD v1.toNat Za))) sz108 I I I I I I I I) I <| Zd <| Ze <| Zf <| Zb ?_
    refine Z2 I (Zr (m := 5) (o := 0) I f108_0 I I) I <| Z2 I (Zz (cs := (Z1j (a0.Syncs.getD v1.toNat Za)).cells) (v := (.int .u8 (a0.Syncs.getD v1.toNat Za).From)) I o5 I I I) I <| Z2 I (st_div (k := .u8) (a := (a0.Syncs.getD v1.toNat Za).From) (b := 4) (c := ((a0.Syncs.getD v1.toNat Za).From.tmod 4)) I I I I (by decide)) I <| Z2 I (st_conv I us5 u3 I) I <| Z2 I (Z1a (k := .i64) (a := 1) (b := (IntKind.i64.wrap ((a0.Syncs.getD v1.toNat Za).From.tmod 4))) (c := (IntKind.i64.wrap (1 + (IntKind.i64.wrap ((a0.Syncs.getD v1.toNat Za).From.tmod 4))))) I I I I) I <| Z2 I (Zr (m := 5) (o := 0) I f108_1 I I) I <| Z2 I (Zz (cs := (Z1j (a0.Syncs.getD v1.toNat Za)).cells) (v := (.int .u8 (a0.Syncs.getD v1.toNat Za).To)) I o5 I I I) I <| Z2 I (st_div (k := .u8) (a := (a0.Syncs.getD v1.toNat Za).To) (b := 4) (c := ((a0.Syncs.getD v1.toNat Za).To.tmod 4)) I I I I (by decide)) I ?_
    refine Z2 I (st_conv I us5 u3 I) I <| Z2 I (Z1a (k := .i64) (a := 1) (b := (IntKind.i64.wrap ((a0.Syncs.getD v1.toNat Za).To.tmod 4))) (c := (IntKind.i64.wrap (1 + (IntKind.i64.wrap ((a0.Syncs.getD v1.toNat Za).To.tmod 4))))) I I I I) I <| Z2 I (stx_build (vs := [(0, (.int .i64 (IntKind.i64.wrap (1 + (IntKind.i64.wrap ((a0.Syncs.getD v1.toNat Za).From.tmod 4)))))), (1, (.int .i64 (IntKind.i64.wrap (1 + (IntKind.i64.wrap ((a0.Syncs.getD v1.toNat Za).To.tmod 4))))))]) (cs := [(.int .i64 (IntKind.i64.wrap (1 + (IntKind.i64.wrap ((a0.Syncs.getD v1.toNat Za).From.tmod 4))))), (.int .i64 (IntKind.i64.wrap (1 + (IntKind.i64.wrap ((a0.Syncs.getD v1.toNat Za).To.tmod 4))))), (.int .i64 0), (.int .i64 0), (.int .i64 0)]) I st99 ⟨rfl, rfl, rfl, rfl, trivial⟩ I) I <| Z2 I (st_alloc (cs := [(.int .i64 0), (.int .i64 0), (.int .i64 0), (.int .i64 0), (.int .i64 0)]) I z99 I I I) I <| Z2 I (Z1m (cs := [(.int .i64 0), (.int .i64 0), (.int .i64 0), (.int .i64 0), (.int .i64 0)]) (vs := [(.int .i64 (IntKind.i64.wrap (1 + (IntKind.i64.wrap ((a0.Syncs.getD v1.toNat Za).From.tmod 4))))), (.int .i64 (IntKind.i64.wrap (1 + (IntKind.i64.wrap ((a0.Syncs.getD v1.toNat Za).To.tmod 4))))), (.int .i64 0), (.int .i64 0), (.int .i64 0)]) (ds := [(.int .i64 (IntKind.i64.wrap (1 + (IntKind.i64.wrap ((a0.Syncs.getD v1.toNat Za).From.tmod 4))))), (.int .i64 (IntKind.i64.wrap (1 + (IntKind.i64.wrap ((a0.Syncs.getD v1.toNat Za).To.tmod 4))))), (.int .i64 0), (.int .i64 0), (.int .i64 0)]) (v := (.ag [(.int .i64 (IntKind.i64.wrap (1 + (IntKind.i64.wrap ((a0.Syncs.getD v1.toNat Za).From.tmod 4))))), (.int .i64 (IntKind.i64.wrap (1 + (IntKind.i64.wrap ((a0.Syncs.getD v1.toNat Za).To.tmod 4))))), (.int .i64 0), (.int .i64 0), (.int .i64 0)])) sz99 I I I I I I I I) I <| Zd <| Ze <| Zf ?_
    refine Z1n mixed <| Z9 0 I (Zr (m := 5) (o := 0) I f108_2 I I) <| Z9 1 I (Zz (cs := (Z1j (a0.Syncs.getD v1.toNat Za)).cells) (v := (.int .u8 (a0.Syncs.getD v1.toNat Za).At)) I o5 I I I) <| Z9 2 I (st_div (k := .u8) (a := (a0.Syncs.getD v1.toNat Za).At) (b := 64) (c := ((a0.Syncs.getD v1.toNat Za).At.tmod 64)) I I I I (by decide)) <| Z9 3 I (st_conv I us5 u3 I) <| Z9 4 I (Z1a (k := .i64) (a := 1000) (b := (IntKind.i64.wrap ((a0.Syncs.getD v1.toNat Za).At.tmod 64))) (c := (IntKind.i64.wrap (1000 + (IntKind.i64.wrap ((a0.Syncs.getD v1.toNat Za).At.tmod 64))))) I I I I) <| Z9 5 I (Zr (m := 5) (o := 0) I f108_3 I I) <| Z9 6 I (Zz (cs := (Z1j (a0.Syncs.getD v1.toNat Za)).cells) (v := (.int .u8 (a0.Syncs.getD v1.toNat Za).Delay)) I o5 I I I) ?_
    refine Z9 7 I (st_div (k := .u8) (a := (a0.Syncs.getD v1.toNat Za).Delay) (b := 16) (c := ((a0.Syncs.getD v1.toNat Za).Delay.tmod 16)) I I I I (by decide)) <| Z9 8 I (st_conv I us5 u3 I) <| Z9 9 I (Zi (v := (.int .i64 (IntKind.i64.wrap (1000 + (IntKind.i64.wrap ((a0.Syncs.getD v1.toNat Za).At.tmod 64)))))) I I) <| Z9 10 I (Zi (v := (.int .i64 (IntKind.i64.wrap ((a0.Syncs.getD v1.toNat Za).Delay.tmod 16)))) I I) <| Z1l (by kernel_rfl) I <| Ze <| Zf <| Z1n mixed ?_
    refine Z9 0 I (Zh (v := (.int .i64 (IntKind.i64.wrap (1000 + (IntKind.i64.wrap ((a0.Syncs.getD v1.toNat Za).At.tmod 64)))))) I I) <| Z9 1 I (Z18 (cs := (Zc a0).cells) (vs := (Zc a0).cells) I a46 I I I I) <| Z9 2 I (Zr (m := 6) (o := 0) I f99_0 I I) <| Z9 3 I (Zz (cs := [(.int .i64 (IntKind.i64.wrap (1 + (IntKind.i64.wrap ((a0.Syncs.getD v1.toNat Za).From.tmod 4))))), (.int .i64 (IntKind.i64.wrap (1 + (IntKind.i64.wrap ((a0.Syncs.getD v1.toNat Za).To.tmod 4))))), (.int .i64 0), (.int .i64 0), (.int .i64 0)]) (v := (.int .i64 (IntKind.i64.wrap (1 + (IntKind.i64.wrap ((a0.Syncs.getD v1.toNat Za).From.tmod 4)))))) I o3 I I I) ?_
    have ⟨v10, hv10, h⟩ := Z16 h
    refine Z9 4 I (Z15 (ar := [(Zc a0), (.int .i64 (IntKind.i64.wrap (1 + (IntKind.i64.wrap ((a0.Syncs.getD v1.toNat Za).From.tmod 4)))))]) (caps := []) Try.call26 (F26_ok K a0 (IntKind.i64.wrap (1 + (IntKind.i64.wrap ((a0.Syncs.getD v1.toNat Za).From.tmod 4)))) v10 hv10) I I ⟨rfl, rfl, trivial⟩ I) <| Z9 5 I (Z1a (k := .i64) (a := (IntKind.i64.wrap (1000 + (IntKind.i64.wrap ((a0.Syncs.getD v1.toNat Za).At.tmod 64))))) (b := v10) (c := (IntKind.i64.wrap ((IntKind.i64.wrap (1000 + (IntKind.i64.wrap ((a0.Syncs.getD v1.toNat Za).At.tmod 64)))) + v10))) I I I I) <| Z9 6 I (Zh (v := (.int .i64 (IntKind.i64.wrap (1000 + (IntKind.i64.wrap ((a0.Syncs.getD v1.toNat Za).At.tmod 64)))))) I I) <| Z9 7 I (Zh (v := (.int .i64 (IntKind.i64.wrap ((a0.Syncs.getD v1.toNat Za).Delay.tmod 16)))) I I) <| Z9 8 I (Z1a (k := .i64) (a := (IntKind.i64.wrap (1000 + (IntKind.i64.wrap ((a0.Syncs.getD v1.toNat Za).At.tmod 64))))) (b := (IntKind.i64.wrap ((a0.Syncs.getD v1.toNat Za).Delay.tmod 16))) (c := (IntKind.i64.wrap ((IntKind.i64.wrap (1000 + (IntKind.i64.wrap ((a0.Syncs.getD v1.toNat Za).At.tmod 64)))) + (IntKind.i64.wrap ((a0.Syncs.getD v1.toNat Za).Delay.tmod 16))))) I I I I) <| Z9 9 I (Z18 (cs := (Zc a0).cells) (vs := (Zc a0).cells) I a46 I I I I) <| Z9 10 I (Zr (m := 6) (o := 0) I f99_1 I I) <| Z9 11 I (Zz (cs := [(.int .i64 (IntKind.i64.wrap (1 + (IntKind.i64.wrap ((a0.Syncs.getD v1.toNat Za).From.tmod 4))))), (.int .i64 (IntKind.i64.wrap (1 + (IntKind.i64.wrap ((a0.Syncs.getD v1.toNat Za).To.tmod 4))))), (.int .i64 0), (.int .i64 0), (.int .i64 0)]) (v := (.int .i64 (IntKind.i64.wrap (1 + (IntKind.i64.wrap ((a0.Syncs.getD v1.toNat Za).To.tmod 4)))))) I o3 I I I) ?_
    have ⟨v12, hv12, h⟩ := Z16 h
    refine Z9 12 I (Z15 (ar := [(Zc a0), (.int .i64 (IntKind.i64.wrap (1 + (IntKind.i64.wrap ((a0.Syncs.getD v1.toNat Za).To.tmod 4)))))]) (caps := []) Try.call26 (F26_ok K a0 (IntKind.i64.wrap (1 + (IntKind.i64.wrap ((a0.Syncs.getD v1.toNat Za).To.tmod 4)))) v12 hv12) I I ⟨rfl, rfl, trivial⟩ I) <| Z9 13 I (Z1a (k := .i64) (a := (IntKind.i64.wrap ((IntKind.i64.wrap (1000 + (IntKind.i64.wrap ((a0.Syncs.getD v1.toNat Za).At.tmod 64)))) + (IntKind.i64.wrap ((a0.Syncs.getD v1.toNat Za).Delay.tmod 16))))) (b := v12) (c := (IntKind.i64.wrap ((IntKind.i64.wrap ((IntKind.i64.wrap (1000 + (IntKind.i64.wrap ((a0.Syncs.getD v1.toNat Za).At.tmod 64)))) + (IntKind.i64.wrap ((a0.Syncs.getD v1.toNat Za).Delay.tmod 16)))) + v12))) I I I I) <| Z9 14 I (Zh (v := (.int .i64 (IntKind.i64.wrap ((a0.Syncs.getD v1.toNat Za).Delay.tmod 16)))) I I) <| Z9 15 I (Zr (m := 5) (o := 0) I f108_4 I I) <| Z9 16 I (Zz (cs := (Z1j (a0.Syncs.getD v1.toNat Za)).cells) (v := (.int .u8 (a0.Syncs.getD v1.toNat Za).Slack)) I o5 I I I) <| Z9 17 I (st_div (k := .u8) (a := (a0.Syncs.getD v1.toNat Za).Slack) (b := 4) (c := ((a0.Syncs.getD v1.toNat Za).Slack.tmod 4)) I I I I (by decide)) <| Z9 18 I (st_conv I us5 u3 I) <| Z9 19 I (Z1a (k := .i64) (a := (IntKind.i64.wrap ((a0.Syncs.getD v1.toNat Za).Delay.tmod 16))) (b := (IntKind.i64.wrap ((a0.Syncs.getD v1.toNat Za).Slack.tmod 4))) (c := (IntKind.i64.wrap ((IntKind.i64.wrap ((a0.Syncs.getD v1.toNat Za).Delay.tmod 16)) - (IntKind.i64.wrap ((a0.Syncs.getD v1.toNat Za).Slack.tmod 4))))) I I I I) ?_
    refine Z9 20 I (st_max (k := .i64) (a := 0) (b := (IntKind.i64.wrap ((IntKind.i64.wrap ((a0.Syncs.getD v1.toNat Za).Delay.tmod 16)) - (IntKind.i64.wrap ((a0.Syncs.getD v1.toNat Za).Slack.tmod 4))))) I I I) <| Z9 21 I (Zr (m := 6) (o := 0) I f99_2 I I) <| Z9 22 I (Z1m (cs := [(.int .i64 (IntKind.i64.wrap (1 + (IntKind.i64.wrap ((a0.Syncs.getD v1.toNat Za).From.tmod 4))))), (.int .i64 (IntKind.i64.wrap (1 + (IntKind.i64.wrap ((a0.Syncs.getD v1.toNat Za).To.tmod 4))))), (.int .i64 0), (.int .i64 0), (.int .i64 0)]) (vs := [(.int .i64 (IntKind.i64.wrap ((IntKind.i64.wrap (1000 + (IntKind.i64.wrap ((a0.Syncs.getD v1.toNat Za).At.tmod 64)))) + v10)))]) (ds := [(.int .i64 (IntKind.i64.wrap (1 + (IntKind.i64.wrap ((a0.Syncs.getD v1.toNat Za).From.tmod 4))))), (.int .i64 (IntKind.i64.wrap (1 + (IntKind.i64.wrap ((a0.Syncs.getD v1.toNat Za).To.tmod 4))))), (.int .i64 (IntKind.i64.wrap ((IntKind.i64.wrap (1000 + (IntKind.i64.wrap ((a0.Syncs.getD v1.toNat Za).At.tmod 64)))) + v10))), (.int .i64 0), (.int .i64 0)]) (v := (.int .i64 (IntKind.i64.wrap ((IntKind.i64.wrap (1000 + (IntKind.i64.wrap ((a0.Syncs.getD v1.toNat Za).At.tmod 64)))) + v10)))) sz3 I I I I I I I I) <| Z9 23 I (Zr (m := 6) (o := 0) I f99_3 I I) <| Z9 24 I (Z1m (cs := [(.int .i64 (IntKind.i64.wrap (1 + (IntKind.i64.wrap ((a0.Syncs.getD v1.toNat Za).From.tmod 4))))), (.int .i64 (IntKind.i64.wrap (1 + (IntKind.i64.wrap ((a0.Syncs.getD v1.toNat Za).To.tmod 4))))), (.int .i64 (IntKind.i64.wrap ((IntKind.i64.wrap (1000 + (IntKind.i64.wrap ((a0.Syncs.getD v1.toNat Za).At.tmod 64)))) + v10))), (.int .i64 0), (.int .i64 0)]) (vs := [(.int .i64 (IntKind.i64.wrap ((IntKind.i64.wrap ((IntKind.i64.wrap (1000 + (IntKind.i64.wrap ((a0.Syncs.getD v1.toNat Za).At.tmod 64)))) + (IntKind.i64.wrap ((a0.Syncs.getD v1.toNat Za).Delay.tmod 16)))) + v12)))]) (ds := [(.int .i64 (IntKind.i64.wrap (1 + (IntKind.i64.wrap ((a0.Syncs.getD v1.toNat Za).From.tmod 4))))), (.int .i64 (IntKind.i64.wrap (1 + (IntKind.i64.wrap ((a0.Syncs.getD v1.toNat Za).To.tmod 4))))), (.int .i64 (IntKind.i64.wrap ((IntKind.i64.wrap (1000 + (IntKind.i64.wrap ((a0.Syncs.getD v1.toNat Za).At.tmod 64)))) + v10))), (.int .i64 (IntKind.i64.wrap ((IntKind.i64.wrap ((IntKind.i64.wrap (1000 + (IntKind.i64.wrap ((a0.Syncs.getD v1.toNat Za).At.tmod 64)))) + (IntKind.i64.wrap ((a0.Syncs.getD v1.toNat Za).Delay.tmod 16)))) + v12))), (.int .i64 0)]) (v := (.int .i64 (IntKind.i64.wrap ((IntKind.i64.wrap ((IntKind.i64.wrap (1000 + (IntKind.i64.wrap ((a0.Syncs.getD v1.toNat Za).At.tmod 64)))) + (IntKind.i64.wrap ((a0.Syncs.getD v1.toNat Za).Delay.tmod 16)))) + v12)))) sz3 I I I I I I I I) <| Z9 25 I (Zr (m := 6) (o := 0) I f99_4 I I) <| Z9 26 I (Z1m (cs := [(.int .i64 (IntKind.i64.wrap (1 + (IntKind.i64.wrap ((a0.Syncs.getD v1.toNat Za).From.tmod 4))))), (.int .i64 (IntKind.i64.wrap (1 + (IntKind.i64.wrap ((a0.Syncs.getD v1.toNat Za).To.tmod 4))))), (.int .i64 (IntKind.i64.wrap ((IntKind.i64.wrap (1000 + (IntKind.i64.wrap ((a0.Syncs.getD v1.toNat Za).At.tmod 64)))) + v10))), (.int .i64 (IntKind.i64.wrap ((IntKind.i64.wrap ((IntKind.i64.wrap (1000 + (IntKind.i64.wrap ((a0.Syncs.getD v1.toNat Za).At.tmod 64)))) + (IntKind.i64.wrap ((a0.Syncs.getD v1.toNat Za).Delay.tmod 16)))) + v12))), (.int .i64 0)]) (vs := [(.int .i64 (if (IntKind.i64.wrap ((IntKind.i64.wrap ((a0.Syncs.getD v1.toNat Za).Delay.tmod 16)) - (IntKind.i64.wrap ((a0.Syncs.getD v1.toNat Za).Slack.tmod 4)))) > 0 then (IntKind.i64.wrap ((IntKind.i64.wrap ((a0.Syncs.getD v1.toNat Za).Delay.tmod 16)) - (IntKind.i64.wrap ((a0.Syncs.getD v1.toNat Za).Slack.tmod 4)))) else 0))]) (ds := [(.int .i64 (IntKind.i64.wrap (1 + (IntKind.i64.wrap ((a0.Syncs.getD v1.toNat Za).From.tmod 4))))), (.int .i64 (IntKind.i64.wrap (1 + (IntKind.i64.wrap ((a0.Syncs.getD v1.toNat Za).To.tmod 4))))), (.int .i64 (IntKind.i64.wrap ((IntKind.i64.wrap (1000 + (IntKind.i64.wrap ((a0.Syncs.getD v1.toNat Za).At.tmod 64)))) + v10))), (.int .i64 (IntKind.i64.wrap ((IntKind.i64.wrap ((IntKind.i64.wrap (1000 + (IntKind.i64.wrap ((a0.Syncs.getD v1.toNat Za).At.tmod 64)))) + (IntKind.i64.wrap ((a0.Syncs.getD v1.toNat Za).Delay.tmod 16)))) + v12))), (.int .i64 (if (IntKind.i64.wrap ((IntKind.i64.wrap ((a0.Syncs.getD v1.toNat Za).Delay.tmod 16)) - (IntKind.i64.wrap ((a0.Syncs.getD v1.toNat Za).Slack.tmod 4)))) > 0 then (IntKind.i64.wrap ((IntKind.i64.wrap ((a0.Syncs.getD v1.toNat Za).Delay.tmod 16)) - (IntKind.i64.wrap ((a0.Syncs.getD v1.toNat Za).Slack.tmod 4)))) else 0))]) (v := (.int .i64 (if (IntKind.i64.wrap ((IntKind.i64.wrap ((a0.Syncs.getD v1.toNat Za).Delay.tmod 16)) - (IntKind.i64.wrap ((a0.Syncs.getD v1.toNat Za).Slack.tmod 4)))) > 0 then (IntKind.i64.wrap ((IntKind.i64.wrap ((a0.Syncs.getD v1.toNat Za).Delay.tmod 16)) - (IntKind.i64.wrap ((a0.Syncs.getD v1.toNat Za).Slack.tmod 4)))) else 0))) sz3 I I I I I I I I) <| Z1l (by kernel_rfl) I ?_
    refine Ze <| Zb <| Z2 I (Zh (v := (.vs 3)) I I) I <| Z2 I (Z18 (cs := [(.int .i64 (IntKind.i64.wrap (1 + (IntKind.i64.wrap ((a0.Syncs.getD v1.toNat Za).From.tmod 4))))), (.int .i64 (IntKind.i64.wrap (1 + (IntKind.i64.wrap ((a0.Syncs.getD v1.toNat Za).To.tmod 4))))), (.int .i64 (IntKind.i64.wrap ((IntKind.i64.wrap (1000 + (IntKind.i64.wrap ((a0.Syncs.getD v1.toNat Za).At.tmod 64)))) + v10))), (.int .i64 (IntKind.i64.wrap ((IntKind.i64.wrap ((IntKind.i64.wrap (1000 + (IntKind.i64.wrap ((a0.Syncs.getD v1.toNat Za).At.tmod 64)))) + (IntKind.i64.wrap ((a0.Syncs.getD v1.toNat Za).Delay.tmod 16)))) + v12))), (.int .i64 (if (IntKind.i64.wrap ((IntKind.i64.wrap ((a0.Syncs.getD v1.toNat Za).Delay.tmod 16)) - (IntKind.i64.wrap ((a0.Syncs.getD v1.toNat Za).Slack.tmod 4)))) > 0 then (IntKind.i64.wrap ((IntKind.i64.wrap ((a0.Syncs.getD v1.toNat Za).Delay.tmod 16)) - (IntKind.i64.wrap ((a0.Syncs.getD v1.toNat Za).Slack.tmod 4)))) else 0))]) (vs := [(.int .i64 (IntKind.i64.wrap (1 + (IntKind.i64.wrap ((a0.Syncs.getD v1.toNat Za).From.tmod 4))))), (.int .i64 (IntKind.i64.wrap (1 + (IntKind.i64.wrap ((a0.Syncs.getD v1.toNat Za).To.tmod 4))))), (.int .i64 (IntKind.i64.wrap ((IntKind.i64.wrap (1000 + (IntKind.i64.wrap ((a0.Syncs.getD v1.toNat Za).At.tmod 64)))) + v10))), (.int .i64 (IntKind.i64.wrap ((IntKind.i64.wrap ((IntKind.i64.wrap (1000 + (IntKind.i64.wrap ((a0.Syncs.getD v1.toNat Za).At.tmod 64)))) + (IntKind.i64.wrap ((a0.Syncs.getD v1.toNat Za).Delay.tmod 16)))) + v12))), (.int .i64 (if (IntKind.i64.wrap ((IntKind.i64.wrap ((a0.Syncs.getD v1.toNat Za).Delay.tmod 16)) - (IntKind.i64.wrap ((a0.Syncs.getD v1.toNat Za).Slack.tmod 4)))) > 0 then (IntKind.i64.wrap ((IntKind.i64.wrap ((a0.Syncs.getD v1.toNat Za).Delay.tmod 16)) - (IntKind.i64.wrap ((a0.Syncs.getD v1.toNat Za).Slack.tmod 4)))) else 0))]) I a99 I I I I) I <| Z2 I (Z1g (vs := [(.ag [(.int .i64 (IntKind.i64.wrap (1 + (IntKind.i64.wrap ((a0.Syncs.getD v1.toNat Za).From.tmod 4))))), (.int .i64 (IntKind.i64.wrap (1 + (IntKind.i64.wrap ((a0.Syncs.getD v1.toNat Za).To.tmod 4))))), (.int .i64 (IntKind.i64.wrap ((IntKind.i64.wrap (1000 + (IntKind.i64.wrap ((a0.Syncs.getD v1.toNat Za).At.tmod 64)))) + v10))), (.int .i64 (IntKind.i64.wrap ((IntKind.i64.wrap ((IntKind.i64.wrap (1000 + (IntKind.i64.wrap ((a0.Syncs.getD v1.toNat Za).At.tmod 64)))) + (IntKind.i64.wrap ((a0.Syncs.getD v1.toNat Za).Delay.tmod 16)))) + v12))), (.int .i64 (if (IntKind.i64.wrap ((IntKind.i64.wrap ((a0.Syncs.getD v1.toNat Za).Delay.tmod 16)) - (IntKind.i64.wrap ((a0.Syncs.getD v1.toNat Za).Slack.tmod 4)))) > 0 then (IntKind.i64.wrap ((IntKind.i64.wrap ((a0.Syncs.getD v1.toNat Za).Delay.tmod 16)) - (IntKind.i64.wrap ((a0.Syncs.getD v1.toNat Za).Slack.tmod 4)))) else 0))])]) (enc := Zn) (l := [(⟨(IntKind.i64.wrap (1 + (IntKind.i64.wrap ((a0.Syncs.getD v1.toNat Za).From.tmod 4)))), (IntKind.i64.wrap (1 + (IntKind.i64.wrap ((a0.Syncs.getD v1.toNat Za).To.tmod 4)))), (IntKind.i64.wrap ((IntKind.i64.wrap (1000 + (IntKind.i64.wrap ((a0.Syncs.getD v1.toNat Za).At.tmod 64)))) + v10)), (IntKind.i64.wrap ((IntKind.i64.wrap ((IntKind.i64.wrap (1000 + (IntKind.i64.wrap ((a0.Syncs.getD v1.toNat Za).At.tmod 64)))) + (IntKind.i64.wrap ((a0.Syncs.getD v1.toNat Za).Delay.tmod 16)))) + v12)), (if (IntKind.i64.wrap ((IntKind.i64.wrap ((a0.Syncs.getD v1.toNat Za).Delay.tmod 16)) - (IntKind.i64.wrap ((a0.Syncs.getD v1.toNat Za).Slack.tmod 4)))) > 0 then (IntKind.i64.wrap ((IntKind.i64.wrap ((a0.Syncs.getD v1.toNat Za).Delay.tmod 16)) - (IntKind.i64.wrap ((a0.Syncs.getD v1.toNat Za).Slack.tmod 4)))) else 0)⟩ : Z17)]) I el34 I I ⟨rfl, trivial⟩ I els_Tapi_Exchange I I I I) I ?_
    have ⟨hg13, h⟩ := Zu h
    refine Z2 I (st_append (m := 3) (enc := Zn) (l := v2) (l' := [(⟨(IntKind.i64.wrap (1 + (IntKind.i64.wrap ((a0.Syncs.getD v1.toNat Za).From.tmod 4)))), (IntKind.i64.wrap (1 + (IntKind.i64.wrap ((a0.Syncs.getD v1.toNat Za).To.tmod 4)))), (IntKind.i64.wrap ((IntKind.i64.wrap (1000 + (IntKind.i64.wrap ((a0.Syncs.getD v1.toNat Za).At.tmod 64)))) + v10)), (IntKind.i64.wrap ((IntKind.i64.wrap ((IntKind.i64.wrap (1000 + (IntKind.i64.wrap ((a0.Syncs.getD v1.toNat Za).At.tmod 64)))) + (IntKind.i64.wrap ((a0.Syncs.getD v1.toNat Za).Delay.tmod 16)))) + v12)), (if (IntKind.i64.wrap ((IntKind.i64.wrap ((a0.Syncs.getD v1.toNat Za).Delay.tmod 16)) - (IntKind.i64.wrap ((a0.Syncs.getD v1.toNat Za).Slack.tmod 4)))) > 0 then (IntKind.i64.wrap ((IntKind.i64.wrap ((a0.Syncs.getD v1.toNat Za).Delay.tmod 16)) - (IntKind.i64.wrap ((a0.Syncs.getD v1.toNat Za).Slack.tmod 4)))) else 0)⟩ : Z17)]) (src := (.vs 67)) (rd := [(67, (.vec 5 (List.map Zn [(⟨(IntKind.i64.wrap (1 + (IntKind.i64.wrap ((a0.Syncs.getD v1.toNat Za).From.tmod 4)))), (IntKind.i64.wrap (1 + (IntKind.i64.wrap ((a0.Syncs.getD v1.toNat Za).To.tmod 4)))), (IntKind.i64.wrap ((IntKind.i64.wrap (1000 + (IntKind.i64.wrap ((a0.Syncs.getD v1.toNat Za).At.tmod 64)))) + v10)), (IntKind.i64.wrap ((IntKind.i64.wrap ((IntKind.i64.wrap (1000 + (IntKind.i64.wrap ((a0.Syncs.getD v1.toNat Za).At.tmod 64)))) + (IntKind.i64.wrap ((a0.Syncs.getD v1.toNat Za).Delay.tmod 16)))) + v12)), (if (IntKind.i64.wrap ((IntKind.i64.wrap ((a0.Syncs.getD v1.toNat Za).Delay.tmod 16)) - (IntKind.i64.wrap ((a0.Syncs.getD v1.toNat Za).Slack.tmod 4)))) > 0 then (IntKind.i64.wrap ((IntKind.i64.wrap ((a0.Syncs.getD v1.toNat Za).Delay.tmod 16)) - (IntKind.i64.wrap ((a0.Syncs.getD v1.toNat Za).Slack.tmod 4)))) else 0)⟩ : Z17)])))]) I I el34 I u34 I I I I (oneRead I) els_Tapi_Exchange hg13) I <| Z2 I (Zi (v := (.vs 3)) I I) I <| Zd <| At.end <| Ze <| Zb <| Z2 I (Zh (v := (.int .i64 v1)) I I) I <| Z2 I (Z1a (k := .i64) (a := v1) (b := 1) (c := (IntKind.i64.wrap (v1 + 1))) I I I I) I ?_
    refine Z2 I (Zi (v := (.int .i64 (IntKind.i64.wrap (v1 + 1)))) I I) I <| Zd ?_
    exact Zw (st' := ⟨[(1, (.ptr 1 0)), (3, (.vs 3)), (4, (.int .i64 (IntKind.i64.wrap (v1 + 1))))], [(1, (.box (Zc a0).cells)), (3, (.vec 5 (List.map Zn (v2 ++ [(⟨(IntKind.i64.wrap (1 + (IntKind.i64.wrap ((a0.Syncs.getD v1.toNat Za).From.tmod 4)))), (IntKind.i64.wrap (1 + (IntKind.i64.wrap ((a0.Syncs.getD v1.toNat Za).To.tmod 4)))), (IntKind.i64.wrap ((IntKind.i64.wrap (1000 + (IntKind.i64.wrap ((a0.Syncs.getD v1.toNat Za).At.tmod 64)))) + v10)), (IntKind.i64.wrap ((IntKind.i64.wrap ((IntKind.i64.wrap (1000 + (IntKind.i64.wrap ((a0.Syncs.getD v1.toNat Za).At.tmod 64)))) + (IntKind.i64.wrap ((a0.Syncs.getD v1.toNat Za).Delay.tmod 16)))) + v12)), (if (IntKind.i64.wrap ((IntKind.i64.wrap ((a0.Syncs.getD v1.toNat Za).Delay.tmod 16)) - (IntKind.i64.wrap ((a0.Syncs.getD v1.toNat Za).Slack.tmod 4)))) > 0 then (IntKind.i64.wrap ((IntKind.i64.wrap ((a0.Syncs.getD v1.toNat Za).Delay.tmod 16)) - (IntKind.i64.wrap ((a0.Syncs.getD v1.toNat Za).Slack.tmod 4)))) else 0)⟩ : Z17)]))))]⟩) ⟨rfl, rfl, rfl, trivial⟩ ⟨rfl, rfl, trivial⟩ (IH3 _ ((IntKind.i64.wrap (v1 + 1)), (v2 ++ [(⟨(IntKind.i64.wrap (1 + (IntKind.i64.wrap ((a0.Syncs.getD v1.toNat Za).From.tmod 4)))), (IntKind.i64.wrap (1 + (IntKind.i64.wrap ((a0.Syncs.getD v1.toNat Za).To.tmod 4)))), (IntKind.i64.wrap ((IntKind.i64.wrap (1000 + (IntKind.i64.wrap ((a0.Syncs.getD v1.toNat Za).At.tmod 64)))) + v10)), (IntKind.i64.wrap ((IntKind.i64.wrap ((IntKind.i64.wrap (1000 + (IntKind.i64.wrap ((a0.Syncs.getD v1.toNat Za).At.tmod 64)))) + (IntKind.i64.wrap ((a0.Syncs.getD v1.toNat Za).Delay.tmod 16)))) + v12)), (if (IntKind.i64.wrap ((IntKind.i64.wrap ((a0.Syncs.getD v1.toNat Za).Delay.tmod 16)) - (IntKind.i64.wrap ((a0.Syncs.getD v1.toNat Za).Slack.tmod 4)))) > 0 then (IntKind.i64.wrap ((IntKind.i64.wrap ((a0.Syncs.getD v1.toNat Za).Delay.tmod 16)) - (IntKind.i64.wrap ((a0.Syncs.getD v1.toNat Za).Slack.tmod 4)))) else 0)⟩ : Z17)])) (Nat.lt_succ_self _) h)
   ·have h := hif.2 hc
    refine AWp.exit <| At.thru ?_
    exact Zw (st' := ⟨[(3, (.vs 3))], [(3, (.vec 5 (List.map Zn v2)))]⟩) ⟨rfl, trivial⟩ ⟨rfl, trivial⟩ (J3 v2 h)
end Go.AM.Msg
