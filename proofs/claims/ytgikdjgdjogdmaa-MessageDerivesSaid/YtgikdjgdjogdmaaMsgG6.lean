/- What these functions compute, each with its walk: F23, F62, F126, F100, F127, F101, F26, F81, F59, F25. -/
import Derived.Test.YtgikdjgdjogdmaaMsgT
namespace Go.AM.Msg
open Go Go.AM Go.Proofs
set_option maxRecDepth 100000
set_option maxHeartbeats 2000000
def F23_c3 (K : Nat) (a0 : Zp) : Option (Bool) :=
 if (decide ((a0.Trees.length : Int) ≤ 3)) = true then
  some (decide ((a0.Syncs.length : Int) ≤ 6))
 else
  some false
def F23_l2 (K : Nat) (a0 : Zp) (c4 : Option (Bool)) : Nat → Int → Option (Bool)
 | 0, _ => none
 | k2 + 1, v1 =>
  if (decide (v1 < (a0.Trees.length : Int))) = true then
   if (0 : Int) ≤ v1 ∧ v1 < a0.Trees.length then
    if (decide (((a0.Trees.getD v1.toNat Z5).Calls.length : Int) > 8)) = true then
     some false
    else
     (F23_l2 K a0 c4 k2) (IntKind.i64.wrap (v1 + 1))
   else none
  else
   c4
def F23 (K : Nat) (a0 : Zp) : Option (Bool) :=
 F23_l2 K a0 (F23_c3 K a0) K 0
theorem F23_ok (K : Nat) (a0 : Zp) (r : Bool) (h : F23 K a0 = some r) : ACall P 23 ⟨[(Z9 a0)], [], (.bool r), [], []⟩ := by
 refine Z1t Try.func23 Try.results23 rfl Try.ntmps23 rfl rfl rfl ?_
 intro E Q hP hN hro hret
 obtain ⟨P', nt', w0, F0, p0, S0, β0, ro0⟩ := E
 simp only at hP hN
 subst hP hN
 dsimp only [argT]
 unfold F23 at h
 refine Zh <| Zc <| Z2 I (st_box (v := (Z9 a0)) (cs := (Z9 a0).cells) I I I I I) I <| Z2 I (Zj (v := (.bool false)) I I) I <| Zf <| Zg <| Zh <| Zh ?_
 refine Zc <| Z2 I (Zj (v := (.int .i64 0)) I I) I <| Zf <| Zg <| Z1x (st' := ⟨[(1, (.ptr 1 0)), (3, (.int .i64 0))], [(1, (.box (Z9 a0).cells))]⟩) ⟨rfl, rfl, trivial⟩ ⟨rfl, trivial⟩ ?_
 refine Z1j (V := Int) (X := Unit) (lp := fun k v => F23_l2 K a0 (F23_c3 K a0) k v = some r) (sh := fun v => ⟨[(1, (.ptr 1 0)), (3, (.int .i64 v))], [(1, (.box (Z9 a0).cells))]⟩) (x := fun v => F23_c3 K a0 = some r) (shx := fun v => ⟨[(1, (.ptr 1 0))], [(1, (.box (Z9 a0).cells))]⟩) (k := K) (v := 0) h ?_ ?_
 ·intro v h
  try dsimp only at h ⊢
  unfold F23_c3 at h
  refine Zg <| Zh <| Zc <| Z2 I (Zq (m := 1) (o := 0) I f46_0 I I) I <| Z2 I (Z11 (cs := (Z9 a0).cells) (v := (.sl 3 (a0.Trees.map Zs) false)) I o41 I I I) I <| Z2 I (stx_len (l := a0.Trees) (enc := Zs) I s41 I) I <| Z2 I (Z1o (k := .i64) (a := (a0.Trees.length : Int)) (b := 3) (c := (decide ((a0.Trees.length : Int) ≤ 3))) I I I I) I <| Z2 I (Zi (v := (.bool (decide ((a0.Trees.length : Int) ≤ 3)))) I I) I ?_
  have hif := Z1u h
  refine AOps.split (fun hc => ?_) (fun hc => ?_)
  ·have h := hif.1 hc
   refine Zz I I I I (Zq (m := 1) (o := 0) I f46_2 I I) I <| Zz I I I I (Z11 (cs := (Z9 a0).cells) (v := (.sl 5 (a0.Syncs.map Z1l) false)) I o44 I I I) I <| Zz I I I I (stx_len (l := a0.Syncs) (enc := Z1l) I s44 I) I <| Zz I I I I (Z1o (k := .i64) (a := (a0.Syncs.length : Int)) (b := 6) (c := (decide ((a0.Syncs.length : Int) ≤ 6))) I I I I) I <| Z2 I (st_pickT (v := (.bool (decide ((a0.Syncs.length : Int) ≤ 6)))) I I I) I <| Z2 I (Zj (v := (.bool (decide ((a0.Syncs.length : Int) ≤ 6)))) I I) I <| Zf <| Zg ?_
   refine Z1e ?_
   have h := Option.some.inj h
   subst h
   refine (hret _ ?_).1
   exact ⟨[(.bool (decide ((a0.Syncs.length : Int) ≤ 6)))], ⟨rfl, trivial⟩, rfl, trivial⟩
  ·have h := hif.2 hc
   refine Zo I I I I I I I <| Zo I I I I I I I <| Zo I I I I I I I <| Zo I I I I I I I <| Z2 I (Z1p (v := (.bool false)) I I I) I <| Z2 I (Zj (v := (.bool false)) I I) I <| Zf <| Zg ?_
   refine Z1e ?_
   have h := Option.some.inj h
   subst h
   refine (hret _ ?_).1
   exact ⟨[(.bool false)], ⟨rfl, trivial⟩, rfl, trivial⟩
 ·intro N k2 v h IH2 J2
  revert h
  revert v
  intro v1 h
  try dsimp only at h IH2 J2 ⊢
  cases k2 with
  | zero => cases h
  | succ k2 =>
   rw [F23_l2] at h
   refine Zh <| Zh <| Zc <| Z2 I (Zi (v := (.int .i64 v1)) I I) I <| Z2 I (Zq (m := 1) (o := 0) I f46_0 I I) I <| Z2 I (Z11 (cs := (Z9 a0).cells) (v := (.sl 3 (a0.Trees.map Zs) false)) I o41 I I I) I <| Z2 I (stx_len (l := a0.Trees) (enc := Zs) I s41 I) I <| Z2 I (Z1o (k := .i64) (a := v1) (b := (a0.Trees.length : Int)) (c := (decide (v1 < (a0.Trees.length : Int)))) I I I I) I ?_
   refine Zf <| Zg ?_
   have hif := Z1u h
   refine Z16 I (fun hc => ?_) (fun hc => ?_)
   ·have h := hif.1 hc
    refine Z18 <| Zg <| Zh <| AWp.block <| Zh <| Zc <| Z2 I (Zq (m := 1) (o := 0) I f46_0 I I) I <| Z2 I (Z11 (cs := (Z9 a0).cells) (v := (.sl 3 (a0.Trees.map Zs) false)) I o41 I I I) I ?_
    refine Z2 I (Zi (v := (.int .i64 v1)) I I) I ?_
    have ⟨hg6, h⟩ := Z10 h
    refine Z2 I (Z1r (k := .i64) (l := a0.Trees) (enc := Zs) (z := Z5) (n := v1) (cs := (Zs (a0.Trees.getD v1.toNat Z5)).cells) (full := false) I s41 I I hg6 I) I <| Z2 I (st_fieldI (cs := (Zs (a0.Trees.getD v1.toNat Z5)).cells) (ds := [(.sl 11 ((a0.Trees.getD v1.toNat Z5).Calls.map Zm) false)]) I f102_2 I I I) I <| Z2 I (st_loadI (cs := [(.sl 11 ((a0.Trees.getD v1.toNat Z5).Calls.map Zm) false)]) (v := (.sl 11 ((a0.Trees.getD v1.toNat Z5).Calls.map Zm) false)) I o100 I I) I <| Z2 I (stx_len (l := (a0.Trees.getD v1.toNat Z5).Calls) (enc := Zm) I s100 I) I <| Z2 I (Z1o (k := .i64) (a := ((a0.Trees.getD v1.toNat Z5).Calls.length : Int)) (b := 8) (c := (decide (((a0.Trees.getD v1.toNat Z5).Calls.length : Int) > 8))) I I I I) I <| Zf <| Zg ?_
    have hif := Z1u h
    refine Z16 I (fun hc => ?_) (fun hc => ?_)
    ·have h := hif.1 hc
     refine Zh <| Zc <| Z2 I (Zj (v := (.bool false)) I I) I <| Zf <| Zg <| Z1e <| At.overR <| Z1i ?_
     refine Z1i (At.overR ?_)
     refine Z1i ?_
     have h := Option.some.inj h
     subst h
     refine (hret _ ?_).1
     exact ⟨[(.bool false)], ⟨rfl, trivial⟩, rfl, trivial⟩
    ·have h := hif.2 hc
     refine Z18 <| At.end <| Zg <| Zc <| Z2 I (Zi (v := (.int .i64 v1)) I I) I <| Z2 I (Z1h (k := .i64) (a := v1) (b := 1) (c := (IntKind.i64.wrap (v1 + 1))) I I I I) I <| Z2 I (Zj (v := (.int .i64 (IntKind.i64.wrap (v1 + 1)))) I I) I <| Zf ?_
     exact Zw (st' := ⟨[(1, (.ptr 1 0)), (3, (.int .i64 (IntKind.i64.wrap (v1 + 1))))], [(1, (.box (Z9 a0).cells))]⟩) ⟨rfl, rfl, trivial⟩ ⟨rfl, trivial⟩ (IH2 _ (IntKind.i64.wrap (v1 + 1)) (Nat.lt_succ_self _) h)
   ·have h := hif.2 hc
    refine AWp.exit <| At.thru ?_
    exact Zw (st' := ⟨[(1, (.ptr 1 0))], [(1, (.box (Z9 a0).cells))]⟩) ⟨rfl, trivial⟩ ⟨rfl, trivial⟩ (J2 () h)
def F62 (K : Nat) (a0 : Zp) (a1 : Int) : Option (Int) :=
 if (0 : Int) ≤ a1 ∧ a1 < a0.Trees.length then
  if (0 : Int) ≤ 20 then
   some (IntKind.i64.wrap ((IntKind.i64.wrap ((IntKind.i64.wrap ((IntKind.i64.wrap ((a0.Trees.getD a1.toNat Z5).Slot.tmod 64)) * 2 ^ (min (20 : Int).toNat IntKind.i64.bits))) + 1)) + a1))
  else none
 else none
theorem F62_ok (K : Nat) (a0 : Zp) (a1 : Int) (r : Int) (h : F62 K a0 a1 = some r) : ACall P 62 ⟨[(Z9 a0), (.int .i64 a1)], [], (.int .i64 r), [], []⟩ := by
 refine Z1t Try.func62 Try.results62 rfl Try.ntmps62 rfl rfl rfl ?_
 intro E Q hP hN hro hret
 obtain ⟨P', nt', w0, F0, p0, S0, β0, ro0⟩ := E
 simp only at hP hN
 subst hP hN
 dsimp only [argT]
 unfold F62 at h
 refine Zh <| Zc <| Z2 I (st_box (v := (Z9 a0)) (cs := (Z9 a0).cells) I I I I I) I <| Z2 I (Zj (v := (.int .i64 0)) I I) I <| Zf <| Zg <| Zh <| Zc ?_
 refine Z2 I (Zq (m := 2) (o := 0) I f46_0 I I) I <| Z2 I (Z11 (cs := (Z9 a0).cells) (v := (.sl 3 (a0.Trees.map Zs) false)) I o41 I I I) I <| Z2 I (Zi (v := (.int .i64 a1)) I I) I ?_
 have ⟨hg1, h⟩ := Z10 h
 refine Z2 I (Z1r (k := .i64) (l := a0.Trees) (enc := Zs) (z := Z5) (n := a1) (cs := (Zs (a0.Trees.getD a1.toNat Z5)).cells) (full := false) I s41 I I hg1 I) I <| Z2 I (st_fieldI (cs := (Zs (a0.Trees.getD a1.toNat Z5)).cells) (ds := (Zs (a0.Trees.getD a1.toNat Z5)).cells) I f102_0 I I I) I <| Z2 I (st_loadI (cs := (Zs (a0.Trees.getD a1.toNat Z5)).cells) (v := (.int .u8 (a0.Trees.getD a1.toNat Z5).Slot)) I o5 I I) I <| Z2 I (st_div (k := .u8) (a := (a0.Trees.getD a1.toNat Z5).Slot) (b := 64) (c := ((a0.Trees.getD a1.toNat Z5).Slot.tmod 64)) I I I I (by decide)) I <| Z2 I (st_conv I us5 u3 I) I ?_
 have ⟨hg2, h⟩ := Z10 h
 refine Z2 I (st_shift (k := .i64) (j := .u64) (a := (IntKind.i64.wrap ((a0.Trees.getD a1.toNat Z5).Slot.tmod 64))) (b := 20) (c := (IntKind.i64.wrap ((IntKind.i64.wrap ((a0.Trees.getD a1.toNat Z5).Slot.tmod 64)) * 2 ^ (min (20 : Int).toNat IntKind.i64.bits)))) I I I I hg2) I <| Z2 I (Z1h (k := .i64) (a := (IntKind.i64.wrap ((IntKind.i64.wrap ((a0.Trees.getD a1.toNat Z5).Slot.tmod 64)) * 2 ^ (min (20 : Int).toNat IntKind.i64.bits)))) (b := 1) (c := (IntKind.i64.wrap ((IntKind.i64.wrap ((IntKind.i64.wrap ((a0.Trees.getD a1.toNat Z5).Slot.tmod 64)) * 2 ^ (min (20 : Int).toNat IntKind.i64.bits))) + 1))) I I I I) I <| Z2 I (Zi (v := (.int .i64 a1)) I I) I <| Z2 I (Z1h (k := .i64) (a := (IntKind.i64.wrap ((IntKind.i64.wrap ((IntKind.i64.wrap ((a0.Trees.getD a1.toNat Z5).Slot.tmod 64)) * 2 ^ (min (20 : Int).toNat IntKind.i64.bits))) + 1))) (b := a1) (c := (IntKind.i64.wrap ((IntKind.i64.wrap ((IntKind.i64.wrap ((IntKind.i64.wrap ((a0.Trees.getD a1.toNat Z5).Slot.tmod 64)) * 2 ^ (min (20 : Int).toNat IntKind.i64.bits))) + 1)) + a1))) I I I I) I <| Z2 I (Zj (v := (.int .i64 (IntKind.i64.wrap ((IntKind.i64.wrap ((IntKind.i64.wrap ((IntKind.i64.wrap ((a0.Trees.getD a1.toNat Z5).Slot.tmod 64)) * 2 ^ (min (20 : Int).toNat IntKind.i64.bits))) + 1)) + a1)))) I I) I <| Zf <| Zg <| Z1e ?_
 have h := Option.some.inj h
 subst h
 refine (hret _ ?_).1
 exact ⟨[(.int .i64 (IntKind.i64.wrap ((IntKind.i64.wrap ((IntKind.i64.wrap ((IntKind.i64.wrap ((a0.Trees.getD a1.toNat Z5).Slot.tmod 64)) * 2 ^ (min (20 : Int).toNat IntKind.i64.bits))) + 1)) + a1)))], ⟨rfl, trivial⟩, rfl, trivial⟩
def F126 (K : Nat) (a0 : Z1w) : Option (Int) :=
 some (IntKind.i64.wrap (1 + (IntKind.i64.wrap (a0.Kind.tmod 5))))
theorem F126_ok (K : Nat) (a0 : Z1w) (r : Int) (h : F126 K a0 = some r) : ACall P 126 ⟨[(Zm a0)], [], (.int .i64 r), [], []⟩ := by
 refine Z1t Try.func126 Try.results126 rfl Try.ntmps126 rfl rfl rfl ?_
 intro E Q hP hN hro hret
 obtain ⟨P', nt', w0, F0, p0, S0, β0, ro0⟩ := E
 simp only at hP hN
 subst hP hN
 dsimp only [argT]
 unfold F126 at h
 refine Zh <| Zc <| Z2 I (st_box (v := (Zm a0)) (cs := (Zm a0).cells) I I I I I) I <| Z2 I (Zj (v := (.int .i64 0)) I I) I <| Zf <| Zg <| Zh <| Zc ?_
 refine Z2 I (Zq (m := 1) (o := 0) I f113_2 I I) I <| Z2 I (Z11 (cs := (Zm a0).cells) (v := (.int .u8 a0.Kind)) I o5 I I I) I <| Z2 I (st_div (k := .u8) (a := a0.Kind) (b := 5) (c := (a0.Kind.tmod 5)) I I I I (by decide)) I <| Z2 I (st_conv I us5 u3 I) I <| Z2 I (Z1h (k := .i64) (a := 1) (b := (IntKind.i64.wrap (a0.Kind.tmod 5))) (c := (IntKind.i64.wrap (1 + (IntKind.i64.wrap (a0.Kind.tmod 5))))) I I I I) I <| Z2 I (Zj (v := (.int .i64 (IntKind.i64.wrap (1 + (IntKind.i64.wrap (a0.Kind.tmod 5)))))) I I) I <| Zf <| Zg ?_
 refine Z1e ?_
 have h := Option.some.inj h
 subst h
 refine (hret _ ?_).1
 exact ⟨[(.int .i64 (IntKind.i64.wrap (1 + (IntKind.i64.wrap (a0.Kind.tmod 5)))))], ⟨rfl, trivial⟩, rfl, trivial⟩
def F100_c13 (K : Nat) (v5 : (List Int)) (v12 : (List Int)) : Option ((List Int) × (List Int)) :=
 some (v5, v12)
def F100_j21 (K : Nat) (b15 : Int → (List Int) → Option ((List Int) × (List Int))) (v9 : Int) (v20 : (List Int)) : Option ((List Int) × (List Int)) :=
 b15 (IntKind.i64.wrap (v9 - 1)) v20
def F100_j19 (K : Nat) (a0 : Z13) (v9 : Int) (v10 : (List Int)) (b15 : Int → (List Int) → Option ((List Int) × (List Int))) (v18 : Bool) : Option ((List Int) × (List Int)) :=
 if v18 = true then
  if (0 : Int) ≤ ((IntKind.i64.wrap (a0.Calls.getD v9.toNat Z4).Parent).tmod (IntKind.i64.wrap (v9 + 1))) ∧ ((IntKind.i64.wrap (a0.Calls.getD v9.toNat Z4).Parent).tmod (IntKind.i64.wrap (v9 + 1))) < (v10.length : Nat) then
   if ((IntKind.i64.wrap (a0.Calls.getD v9.toNat Z4).Parent).tmod (IntKind.i64.wrap (v9 + 1))).toNat < v10.length then
    if (0 : Int) ≤ v9 ∧ v9 < (v10.length : Nat) then
     if v9.toNat < v10.length then
      if (0 : Int) ≤ ((IntKind.i64.wrap (a0.Calls.getD v9.toNat Z4).Parent).tmod (IntKind.i64.wrap (v9 + 1))) ∧ ((IntKind.i64.wrap (a0.Calls.getD v9.toNat Z4).Parent).tmod (IntKind.i64.wrap (v9 + 1))) < (v10.length : Nat) then
       if ((IntKind.i64.wrap (a0.Calls.getD v9.toNat Z4).Parent).tmod (IntKind.i64.wrap (v9 + 1))).toNat < v10.length then
        F100_j21 K b15 v9 (v10.set ((IntKind.i64.wrap (a0.Calls.getD v9.toNat Z4).Parent).tmod (IntKind.i64.wrap (v9 + 1))).toNat (if (v10.getD v9.toNat 0) > (v10.getD ((IntKind.i64.wrap (a0.Calls.getD v9.toNat Z4).Parent).tmod (IntKind.i64.wrap (v9 + 1))).toNat 0) then (v10.getD v9.toNat 0) else (v10.getD ((IntKind.i64.wrap (a0.Calls.getD v9.toNat Z4).Parent).tmod (IntKind.i64.wrap (v9 + 1))).toNat 0)))
       else none
      else none
     else none
    else none
   else none
  else none
 else
  F100_j21 K b15 v9 v10
def F100_l11 (K : Nat) (a0 : Z13) (c14 : (List Int) → Option ((List Int) × (List Int))) : Nat → Int → (List Int) → Option ((List Int) × (List Int))
 | 0, _, _ => none
 | k11 + 1, v9, v10 =>
  if (decide (v9 > 0)) = true then
   if (0 : Int) ≤ v9 ∧ v9 < a0.Calls.length then
    if (IntKind.i64.wrap (v9 + 1)) ≠ 0 then
     if (decide (((IntKind.i64.wrap (a0.Calls.getD v9.toNat Z4).Parent).tmod (IntKind.i64.wrap (v9 + 1))) < v9)) = true then
      if (0 : Int) ≤ v9 ∧ v9 < a0.Calls.length then
       (F126 K (a0.Calls.getD v9.toNat Z4)).bind fun v30 =>
        if (v30 == 3) = true then
         if (0 : Int) ≤ ((IntKind.i64.wrap (a0.Calls.getD v9.toNat Z4).Parent).tmod (IntKind.i64.wrap (v9 + 1))) ∧ ((IntKind.i64.wrap (a0.Calls.getD v9.toNat Z4).Parent).tmod (IntKind.i64.wrap (v9 + 1))) < a0.Calls.length then
          (F126 K (a0.Calls.getD ((IntKind.i64.wrap (a0.Calls.getD v9.toNat Z4).Parent).tmod (IntKind.i64.wrap (v9 + 1))).toNat Z4)).bind fun v33 =>
           if (v33 == 2) = true then
            if (0 : Int) ≤ ((IntKind.i64.wrap (a0.Calls.getD v9.toNat Z4).Parent).tmod (IntKind.i64.wrap (v9 + 1))) ∧ ((IntKind.i64.wrap (a0.Calls.getD v9.toNat Z4).Parent).tmod (IntKind.i64.wrap (v9 + 1))) < a0.Calls.length then
             F100_j19 K a0 v9 v10 (F100_l11 K a0 c14 k11) (!(a0.Calls.getD ((IntKind.i64.wrap (a0.Calls.getD v9.toNat Z4).Parent).tmod (IntKind.i64.wrap (v9 + 1))).toNat Z4).Fail)
            else none
           else
            F100_j19 K a0 v9 v10 (F100_l11 K a0 c14 k11) false
         else none
        else
         F100_j19 K a0 v9 v10 (F100_l11 K a0 c14 k11) false
      else none
     else
      F100_j19 K a0 v9 v10 (F100_l11 K a0 c14 k11) false
    else none
   else none
  else
   c14 v10
def F100_c7 (K : Nat) (a0 : Z13) (v5 : (List Int)) (v6 : (List Int)) : Option ((List Int) × (List Int)) :=
 F100_l11 K a0 (F100_c13 K v5) K (IntKind.i64.wrap ((a0.Calls.length : Int) - 1)) v6
def F100_j41 (K : Nat) (v2 : (List Int)) (v3 : (List Int)) (a0 : Z13) (v1 : Int) (b35 : Int → (List Int) → (List Int) → Option ((List Int) × (List Int))) (v40 : Int) : Option ((List Int) × (List Int)) :=
 if v2.length + [v40].length ≤ 1073741824 then
  if v3.length + [(IntKind.i64.wrap (v40 + (IntKind.i64.wrap ((a0.Calls.getD v1.toNat Z4).Long.tmod 32))))].length ≤ 1073741824 then
   b35 (IntKind.i64.wrap (v1 + 1)) (v2 ++ [v40]) (v3 ++ [(IntKind.i64.wrap (v40 + (IntKind.i64.wrap ((a0.Calls.getD v1.toNat Z4).Long.tmod 32))))])
  else none
 else none
def F100_j39 (K : Nat) (v1 : Int) (v2 : (List Int)) (v3 : (List Int)) (a0 : Z13) (b35 : Int → (List Int) → (List Int) → Option ((List Int) × (List Int))) (v38 : Int) : Option ((List Int) × (List Int)) :=
 if (decide (v1 > 0)) = true then
  F100_j41 K v2 v3 a0 v1 b35 (IntKind.i64.wrap (v38 + (IntKind.i64.wrap ((a0.Calls.getD v1.toNat Z4).Wait.tmod 32))))
 else
  F100_j41 K v2 v3 a0 v1 b35 v38
def F100_l4 (K : Nat) (a0 : Z13) (c8 : (List Int) → (List Int) → Option ((List Int) × (List Int))) : Nat → Int → (List Int) → (List Int) → Option ((List Int) × (List Int))
 | 0, _, _, _ => none
 | k4 + 1, v1, v2, v3 =>
  if (decide (v1 < (a0.Calls.length : Int))) = true then
   if (0 : Int) ≤ v1 ∧ v1 < a0.Calls.length then
    if (IntKind.i64.wrap (v1 + 1)) ≠ 0 then
     if (decide (((IntKind.i64.wrap (a0.Calls.getD v1.toNat Z4).Parent).tmod (IntKind.i64.wrap (v1 + 1))) < v1)) = true then
      if (0 : Int) ≤ ((IntKind.i64.wrap (a0.Calls.getD v1.toNat Z4).Parent).tmod (IntKind.i64.wrap (v1 + 1))) ∧ ((IntKind.i64.wrap (a0.Calls.getD v1.toNat Z4).Parent).tmod (IntKind.i64.wrap (v1 + 1))) < (v2.length : Nat) then
       if ((IntKind.i64.wrap (a0.Calls.getD v1.toNat Z4).Parent).tmod (IntKind.i64.wrap (v1 + 1))).toNat < v2.length then
        F100_j39 K v1 v2 v3 a0 (F100_l4 K a0 c8 k4) (v2.getD ((IntKind.i64.wrap (a0.Calls.getD v1.toNat Z4).Parent).tmod (IntKind.i64.wrap (v1 + 1))).toNat 0)
       else none
      else none
     else
      F100_j39 K v1 v2 v3 a0 (F100_l4 K a0 c8 k4) (IntKind.i64.wrap (1000 + (IntKind.i64.wrap (a0.Start.tmod 32))))
    else none
   else none
  else
   c8 v2 v3
def F100 (K : Nat) (a0 : Z13) : Option ((List Int) × (List Int)) :=
 F100_l4 K a0 (F100_c7 K a0) K 0 [] []
theorem F100_ok (K : Nat) (a0 : Z13) (r : (List Int) × (List Int)) (h : F100 K a0 = some r) : ACall P 100 ⟨[(Zs a0)], [], (.tup [(.sl 1 (r.1.map Z1k) false), (.sl 1 (r.2.map Z1k) false)]), [], []⟩ := by
 refine Z1t Try.func100 Try.results100 rfl Try.ntmps100 rfl rfl rfl ?_
 intro E Q hP hN hro hret
 obtain ⟨P', nt', w0, F0, p0, S0, β0, ro0⟩ := E
 simp only at hP hN
 subst hP hN
 dsimp only [argT]
 unfold F100 at h
 refine Zh <| Zc <| Z2 I (st_box (v := (Zs a0)) (cs := (Zs a0).cells) I I I I I) I <| Z2 I (Zj (v := (.sl 1 [] true)) I I) I <| Z2 I (Zj (v := (.sl 1 [] true)) I I) I <| Zf <| Zg <| Zh ?_
 refine Zh <| Zc <| Z2 I (Zj (v := (.int .i64 0)) I I) I <| Zf <| Zg <| AWp.ghost (st' := ⟨[(1, (.ptr 1 0)), (2, (.vs 2)), (3, (.vs 3)), (4, (.int .i64 0))], [(1, (.box (Zs a0).cells)), (2, (.vec 1 (List.map Z1k ([] : List Int)))), (3, (.vec 1 (List.map Z1k ([] : List Int))))]⟩) (fun a w h => (Z1a ⟨[(1, (.ptr 1 0)), (2, (.vs 2)), (3, (.vs 3)), (4, (.int .i64 0))], [(1, (.box (Zs a0).cells)), (2, (.vec 1 (List.map Z1k ([] : List Int)))), (3, (.vec 1 (List.map Z1k ([] : List Int))))]⟩ (ghost_own (k := 3) (m := 3) (sz := 1) I I a w (Z1a ⟨[(3, (.sl 1 [] true)), (1, (.ptr 1 0)), (2, (.vs 2)), (4, (.int .i64 0))], [(1, (.box (Zs a0).cells)), (2, (.vec 1 (List.map Z1k ([] : List Int))))]⟩ (Z1a ⟨[(1, (.ptr 1 0)), (2, (.vs 2)), (3, (.sl 1 [] true)), (4, (.int .i64 0))], [(1, (.box (Zs a0).cells)), (2, (.vec 1 (List.map Z1k ([] : List Int))))]⟩ (ghost_own (k := 2) (m := 2) (sz := 1) I I a w (Z1a ⟨[(2, (.sl 1 [] true)), (1, (.ptr 1 0)), (3, (.sl 1 [] true)), (4, (.int .i64 0))], [(1, (.box (Zs a0).cells))]⟩ h ⟨rfl, rfl, rfl, rfl, trivial⟩ ⟨rfl, trivial⟩)) ⟨rfl, rfl, rfl, rfl, trivial⟩ ⟨rfl, rfl, trivial⟩) ⟨rfl, rfl, rfl, rfl, trivial⟩ ⟨rfl, rfl, trivial⟩)) ⟨rfl, rfl, rfl, rfl, trivial⟩ ⟨rfl, rfl, rfl, trivial⟩)) <| Z1x (st' := ⟨[(1, (.ptr 1 0)), (2, (.vs 2)), (3, (.vs 3)), (4, (.int .i64 0))], [(1, (.box (Zs a0).cells)), (2, (.vec 1 (List.map Z1k []))), (3, (.vec 1 (List.map Z1k [])))]⟩) ⟨rfl, rfl, rfl, rfl, trivial⟩ ⟨rfl, rfl, rfl, trivial⟩ ?_
 refine Z1j (V := Int × (List Int) × (List Int)) (X := (List Int) × (List Int)) (lp := fun k v => F100_l4 K a0 (F100_c7 K a0) k v.1 v.2.1 v.2.2 = some r) (sh := fun v => ⟨[(1, (.ptr 1 0)), (2, (.vs 2)), (3, (.vs 3)), (4, (.int .i64 v.1))], [(1, (.box (Zs a0).cells)), (2, (.vec 1 (List.map Z1k v.2.1))), (3, (.vec 1 (List.map Z1k v.2.2)))]⟩) (x := fun v => F100_c7 K a0 v.1 v.2 = some r) (shx := fun v => ⟨[(1, (.ptr 1 0)), (2, (.vs 2)), (3, (.vs 3))], [(1, (.box (Zs a0).cells)), (2, (.vec 1 (List.map Z1k v.1))), (3, (.vec 1 (List.map Z1k v.2)))]⟩) (k := K) (v := (0, [], [])) h ?_ ?_
 ·intro v h
  obtain ⟨v5, v6⟩ := v
  try dsimp only at h ⊢
  unfold F100_c7 at h
  refine Zg <| Zh <| Zh <| Zc <| Z2 I (Zq (m := 1) (o := 0) I f102_2 I I) I <| Z2 I (Z11 (cs := (Zs a0).cells) (v := (.sl 11 (a0.Calls.map Zm) false)) I o100 I I I) I <| Z2 I (stx_len (l := a0.Calls) (enc := Zm) I s100 I) I <| Z2 I (Z1h (k := .i64) (a := (a0.Calls.length : Int)) (b := 1) (c := (IntKind.i64.wrap ((a0.Calls.length : Int) - 1))) I I I I) I ?_
  refine Z2 I (Zj (v := (.int .i64 (IntKind.i64.wrap ((a0.Calls.length : Int) - 1)))) I I) I <| Zf <| Zg <| Z1x (st' := ⟨[(1, (.ptr 1 0)), (2, (.vs 2)), (3, (.vs 3)), (8, (.int .i64 (IntKind.i64.wrap ((a0.Calls.length : Int) - 1))))], [(1, (.box (Zs a0).cells)), (2, (.vec 1 (List.map Z1k v5))), (3, (.vec 1 (List.map Z1k v6)))]⟩) ⟨rfl, rfl, rfl, rfl, trivial⟩ ⟨rfl, rfl, rfl, trivial⟩ ?_
  refine Z1j (V := Int × (List Int)) (X := (List Int)) (lp := fun k v => F100_l11 K a0 (F100_c13 K v5) k v.1 v.2 = some r) (sh := fun v => ⟨[(1, (.ptr 1 0)), (2, (.vs 2)), (3, (.vs 3)), (8, (.int .i64 v.1))], [(1, (.box (Zs a0).cells)), (2, (.vec 1 (List.map Z1k v5))), (3, (.vec 1 (List.map Z1k v.2)))]⟩) (x := fun v => F100_c13 K v5 v = some r) (shx := fun v => ⟨[(2, (.vs 2)), (3, (.vs 3))], [(2, (.vec 1 (List.map Z1k v5))), (3, (.vec 1 (List.map Z1k v)))]⟩) (k := K) (v := ((IntKind.i64.wrap ((a0.Calls.length : Int) - 1)), v6)) h ?_ ?_
  ·intro v h
   revert h
   revert v
   intro v12 h
   try dsimp only at h ⊢
   unfold F100_c13 at h
   refine Zg <| Zh <| Zc <| Z2 I (Zi (v := (.vs 2)) I I) I <| Z2 I (Zi (v := (.vs 3)) I I) I <| Z2 I (Zj (v := (.vs 2)) I I) I <| Z2 I (Zj (v := (.vs 3)) I I) I <| Zf ?_
   refine Zg <| Z1e <| At.ghost (st' := ⟨[(2, (.sl 1 (v5.map Z1k) false)), (3, (.sl 1 (v12.map Z1k) false))], []⟩) (fun a w h => (Z1a ⟨[(2, (.sl 1 (v5.map Z1k) false)), (3, (.sl 1 (v12.map Z1k) false))], []⟩ (ghost_freeze (m := 3) (sz := 1) (es := (List.map Z1k v12)) a w (Z1a ⟨[(2, (.sl 1 (v5.map Z1k) false)), (3, (.vs 3))], [(3, (.vec 1 (List.map Z1k v12)))]⟩ (Z1a ⟨[(2, (.sl 1 (v5.map Z1k) false)), (3, (.vs 3))], [(3, (.vec 1 (List.map Z1k v12)))]⟩ (ghost_freeze (m := 2) (sz := 1) (es := (List.map Z1k v5)) a w (Z1a ⟨[(2, (.vs 2)), (3, (.vs 3))], [(2, (.vec 1 (List.map Z1k v5))), (3, (.vec 1 (List.map Z1k v12)))]⟩ h ⟨rfl, rfl, trivial⟩ ⟨rfl, rfl, trivial⟩)) ⟨rfl, rfl, trivial⟩ ⟨rfl, trivial⟩) ⟨rfl, rfl, trivial⟩ ⟨rfl, trivial⟩)) ⟨rfl, rfl, trivial⟩ trivial)) ?_
   have h := Option.some.inj h
   subst h
   refine (hret _ ?_).1
   exact ⟨[(.sl 1 (v5.map Z1k) false), (.sl 1 (v12.map Z1k) false)], ⟨rfl, rfl, trivial⟩, rfl, trivial⟩
  ·intro N k11 v h IH11 J11
   obtain ⟨v9, v10⟩ := v
   try dsimp only at h IH11 J11 ⊢
   cases k11 with
   | zero => cases h
   | succ k11 =>
    rw [F100_l11] at h
    refine Zh <| Zh <| Zc <| Z2 I (Zi (v := (.int .i64 v9)) I I) I <| Z2 I (Z1o (k := .i64) (a := v9) (b := 0) (c := (decide (v9 > 0))) I I I I) I <| Zf <| Zg ?_
    have hif := Z1u h
    refine Z16 I (fun hc => ?_) (fun hc => ?_)
    ·have h := hif.1 hc
     refine Z18 <| Zg <| Zh <| AWp.block <| Zh <| Zc <| Z2 I (Zq (m := 1) (o := 0) I f102_2 I I) I <| Z2 I (Z11 (cs := (Zs a0).cells) (v := (.sl 11 (a0.Calls.map Zm) false)) I o100 I I I) I ?_
     refine Z2 I (Zi (v := (.int .i64 v9)) I I) I ?_
     have ⟨hg16, h⟩ := Z10 h
     refine Z2 I (Z1r (k := .i64) (l := a0.Calls) (enc := Zm) (z := Z4) (n := v9) (cs := (Zm (a0.Calls.getD v9.toNat Z4)).cells) (full := false) I s100 I I hg16 I) I <| Z2 I (st_fieldI (cs := (Zm (a0.Calls.getD v9.toNat Z4)).cells) (ds := (Zm (a0.Calls.getD v9.toNat Z4)).cells) I f113_0 I I I) I <| Z2 I (st_loadI (cs := (Zm (a0.Calls.getD v9.toNat Z4)).cells) (v := (.int .u8 (a0.Calls.getD v9.toNat Z4).Parent)) I o5 I I) I <| Z2 I (st_conv I us5 u3 I) I <| Z2 I (Zi (v := (.int .i64 v9)) I I) I <| Z2 I (Z1h (k := .i64) (a := v9) (b := 1) (c := (IntKind.i64.wrap (v9 + 1))) I I I I) I ?_
     have ⟨hg17, h⟩ := Z10 h
     refine Z2 I (st_div (k := .i64) (a := (IntKind.i64.wrap (a0.Calls.getD v9.toNat Z4).Parent)) (b := (IntKind.i64.wrap (v9 + 1))) (c := ((IntKind.i64.wrap (a0.Calls.getD v9.toNat Z4).Parent).tmod (IntKind.i64.wrap (v9 + 1)))) I I I I hg17) I <| Z2 I (Zj (v := (.int .i64 ((IntKind.i64.wrap (a0.Calls.getD v9.toNat Z4).Parent).tmod (IntKind.i64.wrap (v9 + 1))))) I I) I <| Zf <| Zg <| Zh ?_
     refine AWp.join (V := Bool) (lp := fun v => F100_j19 K a0 v9 v10 (F100_l11 K a0 (F100_c13 K v5) k11) v = some r) (sh := fun v => ⟨[(1, (.ptr 1 0)), (2, (.vs 2)), (3, (.vs 3)), (8, (.int .i64 v9)), (9, (.int .i64 ((IntKind.i64.wrap (a0.Calls.getD v9.toNat Z4).Parent).tmod (IntKind.i64.wrap (v9 + 1))))), (108, (.bool v))], [(1, (.box (Zs a0).cells)), (2, (.vec 1 (List.map Z1k v5))), (3, (.vec 1 (List.map Z1k v10)))]⟩) ?_ ?_
     ·intro v h
      revert h
      revert v
      intro v18 h
      try dsimp only at h ⊢
      unfold F100_j19 at h
      refine Zg ?_
      refine AWp.join (V := (List Int)) (lp := fun v => F100_j21 K (F100_l11 K a0 (F100_c13 K v5) k11) v9 v = some r) (sh := fun v => ⟨[(1, (.ptr 1 0)), (2, (.vs 2)), (3, (.vs 3)), (8, (.int .i64 v9))], [(1, (.box (Zs a0).cells)), (2, (.vec 1 (List.map Z1k v5))), (3, (.vec 1 (List.map Z1k v)))]⟩) ?_ ?_
      ·intro v h
       revert h
       revert v
       intro v20 h
       try dsimp only at h ⊢
       unfold F100_j21 at h
       refine At.end <| Zg <| Zc <| Z2 I (Zi (v := (.int .i64 v9)) I I) I <| Z2 I (Z1h (k := .i64) (a := v9) (b := 1) (c := (IntKind.i64.wrap (v9 - 1))) I I I I) I <| Z2 I (Zj (v := (.int .i64 (IntKind.i64.wrap (v9 - 1)))) I I) I <| Zf ?_
       exact Zw (st' := ⟨[(1, (.ptr 1 0)), (2, (.vs 2)), (3, (.vs 3)), (8, (.int .i64 (IntKind.i64.wrap (v9 - 1))))], [(1, (.box (Zs a0).cells)), (2, (.vec 1 (List.map Z1k v5))), (3, (.vec 1 (List.map Z1k v20)))]⟩) ⟨rfl, rfl, rfl, rfl, trivial⟩ ⟨rfl, rfl, rfl, trivial⟩ (IH11 _ ((IntKind.i64.wrap (v9 - 1)), v20) (Nat.lt_succ_self _) h)
      ·intro J21
       have hif := Z1u h
       refine Z16 I (fun hc => ?_) (fun hc => ?_)
       ·have h := hif.1 hc
        refine Z1s mixed <| Z7 0 I (Zi (v := (.vs 3)) I I) <| Z7 1 I (Zi (v := (.int .i64 ((IntKind.i64.wrap (a0.Calls.getD v9.toNat Z4).Parent).tmod (IntKind.i64.wrap (v9 + 1))))) I I) <| Z7 2 I (Zi (v := (.vs 3)) I I) <| Z7 3 I (Zi (v := (.int .i64 ((IntKind.i64.wrap (a0.Calls.getD v9.toNat Z4).Parent).tmod (IntKind.i64.wrap (v9 + 1))))) I I) ?_
        have ⟨hg22, h⟩ := Z10 h
        refine Z7 4 I (st_indexV (k := .i64) (v := (.vs 3)) (n := 3) (off := 0) (len := v10.length) (es := (List.map Z1k v10)) (j := ((IntKind.i64.wrap (a0.Calls.getD v9.toNat Z4).Parent).tmod (IntKind.i64.wrap (v9 + 1)))) (m := ((IntKind.i64.wrap (a0.Calls.getD v9.toNat Z4).Parent).tmod (IntKind.i64.wrap (v9 + 1))).toNat) I s87 I I (vecR_map _ _ _) I hg22 (Nat.zero_add _)) ?_
        have ⟨hg23, h⟩ := Z10 h
        refine Z7 5 I (st_loadV (l := v10) (enc := Z1k) (z := 0) (v := (.int .i64 (v10.getD ((IntKind.i64.wrap (a0.Calls.getD v9.toNat Z4).Parent).tmod (IntKind.i64.wrap (v9 + 1))).toNat 0))) I o3 I I hg23 I) <| Z7 6 I (Zi (v := (.vs 3)) I I) <| Z7 7 I (Zi (v := (.int .i64 v9)) I I) ?_
        have ⟨hg24, h⟩ := Z10 h
        refine Z7 8 I (st_indexV (k := .i64) (v := (.vs 3)) (n := 3) (off := 0) (len := v10.length) (es := (List.map Z1k v10)) (j := v9) (m := v9.toNat) I s87 I I (vecR_map _ _ _) I hg24 (Nat.zero_add _)) ?_
        have ⟨hg25, h⟩ := Z10 h
        refine Z7 9 I (st_loadV (l := v10) (enc := Z1k) (z := 0) (v := (.int .i64 (v10.getD v9.toNat 0))) I o3 I I hg25 I) <| Z7 10 I (st_max (k := .i64) (a := (v10.getD ((IntKind.i64.wrap (a0.Calls.getD v9.toNat Z4).Parent).tmod (IntKind.i64.wrap (v9 + 1))).toNat 0)) (b := (v10.getD v9.toNat 0)) I I I) ?_
        have ⟨hg26, h⟩ := Z10 h
        refine Z7 11 I (st_indexV (k := .i64) (v := (.vs 3)) (n := 3) (off := 0) (len := v10.length) (es := (List.map Z1k v10)) (j := ((IntKind.i64.wrap (a0.Calls.getD v9.toNat Z4).Parent).tmod (IntKind.i64.wrap (v9 + 1)))) (m := ((IntKind.i64.wrap (a0.Calls.getD v9.toNat Z4).Parent).tmod (IntKind.i64.wrap (v9 + 1))).toNat) I s87 I I (vecR_map _ _ _) I hg26 (Nat.zero_add _)) ?_
        have ⟨hg27, h⟩ := Z10 h
        refine Z7 12 I (st_storeV (l := v10) (enc := Z1k) (z := 0) (a := (if (v10.getD v9.toNat 0) > (v10.getD ((IntKind.i64.wrap (a0.Calls.getD v9.toNat Z4).Parent).tmod (IntKind.i64.wrap (v9 + 1))).toNat 0) then (v10.getD v9.toNat 0) else (v10.getD ((IntKind.i64.wrap (a0.Calls.getD v9.toNat Z4).Parent).tmod (IntKind.i64.wrap (v9 + 1))).toNat 0))) (v := (.int .i64 (if (v10.getD v9.toNat 0) > (v10.getD ((IntKind.i64.wrap (a0.Calls.getD v9.toNat Z4).Parent).tmod (IntKind.i64.wrap (v9 + 1))).toNat 0) then (v10.getD v9.toNat 0) else (v10.getD ((IntKind.i64.wrap (a0.Calls.getD v9.toNat Z4).Parent).tmod (IntKind.i64.wrap (v9 + 1))).toNat 0)))) sz3 I I hg27 I els_i64 I I I I) <| Z1v (by kernel_rfl) I ?_
        exact Zw (st' := ⟨[(1, (.ptr 1 0)), (2, (.vs 2)), (3, (.vs 3)), (8, (.int .i64 v9))], [(1, (.box (Zs a0).cells)), (2, (.vec 1 (List.map Z1k v5))), (3, (.vec 1 (List.map Z1k (v10.set ((IntKind.i64.wrap (a0.Calls.getD v9.toNat Z4).Parent).tmod (IntKind.i64.wrap (v9 + 1))).toNat (if (v10.getD v9.toNat 0) > (v10.getD ((IntKind.i64.wrap (a0.Calls.getD v9.toNat Z4).Parent).tmod (IntKind.i64.wrap (v9 + 1))).toNat 0) then (v10.getD v9.toNat 0) else (v10.getD ((IntKind.i64.wrap (a0.Calls.getD v9.toNat Z4).Parent).tmod (IntKind.i64.wrap (v9 + 1))).toNat 0))))))]⟩) ⟨rfl, rfl, rfl, rfl, trivial⟩ ⟨rfl, rfl, rfl, trivial⟩ (J21 (v10.set ((IntKind.i64.wrap (a0.Calls.getD v9.toNat Z4).Parent).tmod (IntKind.i64.wrap (v9 + 1))).toNat (if (v10.getD v9.toNat 0) > (v10.getD ((IntKind.i64.wrap (a0.Calls.getD v9.toNat Z4).Parent).tmod (IntKind.i64.wrap (v9 + 1))).toNat 0) then (v10.getD v9.toNat 0) else (v10.getD ((IntKind.i64.wrap (a0.Calls.getD v9.toNat Z4).Parent).tmod (IntKind.i64.wrap (v9 + 1))).toNat 0))) h)
       ·have h := hif.2 hc
        refine Z18 ?_
        exact Zw (st' := ⟨[(1, (.ptr 1 0)), (2, (.vs 2)), (3, (.vs 3)), (8, (.int .i64 v9))], [(1, (.box (Zs a0).cells)), (2, (.vec 1 (List.map Z1k v5))), (3, (.vec 1 (List.map Z1k v10)))]⟩) ⟨rfl, rfl, rfl, rfl, trivial⟩ ⟨rfl, rfl, rfl, trivial⟩ (J21 v10 h)
     ·intro J19
      refine Zc <| Z2 I (Zi (v := (.int .i64 ((IntKind.i64.wrap (a0.Calls.getD v9.toNat Z4).Parent).tmod (IntKind.i64.wrap (v9 + 1))))) I I) I <| Z2 I (Zi (v := (.int .i64 v9)) I I) I <| Z2 I (Z1o (k := .i64) (a := ((IntKind.i64.wrap (a0.Calls.getD v9.toNat Z4).Parent).tmod (IntKind.i64.wrap (v9 + 1)))) (b := v9) (c := (decide (((IntKind.i64.wrap (a0.Calls.getD v9.toNat Z4).Parent).tmod (IntKind.i64.wrap (v9 + 1))) < v9))) I I I I) I <| Z2 I (Zi (v := (.bool (decide (((IntKind.i64.wrap (a0.Calls.getD v9.toNat Z4).Parent).tmod (IntKind.i64.wrap (v9 + 1))) < v9)))) I I) I ?_
      have hif := Z1u h
      refine AOps.split (fun hc => ?_) (fun hc => ?_)
      ·have h := hif.1 hc
       refine Zz I I I I (Zq (m := 1) (o := 0) I f102_2 I I) I <| Zz I I I I (Z11 (cs := (Zs a0).cells) (v := (.sl 11 (a0.Calls.map Zm) false)) I o100 I I I) I <| Zz I I I I (Zi (v := (.int .i64 v9)) I I) I ?_
       have ⟨hg28, h⟩ := Z10 h
       refine Zz I I I I (Z1r (k := .i64) (l := a0.Calls) (enc := Zm) (z := Z4) (n := v9) (cs := (Zm (a0.Calls.getD v9.toNat Z4)).cells) (full := false) I s100 I I hg28 I) I <| Zz I I I I (st_loadIA (cs := (Zm (a0.Calls.getD v9.toNat Z4)).cells) (vs := (Zm (a0.Calls.getD v9.toNat Z4)).cells) I a113 I I I) I ?_
       have ⟨v30, hv30, h⟩ := Z19 h
       refine Zz I I I I (Z17 (ar := [(Zm (a0.Calls.getD v9.toNat Z4))]) (caps := []) Try.call126 (F126_ok K (a0.Calls.getD v9.toNat Z4) v30 hv30) I I ⟨rfl, trivial⟩ I) I <| Zz I I I I (Z1o (k := .i64) (a := v30) (b := 3) (c := (v30 == 3)) I I I I) I <| Z2 I (st_pickT (v := (.bool (v30 == 3))) I I I) I <| Z2 I (Zi (v := (.bool (v30 == 3))) I I) I ?_
       have hif := Z1u h
       refine AOps.split (fun hc => ?_) (fun hc => ?_)
       ·have h := hif.1 hc
        refine Zz I I I I (Zq (m := 1) (o := 0) I f102_2 I I) I <| Zz I I I I (Z11 (cs := (Zs a0).cells) (v := (.sl 11 (a0.Calls.map Zm) false)) I o100 I I I) I <| Zz I I I I (Zi (v := (.int .i64 ((IntKind.i64.wrap (a0.Calls.getD v9.toNat Z4).Parent).tmod (IntKind.i64.wrap (v9 + 1))))) I I) I ?_
        have ⟨hg31, h⟩ := Z10 h
        refine Zz I I I I (Z1r (k := .i64) (l := a0.Calls) (enc := Zm) (z := Z4) (n := ((IntKind.i64.wrap (a0.Calls.getD v9.toNat Z4).Parent).tmod (IntKind.i64.wrap (v9 + 1)))) (cs := (Zm (a0.Calls.getD ((IntKind.i64.wrap (a0.Calls.getD v9.toNat Z4).Parent).tmod (IntKind.i64.wrap (v9 + 1))).toNat Z4)).cells) (full := false) I s100 I I hg31 I) I <| Zz I I I I (st_loadIA (cs := (Zm (a0.Calls.getD ((IntKind.i64.wrap (a0.Calls.getD v9.toNat Z4).Parent).tmod (IntKind.i64.wrap (v9 + 1))).toNat Z4)).cells) (vs := (Zm (a0.Calls.getD ((IntKind.i64.wrap (a0.Calls.getD v9.toNat Z4).Parent).tmod (IntKind.i64.wrap (v9 + 1))).toNat Z4)).cells) I a113 I I I) I ?_
        have ⟨v33, hv33, h⟩ := Z19 h
        refine Zz I I I I (Z17 (ar := [(Zm (a0.Calls.getD ((IntKind.i64.wrap (a0.Calls.getD v9.toNat Z4).Parent).tmod (IntKind.i64.wrap (v9 + 1))).toNat Z4))]) (caps := []) Try.call126 (F126_ok K (a0.Calls.getD ((IntKind.i64.wrap (a0.Calls.getD v9.toNat Z4).Parent).tmod (IntKind.i64.wrap (v9 + 1))).toNat Z4) v33 hv33) I I ⟨rfl, trivial⟩ I) I <| Zz I I I I (Z1o (k := .i64) (a := v33) (b := 2) (c := (v33 == 2)) I I I I) I <| Z2 I (st_pickT (v := (.bool (v33 == 2))) I I I) I <| Z2 I (Zi (v := (.bool (v33 == 2))) I I) I ?_
        have hif := Z1u h
        refine AOps.split (fun hc => ?_) (fun hc => ?_)
        ·have h := hif.1 hc
         refine Zz I I I I (Zq (m := 1) (o := 0) I f102_2 I I) I <| Zz I I I I (Z11 (cs := (Zs a0).cells) (v := (.sl 11 (a0.Calls.map Zm) false)) I o100 I I I) I <| Zz I I I I (Zi (v := (.int .i64 ((IntKind.i64.wrap (a0.Calls.getD v9.toNat Z4).Parent).tmod (IntKind.i64.wrap (v9 + 1))))) I I) I ?_
         have ⟨hg34, h⟩ := Z10 h
         refine Zz I I I I (Z1r (k := .i64) (l := a0.Calls) (enc := Zm) (z := Z4) (n := ((IntKind.i64.wrap (a0.Calls.getD v9.toNat Z4).Parent).tmod (IntKind.i64.wrap (v9 + 1)))) (cs := (Zm (a0.Calls.getD ((IntKind.i64.wrap (a0.Calls.getD v9.toNat Z4).Parent).tmod (IntKind.i64.wrap (v9 + 1))).toNat Z4)).cells) (full := false) I s100 I I hg34 I) I <| Zz I I I I (st_fieldI (cs := (Zm (a0.Calls.getD ((IntKind.i64.wrap (a0.Calls.getD v9.toNat Z4).Parent).tmod (IntKind.i64.wrap (v9 + 1))).toNat Z4)).cells) (ds := [(.bool (a0.Calls.getD ((IntKind.i64.wrap (a0.Calls.getD v9.toNat Z4).Parent).tmod (IntKind.i64.wrap (v9 + 1))).toNat Z4).Fail)]) I f113_10 I I I) I <| Zz I I I I (st_loadI (cs := [(.bool (a0.Calls.getD ((IntKind.i64.wrap (a0.Calls.getD v9.toNat Z4).Parent).tmod (IntKind.i64.wrap (v9 + 1))).toNat Z4).Fail)]) (v := (.bool (a0.Calls.getD ((IntKind.i64.wrap (a0.Calls.getD v9.toNat Z4).Parent).tmod (IntKind.i64.wrap (v9 + 1))).toNat Z4).Fail)) I o4 I I) I <| Zz I I I I (st_not (b := (a0.Calls.getD ((IntKind.i64.wrap (a0.Calls.getD v9.toNat Z4).Parent).tmod (IntKind.i64.wrap (v9 + 1))).toNat Z4).Fail) I I) I <| Z2 I (st_pickT (v := (.bool (!(a0.Calls.getD ((IntKind.i64.wrap (a0.Calls.getD v9.toNat Z4).Parent).tmod (IntKind.i64.wrap (v9 + 1))).toNat Z4).Fail))) I I I) I <| Zf ?_
         exact Zw (st' := ⟨[(1, (.ptr 1 0)), (2, (.vs 2)), (3, (.vs 3)), (8, (.int .i64 v9)), (9, (.int .i64 ((IntKind.i64.wrap (a0.Calls.getD v9.toNat Z4).Parent).tmod (IntKind.i64.wrap (v9 + 1))))), (108, (.bool (!(a0.Calls.getD ((IntKind.i64.wrap (a0.Calls.getD v9.toNat Z4).Parent).tmod (IntKind.i64.wrap (v9 + 1))).toNat Z4).Fail)))], [(1, (.box (Zs a0).cells)), (2, (.vec 1 (List.map Z1k v5))), (3, (.vec 1 (List.map Z1k v10)))]⟩) ⟨rfl, rfl, rfl, rfl, rfl, rfl, trivial⟩ ⟨rfl, rfl, rfl, trivial⟩ (J19 (!(a0.Calls.getD ((IntKind.i64.wrap (a0.Calls.getD v9.toNat Z4).Parent).tmod (IntKind.i64.wrap (v9 + 1))).toNat Z4).Fail) h)
        ·have h := hif.2 hc
         refine Zo I I I I I I I <| Zo I I I I I I I <| Zo I I I I I I I <| Zo I I I I I I I <| Zo I I I I I I I <| Zo I I I I I I I <| Zo I I I I I I I <| Z2 I (Z1p (v := (.bool false)) I I I) I ?_
         refine Zf ?_
         exact Zw (st' := ⟨[(1, (.ptr 1 0)), (2, (.vs 2)), (3, (.vs 3)), (8, (.int .i64 v9)), (9, (.int .i64 ((IntKind.i64.wrap (a0.Calls.getD v9.toNat Z4).Parent).tmod (IntKind.i64.wrap (v9 + 1))))), (108, (.bool false))], [(1, (.box (Zs a0).cells)), (2, (.vec 1 (List.map Z1k v5))), (3, (.vec 1 (List.map Z1k v10)))]⟩) ⟨rfl, rfl, rfl, rfl, rfl, rfl, trivial⟩ ⟨rfl, rfl, rfl, trivial⟩ (J19 false h)
       ·have h := hif.2 hc
        refine Zo I I I I I I I <| Zo I I I I I I I <| Zo I I I I I I I <| Zo I I I I I I I <| Zo I I I I I I I <| Zo I I I I I I I <| Zo I I I I I I I <| Z2 I (Z1p (v := (.bool false)) I I I) I ?_
        refine Z2 I (Zi (v := (.bool false)) I I) I <| Zo I I I I I I I <| Zo I I I I I I I <| Zo I I I I I I I <| Zo I I I I I I I <| Zo I I I I I I I <| Zo I I I I I I I <| Zo I I I I I I I ?_
        refine Z2 I (Z1p (v := (.bool false)) I I I) I <| Zf ?_
        exact Zw (st' := ⟨[(1, (.ptr 1 0)), (2, (.vs 2)), (3, (.vs 3)), (8, (.int .i64 v9)), (9, (.int .i64 ((IntKind.i64.wrap (a0.Calls.getD v9.toNat Z4).Parent).tmod (IntKind.i64.wrap (v9 + 1))))), (108, (.bool false))], [(1, (.box (Zs a0).cells)), (2, (.vec 1 (List.map Z1k v5))), (3, (.vec 1 (List.map Z1k v10)))]⟩) ⟨rfl, rfl, rfl, rfl, rfl, rfl, trivial⟩ ⟨rfl, rfl, rfl, trivial⟩ (J19 false h)
      ·have h := hif.2 hc
       refine Zo I I I I I I I <| Zo I I I I I I I <| Zo I I I I I I I <| Zo I I I I I I I <| Zo I I I I I I I <| Zo I I I I I I I <| Zo I I I I I I I <| Z2 I (Z1p (v := (.bool false)) I I I) I ?_
       refine Z2 I (Zi (v := (.bool false)) I I) I <| Zo I I I I I I I <| Zo I I I I I I I <| Zo I I I I I I I <| Zo I I I I I I I <| Zo I I I I I I I <| Zo I I I I I I I <| Zo I I I I I I I ?_
       refine Z2 I (Z1p (v := (.bool false)) I I I) I <| Z2 I (Zi (v := (.bool false)) I I) I <| Zo I I I I I I I <| Zo I I I I I I I <| Zo I I I I I I I <| Zo I I I I I I I <| Zo I I I I I I I <| Zo I I I I I I I ?_
       refine Zo I I I I I I I <| Z2 I (Z1p (v := (.bool false)) I I I) I <| Zf ?_
       exact Zw (st' := ⟨[(1, (.ptr 1 0)), (2, (.vs 2)), (3, (.vs 3)), (8, (.int .i64 v9)), (9, (.int .i64 ((IntKind.i64.wrap (a0.Calls.getD v9.toNat Z4).Parent).tmod (IntKind.i64.wrap (v9 + 1))))), (108, (.bool false))], [(1, (.box (Zs a0).cells)), (2, (.vec 1 (List.map Z1k v5))), (3, (.vec 1 (List.map Z1k v10)))]⟩) ⟨rfl, rfl, rfl, rfl, rfl, rfl, trivial⟩ ⟨rfl, rfl, rfl, trivial⟩ (J19 false h)
    ·have h := hif.2 hc
     refine AWp.exit <| At.thru ?_
     exact Zw (st' := ⟨[(2, (.vs 2)), (3, (.vs 3))], [(2, (.vec 1 (List.map Z1k v5))), (3, (.vec 1 (List.map Z1k v10)))]⟩) ⟨rfl, rfl, trivial⟩ ⟨rfl, rfl, trivial⟩ (J11 v10 h)
 ·intro N k4 v h IH4 J4
  obtain ⟨v1, v2, v3⟩ := v
  try dsimp only at h IH4 J4 ⊢
  cases k4 with
  | zero => cases h
  | succ k4 =>
   rw [F100_l4] at h
   refine Zh <| Zh <| Zc <| Z2 I (Zi (v := (.int .i64 v1)) I I) I <| Z2 I (Zq (m := 1) (o := 0) I f102_2 I I) I <| Z2 I (Z11 (cs := (Zs a0).cells) (v := (.sl 11 (a0.Calls.map Zm) false)) I o100 I I I) I <| Z2 I (stx_len (l := a0.Calls) (enc := Zm) I s100 I) I <| Z2 I (Z1o (k := .i64) (a := v1) (b := (a0.Calls.length : Int)) (c := (decide (v1 < (a0.Calls.length : Int)))) I I I I) I ?_
   refine Zf <| Zg ?_
   have hif := Z1u h
   refine Z16 I (fun hc => ?_) (fun hc => ?_)
   ·have h := hif.1 hc
    refine Z18 <| Zg <| Zh <| AWp.block <| Zh <| Zc <| Z2 I (Zq (m := 1) (o := 0) I f102_2 I I) I <| Z2 I (Z11 (cs := (Zs a0).cells) (v := (.sl 11 (a0.Calls.map Zm) false)) I o100 I I I) I ?_
    refine Z2 I (Zi (v := (.int .i64 v1)) I I) I ?_
    have ⟨hg36, h⟩ := Z10 h
    refine Z2 I (Z1r (k := .i64) (l := a0.Calls) (enc := Zm) (z := Z4) (n := v1) (cs := (Zm (a0.Calls.getD v1.toNat Z4)).cells) (full := false) I s100 I I hg36 I) I <| Z2 I (st_loadIA (cs := (Zm (a0.Calls.getD v1.toNat Z4)).cells) (vs := (Zm (a0.Calls.getD v1.toNat Z4)).cells) I a113 I I I) I <| Z2 I (st_alloc (cs := [(.int .u8 0), (.int .u8 0), (.int .u8 0), (.int .u8 0), (.int .u8 0), (.int .u8 0), (.int .u8 0), (.int .u8 0), (.int .u8 0), (.int .u8 0), (.bool false)]) I z113 I I I) I <| Z2 I (Z1m (cs := [(.int .u8 0), (.int .u8 0), (.int .u8 0), (.int .u8 0), (.int .u8 0), (.int .u8 0), (.int .u8 0), (.int .u8 0), (.int .u8 0), (.int .u8 0), (.bool false)]) (vs := (Zm (a0.Calls.getD v1.toNat Z4)).cells) (ds := (Zm (a0.Calls.getD v1.toNat Z4)).cells) (v := (Zm (a0.Calls.getD v1.toNat Z4))) sz113 I I I I I I I I) I <| Zf <| Zg <| Zh <| Zc ?_
    refine Z2 I (Zq (m := 1) (o := 0) I f102_1 I I) I <| Z2 I (Z11 (cs := (Zs a0).cells) (v := (.int .u8 a0.Start)) I o5 I I I) I <| Z2 I (st_div (k := .u8) (a := a0.Start) (b := 32) (c := (a0.Start.tmod 32)) I I I I (by decide)) I <| Z2 I (st_conv I us5 u3 I) I <| Z2 I (Z1h (k := .i64) (a := 1000) (b := (IntKind.i64.wrap (a0.Start.tmod 32))) (c := (IntKind.i64.wrap (1000 + (IntKind.i64.wrap (a0.Start.tmod 32))))) I I I I) I <| Z2 I (Zj (v := (.int .i64 (IntKind.i64.wrap (1000 + (IntKind.i64.wrap (a0.Start.tmod 32)))))) I I) I <| Zf <| Zg ?_
    refine Zh <| Zh <| Zc <| Z2 I (Zq (m := 5) (o := 0) I f113_0 I I) I <| Z2 I (Z11 (cs := (Zm (a0.Calls.getD v1.toNat Z4)).cells) (v := (.int .u8 (a0.Calls.getD v1.toNat Z4).Parent)) I o5 I I I) I <| Z2 I (st_conv I us5 u3 I) I <| Z2 I (Zi (v := (.int .i64 v1)) I I) I <| Z2 I (Z1h (k := .i64) (a := v1) (b := 1) (c := (IntKind.i64.wrap (v1 + 1))) I I I I) I ?_
    have ⟨hg37, h⟩ := Z10 h
    refine Z2 I (st_div (k := .i64) (a := (IntKind.i64.wrap (a0.Calls.getD v1.toNat Z4).Parent)) (b := (IntKind.i64.wrap (v1 + 1))) (c := ((IntKind.i64.wrap (a0.Calls.getD v1.toNat Z4).Parent).tmod (IntKind.i64.wrap (v1 + 1)))) I I I I hg37) I <| Z2 I (Zj (v := (.int .i64 ((IntKind.i64.wrap (a0.Calls.getD v1.toNat Z4).Parent).tmod (IntKind.i64.wrap (v1 + 1))))) I I) I <| Zf <| Zg <| Zh <| Zc <| Z2 I (Zi (v := (.int .i64 ((IntKind.i64.wrap (a0.Calls.getD v1.toNat Z4).Parent).tmod (IntKind.i64.wrap (v1 + 1))))) I I) I <| Z2 I (Zi (v := (.int .i64 v1)) I I) I ?_
    refine Z2 I (Z1o (k := .i64) (a := ((IntKind.i64.wrap (a0.Calls.getD v1.toNat Z4).Parent).tmod (IntKind.i64.wrap (v1 + 1)))) (b := v1) (c := (decide (((IntKind.i64.wrap (a0.Calls.getD v1.toNat Z4).Parent).tmod (IntKind.i64.wrap (v1 + 1))) < v1))) I I I I) I <| Zf <| Zg ?_
    refine AWp.join (V := Int) (lp := fun v => F100_j39 K v1 v2 v3 a0 (F100_l4 K a0 (F100_c7 K a0) k4) v = some r) (sh := fun v => ⟨[(1, (.ptr 1 0)), (2, (.vs 2)), (3, (.vs 3)), (4, (.int .i64 v1)), (5, (.ptr 5 0)), (6, (.int .i64 v))], [(1, (.box (Zs a0).cells)), (2, (.vec 1 (List.map Z1k v2))), (3, (.vec 1 (List.map Z1k v3))), (5, (.box (Zm (a0.Calls.getD v1.toNat Z4)).cells))]⟩) ?_ ?_
    ·intro v h
     revert h
     revert v
     intro v38 h
     try dsimp only at h ⊢
     unfold F100_j39 at h
     refine Zg <| Zh <| Zh <| Zc <| Z2 I (Zi (v := (.int .i64 v1)) I I) I <| Z2 I (Z1o (k := .i64) (a := v1) (b := 0) (c := (decide (v1 > 0))) I I I I) I <| Zf <| Zg ?_
     refine AWp.join (V := Int) (lp := fun v => F100_j41 K v2 v3 a0 v1 (F100_l4 K a0 (F100_c7 K a0) k4) v = some r) (sh := fun v => ⟨[(1, (.ptr 1 0)), (2, (.vs 2)), (3, (.vs 3)), (4, (.int .i64 v1)), (5, (.ptr 5 0)), (6, (.int .i64 v))], [(1, (.box (Zs a0).cells)), (2, (.vec 1 (List.map Z1k v2))), (3, (.vec 1 (List.map Z1k v3))), (5, (.box (Zm (a0.Calls.getD v1.toNat Z4)).cells))]⟩) ?_ ?_
     ·intro v h
      revert h
      revert v
      intro v40 h
      try dsimp only at h ⊢
      unfold F100_j41 at h
      refine Zg <| Z1s mixed <| Z7 0 I (Zi (v := (.vs 2)) I I) <| Z7 1 I (Zi (v := (.int .i64 v40)) I I) <| Z7 2 I (Z1f (vs := [(.int .i64 v40)]) (enc := Z1k) (l := [v40]) I el87 I I ⟨rfl, trivial⟩ I els_i64 I I I I) ?_
      have ⟨hg42, h⟩ := Z10 h
      refine Z7 3 I (st_append (m := 2) (enc := Z1k) (l := v2) (l' := [v40]) (src := (.vs 50)) (rd := [(50, (.vec 1 (List.map Z1k [v40])))]) I I el87 I u87 I I I I (oneRead I) els_i64 hg42) <| Z7 4 I (Zi (v := (.vs 3)) I I) <| Z7 5 I (Zi (v := (.int .i64 v40)) I I) <| Z7 6 I (Zq (m := 5) (o := 0) I f113_7 I I) <| Z7 7 I (Z11 (cs := (Zm (a0.Calls.getD v1.toNat Z4)).cells) (v := (.int .u8 (a0.Calls.getD v1.toNat Z4).Long)) I o5 I I I) <| Z7 8 I (st_div (k := .u8) (a := (a0.Calls.getD v1.toNat Z4).Long) (b := 32) (c := ((a0.Calls.getD v1.toNat Z4).Long.tmod 32)) I I I I (by decide)) <| Z7 9 I (st_conv I us5 u3 I) <| Z7 10 I (Z1h (k := .i64) (a := v40) (b := (IntKind.i64.wrap ((a0.Calls.getD v1.toNat Z4).Long.tmod 32))) (c := (IntKind.i64.wrap (v40 + (IntKind.i64.wrap ((a0.Calls.getD v1.toNat Z4).Long.tmod 32))))) I I I I) ?_
      refine Z7 11 I (Z1f (vs := [(.int .i64 (IntKind.i64.wrap (v40 + (IntKind.i64.wrap ((a0.Calls.getD v1.toNat Z4).Long.tmod 32)))))]) (enc := Z1k) (l := [(IntKind.i64.wrap (v40 + (IntKind.i64.wrap ((a0.Calls.getD v1.toNat Z4).Long.tmod 32))))]) I el87 I I ⟨rfl, trivial⟩ I els_i64 I I I I) ?_
      have ⟨hg43, h⟩ := Z10 h
      refine Z7 12 I (st_append (m := 3) (enc := Z1k) (l := v3) (l' := [(IntKind.i64.wrap (v40 + (IntKind.i64.wrap ((a0.Calls.getD v1.toNat Z4).Long.tmod 32))))]) (src := (.vs 59)) (rd := [(59, (.vec 1 (List.map Z1k [(IntKind.i64.wrap (v40 + (IntKind.i64.wrap ((a0.Calls.getD v1.toNat Z4).Long.tmod 32))))])))]) I I el87 I u87 I I I I (oneRead I) els_i64 hg43) <| Z7 13 I (Zj (v := (.vs 2)) I I) <| Z7 14 I (Zj (v := (.vs 3)) I I) <| Z1v (by kernel_rfl) I <| At.end <| Zg <| Zc <| Z2 I (Zi (v := (.int .i64 v1)) I I) I ?_
      refine Z2 I (Z1h (k := .i64) (a := v1) (b := 1) (c := (IntKind.i64.wrap (v1 + 1))) I I I I) I <| Z2 I (Zj (v := (.int .i64 (IntKind.i64.wrap (v1 + 1)))) I I) I <| Zf ?_
      exact Zw (st' := ⟨[(1, (.ptr 1 0)), (2, (.vs 2)), (3, (.vs 3)), (4, (.int .i64 (IntKind.i64.wrap (v1 + 1))))], [(1, (.box (Zs a0).cells)), (2, (.vec 1 (List.map Z1k (v2 ++ [v40])))), (3, (.vec 1 (List.map Z1k (v3 ++ [(IntKind.i64.wrap (v40 + (IntKind.i64.wrap ((a0.Calls.getD v1.toNat Z4).Long.tmod 32))))]))))]⟩) ⟨rfl, rfl, rfl, rfl, trivial⟩ ⟨rfl, rfl, rfl, trivial⟩ (IH4 _ ((IntKind.i64.wrap (v1 + 1)), (v2 ++ [v40]), (v3 ++ [(IntKind.i64.wrap (v40 + (IntKind.i64.wrap ((a0.Calls.getD v1.toNat Z4).Long.tmod 32))))])) (Nat.lt_succ_self _) h)
     ·intro J41
      have hif := Z1u h
      refine Z16 I (fun hc => ?_) (fun hc => ?_)
      ·have h := hif.1 hc
       refine Zc <| Z2 I (Zi (v := (.int .i64 v38)) I I) I <| Z2 I (Zq (m := 5) (o := 0) I f113_6 I I) I <| Z2 I (Z11 (cs := (Zm (a0.Calls.getD v1.toNat Z4)).cells) (v := (.int .u8 (a0.Calls.getD v1.toNat Z4).Wait)) I o5 I I I) I <| Z2 I (st_div (k := .u8) (a := (a0.Calls.getD v1.toNat Z4).Wait) (b := 32) (c := ((a0.Calls.getD v1.toNat Z4).Wait.tmod 32)) I I I I (by decide)) I <| Z2 I (st_conv I us5 u3 I) I <| Z2 I (Z1h (k := .i64) (a := v38) (b := (IntKind.i64.wrap ((a0.Calls.getD v1.toNat Z4).Wait.tmod 32))) (c := (IntKind.i64.wrap (v38 + (IntKind.i64.wrap ((a0.Calls.getD v1.toNat Z4).Wait.tmod 32))))) I I I I) I <| Z2 I (Zj (v := (.int .i64 (IntKind.i64.wrap (v38 + (IntKind.i64.wrap ((a0.Calls.getD v1.toNat Z4).Wait.tmod 32)))))) I I) I ?_
       refine Zf ?_
       exact Zw (st' := ⟨[(1, (.ptr 1 0)), (2, (.vs 2)), (3, (.vs 3)), (4, (.int .i64 v1)), (5, (.ptr 5 0)), (6, (.int .i64 (IntKind.i64.wrap (v38 + (IntKind.i64.wrap ((a0.Calls.getD v1.toNat Z4).Wait.tmod 32))))))], [(1, (.box (Zs a0).cells)), (2, (.vec 1 (List.map Z1k v2))), (3, (.vec 1 (List.map Z1k v3))), (5, (.box (Zm (a0.Calls.getD v1.toNat Z4)).cells))]⟩) ⟨rfl, rfl, rfl, rfl, rfl, rfl, trivial⟩ ⟨rfl, rfl, rfl, rfl, trivial⟩ (J41 (IntKind.i64.wrap (v38 + (IntKind.i64.wrap ((a0.Calls.getD v1.toNat Z4).Wait.tmod 32)))) h)
      ·have h := hif.2 hc
       refine Z18 ?_
       exact Zw (st' := ⟨[(1, (.ptr 1 0)), (2, (.vs 2)), (3, (.vs 3)), (4, (.int .i64 v1)), (5, (.ptr 5 0)), (6, (.int .i64 v38))], [(1, (.box (Zs a0).cells)), (2, (.vec 1 (List.map Z1k v2))), (3, (.vec 1 (List.map Z1k v3))), (5, (.box (Zm (a0.Calls.getD v1.toNat Z4)).cells))]⟩) ⟨rfl, rfl, rfl, rfl, rfl, rfl, trivial⟩ ⟨rfl, rfl, rfl, rfl, trivial⟩ (J41 v38 h)
    ·intro J39
     have hif := Z1u h
     refine Z16 I (fun hc => ?_) (fun hc => ?_)
     ·have h := hif.1 hc
      refine Zc <| Z2 I (Zi (v := (.vs 2)) I I) I <| Z2 I (Zi (v := (.int .i64 ((IntKind.i64.wrap (a0.Calls.getD v1.toNat Z4).Parent).tmod (IntKind.i64.wrap (v1 + 1))))) I I) I ?_
      have ⟨hg44, h⟩ := Z10 h
      refine Z2 I (st_indexV (k := .i64) (v := (.vs 2)) (n := 2) (off := 0) (len := v2.length) (es := (List.map Z1k v2)) (j := ((IntKind.i64.wrap (a0.Calls.getD v1.toNat Z4).Parent).tmod (IntKind.i64.wrap (v1 + 1)))) (m := ((IntKind.i64.wrap (a0.Calls.getD v1.toNat Z4).Parent).tmod (IntKind.i64.wrap (v1 + 1))).toNat) I s87 I I (vecR_map _ _ _) I hg44 (Nat.zero_add _)) I ?_
      have ⟨hg45, h⟩ := Z10 h
      refine Z2 I (st_loadV (l := v2) (enc := Z1k) (z := 0) (v := (.int .i64 (v2.getD ((IntKind.i64.wrap (a0.Calls.getD v1.toNat Z4).Parent).tmod (IntKind.i64.wrap (v1 + 1))).toNat 0))) I o3 I I hg45 I) I <| Z2 I (Zj (v := (.int .i64 (v2.getD ((IntKind.i64.wrap (a0.Calls.getD v1.toNat Z4).Parent).tmod (IntKind.i64.wrap (v1 + 1))).toNat 0))) I I) I <| Zf ?_
      exact Zw (st' := ⟨[(1, (.ptr 1 0)), (2, (.vs 2)), (3, (.vs 3)), (4, (.int .i64 v1)), (5, (.ptr 5 0)), (6, (.int .i64 (v2.getD ((IntKind.i64.wrap (a0.Calls.getD v1.toNat Z4).Parent).tmod (IntKind.i64.wrap (v1 + 1))).toNat 0)))], [(1, (.box (Zs a0).cells)), (2, (.vec 1 (List.map Z1k v2))), (3, (.vec 1 (List.map Z1k v3))), (5, (.box (Zm (a0.Calls.getD v1.toNat Z4)).cells))]⟩) ⟨rfl, rfl, rfl, rfl, rfl, rfl, trivial⟩ ⟨rfl, rfl, rfl, rfl, trivial⟩ (J39 (v2.getD ((IntKind.i64.wrap (a0.Calls.getD v1.toNat Z4).Parent).tmod (IntKind.i64.wrap (v1 + 1))).toNat 0) h)
     ·have h := hif.2 hc
      refine Z18 ?_
      exact Zw (st' := ⟨[(1, (.ptr 1 0)), (2, (.vs 2)), (3, (.vs 3)), (4, (.int .i64 v1)), (5, (.ptr 5 0)), (6, (.int .i64 (IntKind.i64.wrap (1000 + (IntKind.i64.wrap (a0.Start.tmod 32))))))], [(1, (.box (Zs a0).cells)), (2, (.vec 1 (List.map Z1k v2))), (3, (.vec 1 (List.map Z1k v3))), (5, (.box (Zm (a0.Calls.getD v1.toNat Z4)).cells))]⟩) ⟨rfl, rfl, rfl, rfl, rfl, rfl, trivial⟩ ⟨rfl, rfl, rfl, rfl, trivial⟩ (J39 (IntKind.i64.wrap (1000 + (IntKind.i64.wrap (a0.Start.tmod 32)))) h)
   ·have h := hif.2 hc
    refine AWp.exit <| At.thru ?_
    exact Zw (st' := ⟨[(1, (.ptr 1 0)), (2, (.vs 2)), (3, (.vs 3))], [(1, (.box (Zs a0).cells)), (2, (.vec 1 (List.map Z1k v2))), (3, (.vec 1 (List.map Z1k v3)))]⟩) ⟨rfl, rfl, rfl, trivial⟩ ⟨rfl, rfl, rfl, trivial⟩ (J4 (v2, v3) h)
def F127 (K : Nat) (a0 : Z1w) : Option ((List Z1g)) :=
 if (0 : Int) ≤ ((IntKind.u8.wrap (a0.Tag.tdiv 8)).tmod 3) ∧ ((IntKind.u8.wrap (a0.Tag.tdiv 8)).tmod 3) < (([[97], [98], [119, 101, 115, 116, 32, 49]]).length : Nat) then
  if ((IntKind.u8.wrap (a0.Tag.tdiv 8)).tmod 3).toNat < ([[97], [98], [119, 101, 115, 116, 32, 49]]).length then
   if (0 : Int) ≤ 0 ∧ 0 ≤ (a0.Tag.tmod 4) ∧ (a0.Tag.tmod 4) ≤ (([(⟨[111, 107], (⟨3, [], (IntKind.i64.wrap ((IntKind.u8.wrap (a0.Tag.tdiv 4)).tmod 2))⟩ : Z1q)⟩ : Z1g), (⟨[115, 105, 122, 101], (⟨2, [], (IntKind.i64.wrap ((IntKind.i64.wrap a0.Tag) - 100))⟩ : Z1q)⟩ : Z1g), (⟨[122, 111, 110, 101], (⟨1, (([[97], [98], [119, 101, 115, 116, 32, 49]]).getD ((IntKind.u8.wrap (a0.Tag.tdiv 8)).tmod 3).toNat []), 0⟩ : Z1q)⟩ : Z1g)]).length : Nat) then
    if (0 + (0 : Int).toNat) + ((a0.Tag.tmod 4).toNat - (0 : Int).toNat) ≤ ([(⟨[111, 107], (⟨3, [], (IntKind.i64.wrap ((IntKind.u8.wrap (a0.Tag.tdiv 4)).tmod 2))⟩ : Z1q)⟩ : Z1g), (⟨[115, 105, 122, 101], (⟨2, [], (IntKind.i64.wrap ((IntKind.i64.wrap a0.Tag) - 100))⟩ : Z1q)⟩ : Z1g), (⟨[122, 111, 110, 101], (⟨1, (([[97], [98], [119, 101, 115, 116, 32, 49]]).getD ((IntKind.u8.wrap (a0.Tag.tdiv 8)).tmod 3).toNat []), 0⟩ : Z1q)⟩ : Z1g)]).length then
     some ((([(⟨[111, 107], (⟨3, [], (IntKind.i64.wrap ((IntKind.u8.wrap (a0.Tag.tdiv 4)).tmod 2))⟩ : Z1q)⟩ : Z1g), (⟨[115, 105, 122, 101], (⟨2, [], (IntKind.i64.wrap ((IntKind.i64.wrap a0.Tag) - 100))⟩ : Z1q)⟩ : Z1g), (⟨[122, 111, 110, 101], (⟨1, (([[97], [98], [119, 101, 115, 116, 32, 49]]).getD ((IntKind.u8.wrap (a0.Tag.tdiv 8)).tmod 3).toNat []), 0⟩ : Z1q)⟩ : Z1g)]).drop (0 + (0 : Int).toNat)).take ((a0.Tag.tmod 4).toNat - (0 : Int).toNat))
    else none
   else none
  else none
 else none
theorem F127_ok (K : Nat) (a0 : Z1w) (r : (List Z1g)) (h : F127 K a0 = some r) : ACall P 127 ⟨[(Zm a0)], [], (.sl 4 (r.map Zv) false), [], []⟩ := by
 refine Z1t Try.func127 Try.results127 rfl Try.ntmps127 rfl rfl rfl ?_
 intro E Q hP hN hro hret
 obtain ⟨P', nt', w0, F0, p0, S0, β0, ro0⟩ := E
 simp only at hP hN
 subst hP hN
 dsimp only [argT]
 unfold F127 at h
 refine Zh <| Zc <| Z2 I (st_box (v := (Zm a0)) (cs := (Zm a0).cells) I I I I I) I <| Z2 I (Zj (v := (.sl 4 [] false)) I I) I <| Zf <| Zg <| Zh <| Z1s mixed ?_
 refine Z7 0 I (Zq (m := 1) (o := 0) I f113_9 I I) <| Z7 1 I (Z11 (cs := (Zm a0).cells) (v := (.int .u8 a0.Tag)) I o5 I I I) <| Z7 2 I (st_div (k := .u8) (a := a0.Tag) (b := 4) (c := (IntKind.u8.wrap (a0.Tag.tdiv 4))) I I I I (by decide)) <| Z7 3 I (st_div (k := .u8) (a := (IntKind.u8.wrap (a0.Tag.tdiv 4))) (b := 2) (c := ((IntKind.u8.wrap (a0.Tag.tdiv 4)).tmod 2)) I I I I (by decide)) <| Z7 4 I (st_conv I us5 u3 I) <| Z7 5 I (stx_build (vs := [(0, (.int .i64 3)), (2, (.int .i64 (IntKind.i64.wrap ((IntKind.u8.wrap (a0.Tag.tdiv 4)).tmod 2))))]) (cs := [(.int .i64 3), (.str []), (.int .i64 (IntKind.i64.wrap ((IntKind.u8.wrap (a0.Tag.tdiv 4)).tmod 2)))]) I st165 ⟨rfl, rfl, rfl, rfl, trivial⟩ I) <| Z7 6 I (stx_build (vs := [(0, (.str [111, 107])), (1, (.ag [(.int .i64 3), (.str []), (.int .i64 (IntKind.i64.wrap ((IntKind.u8.wrap (a0.Tag.tdiv 4)).tmod 2)))]))]) (cs := [(.str [111, 107]), (.int .i64 3), (.str []), (.int .i64 (IntKind.i64.wrap ((IntKind.u8.wrap (a0.Tag.tdiv 4)).tmod 2)))]) I st167 ⟨rfl, rfl, rfl, rfl, trivial⟩ I) <| Z7 7 I (Zq (m := 1) (o := 0) I f113_9 I I) ?_
 refine Z7 8 I (Z11 (cs := (Zm a0).cells) (v := (.int .u8 a0.Tag)) I o5 I I I) <| Z7 9 I (st_conv I us5 u3 I) <| Z7 10 I (Z1h (k := .i64) (a := (IntKind.i64.wrap a0.Tag)) (b := 100) (c := (IntKind.i64.wrap ((IntKind.i64.wrap a0.Tag) - 100))) I I I I) <| Z7 11 I (stx_build (vs := [(0, (.int .i64 2)), (2, (.int .i64 (IntKind.i64.wrap ((IntKind.i64.wrap a0.Tag) - 100))))]) (cs := [(.int .i64 2), (.str []), (.int .i64 (IntKind.i64.wrap ((IntKind.i64.wrap a0.Tag) - 100)))]) I st165 ⟨rfl, rfl, rfl, rfl, trivial⟩ I) <| Z7 12 I (stx_build (vs := [(0, (.str [115, 105, 122, 101])), (1, (.ag [(.int .i64 2), (.str []), (.int .i64 (IntKind.i64.wrap ((IntKind.i64.wrap a0.Tag) - 100)))]))]) (cs := [(.str [115, 105, 122, 101]), (.int .i64 2), (.str []), (.int .i64 (IntKind.i64.wrap ((IntKind.i64.wrap a0.Tag) - 100)))]) I st167 ⟨rfl, rfl, rfl, rfl, trivial⟩ I) <| Z7 13 I (Z1f (vs := [(.str [97]), (.str [98]), (.str [119, 101, 115, 116, 32, 49])]) (enc := e_str) (l := [[97], [98], [119, 101, 115, 116, 32, 49]]) I el181 I I ⟨rfl, rfl, rfl, trivial⟩ I els_str I I I I) <| Z7 14 I (Zq (m := 1) (o := 0) I f113_9 I I) <| Z7 15 I (Z11 (cs := (Zm a0).cells) (v := (.int .u8 a0.Tag)) I o5 I I I) ?_
 refine Z7 16 I (st_div (k := .u8) (a := a0.Tag) (b := 8) (c := (IntKind.u8.wrap (a0.Tag.tdiv 8))) I I I I (by decide)) <| Z7 17 I (st_div (k := .u8) (a := (IntKind.u8.wrap (a0.Tag.tdiv 8))) (b := 3) (c := ((IntKind.u8.wrap (a0.Tag.tdiv 8)).tmod 3)) I I I I (by decide)) ?_
 have ⟨hg1, h⟩ := Z10 h
 refine Z7 18 I (st_indexV (k := .u8) (v := (.vs 17)) (n := 17) (off := 0) (len := ([[97], [98], [119, 101, 115, 116, 32, 49]]).length) (es := (List.map e_str ([[97], [98], [119, 101, 115, 116, 32, 49]]))) (j := ((IntKind.u8.wrap (a0.Tag.tdiv 8)).tmod 3)) (m := ((IntKind.u8.wrap (a0.Tag.tdiv 8)).tmod 3).toNat) I s181 I I (vecR_map _ _ _) I hg1 (Nat.zero_add _)) ?_
 have ⟨hg2, h⟩ := Z10 h
 refine Z7 19 I (st_loadV (l := ([[97], [98], [119, 101, 115, 116, 32, 49]])) (enc := e_str) (z := []) (v := (.str (([[97], [98], [119, 101, 115, 116, 32, 49]]).getD ((IntKind.u8.wrap (a0.Tag.tdiv 8)).tmod 3).toNat []))) I o9 I I hg2 I) <| Z7 20 I (stx_build (vs := [(0, (.int .i64 1)), (1, (.str (([[97], [98], [119, 101, 115, 116, 32, 49]]).getD ((IntKind.u8.wrap (a0.Tag.tdiv 8)).tmod 3).toNat [])))]) (cs := [(.int .i64 1), (.str (([[97], [98], [119, 101, 115, 116, 32, 49]]).getD ((IntKind.u8.wrap (a0.Tag.tdiv 8)).tmod 3).toNat [])), (.int .i64 0)]) I st165 ⟨rfl, rfl, rfl, rfl, trivial⟩ I) <| Z7 21 I (stx_build (vs := [(0, (.str [122, 111, 110, 101])), (1, (.ag [(.int .i64 1), (.str (([[97], [98], [119, 101, 115, 116, 32, 49]]).getD ((IntKind.u8.wrap (a0.Tag.tdiv 8)).tmod 3).toNat [])), (.int .i64 0)]))]) (cs := [(.str [122, 111, 110, 101]), (.int .i64 1), (.str (([[97], [98], [119, 101, 115, 116, 32, 49]]).getD ((IntKind.u8.wrap (a0.Tag.tdiv 8)).tmod 3).toNat [])), (.int .i64 0)]) I st167 ⟨rfl, rfl, rfl, rfl, trivial⟩ I) <| Z7 22 I (Z1f (vs := [(.ag [(.str [111, 107]), (.int .i64 3), (.str []), (.int .i64 (IntKind.i64.wrap ((IntKind.u8.wrap (a0.Tag.tdiv 4)).tmod 2)))]), (.ag [(.str [115, 105, 122, 101]), (.int .i64 2), (.str []), (.int .i64 (IntKind.i64.wrap ((IntKind.i64.wrap a0.Tag) - 100)))]), (.ag [(.str [122, 111, 110, 101]), (.int .i64 1), (.str (([[97], [98], [119, 101, 115, 116, 32, 49]]).getD ((IntKind.u8.wrap (a0.Tag.tdiv 8)).tmod 3).toNat [])), (.int .i64 0)])]) (enc := Zv) (l := [(⟨[111, 107], (⟨3, [], (IntKind.i64.wrap ((IntKind.u8.wrap (a0.Tag.tdiv 4)).tmod 2))⟩ : Z1q)⟩ : Z1g), (⟨[115, 105, 122, 101], (⟨2, [], (IntKind.i64.wrap ((IntKind.i64.wrap a0.Tag) - 100))⟩ : Z1q)⟩ : Z1g), (⟨[122, 111, 110, 101], (⟨1, (([[97], [98], [119, 101, 115, 116, 32, 49]]).getD ((IntKind.u8.wrap (a0.Tag.tdiv 8)).tmod 3).toNat []), 0⟩ : Z1q)⟩ : Z1g)]) I el35 I I ⟨rfl, rfl, rfl, trivial⟩ I els_Tapi_Attr I I I I) <| Z7 23 I (Zj (v := (.vs 26)) I I) <| Z1v (by kernel_rfl) I <| Zg <| Zh ?_
 refine Zc <| Z2 I (Zi (v := (.vs 26)) I I) I <| Z2 I (Zq (m := 1) (o := 0) I f113_9 I I) I <| Z2 I (Z11 (cs := (Zm a0).cells) (v := (.int .u8 a0.Tag)) I o5 I I I) I <| Z2 I (st_div (k := .u8) (a := a0.Tag) (b := 4) (c := (a0.Tag.tmod 4)) I I I I (by decide)) I ?_
 have ⟨hg3, h⟩ := Z10 h
 have ⟨hg4, h⟩ := Z10 h
 refine Z2 I (stx_sliceVH (v := (.vs 26)) (n := 26) (off := 0) (len := ([(⟨[111, 107], (⟨3, [], (IntKind.i64.wrap ((IntKind.u8.wrap (a0.Tag.tdiv 4)).tmod 2))⟩ : Z1q)⟩ : Z1g), (⟨[115, 105, 122, 101], (⟨2, [], (IntKind.i64.wrap ((IntKind.i64.wrap a0.Tag) - 100))⟩ : Z1q)⟩ : Z1g), (⟨[122, 111, 110, 101], (⟨1, (([[97], [98], [119, 101, 115, 116, 32, 49]]).getD ((IntKind.u8.wrap (a0.Tag.tdiv 8)).tmod 3).toNat []), 0⟩ : Z1q)⟩ : Z1g)]).length) (l := ([(⟨[111, 107], (⟨3, [], (IntKind.i64.wrap ((IntKind.u8.wrap (a0.Tag.tdiv 4)).tmod 2))⟩ : Z1q)⟩ : Z1g), (⟨[115, 105, 122, 101], (⟨2, [], (IntKind.i64.wrap ((IntKind.i64.wrap a0.Tag) - 100))⟩ : Z1q)⟩ : Z1g), (⟨[122, 111, 110, 101], (⟨1, (([[97], [98], [119, 101, 115, 116, 32, 49]]).getD ((IntKind.u8.wrap (a0.Tag.tdiv 8)).tmod 3).toNat []), 0⟩ : Z1q)⟩ : Z1g)])) (enc := Zv) (kh := .u8) (hi := (a0.Tag.tmod 4)) I s35 I I (vecR_map _ _ _) I hg3 I) I <| Z2 I (Zj (v := (.vsub 26 (0 + (0 : Int).toNat) ((a0.Tag.tmod 4).toNat - (0 : Int).toNat) false)) I I) I <| Zf <| Zg <| Z1e <| At.ghost (st' := ⟨[(2, (.sl 4 (((([(⟨[111, 107], (⟨3, [], (IntKind.i64.wrap ((IntKind.u8.wrap (a0.Tag.tdiv 4)).tmod 2))⟩ : Z1q)⟩ : Z1g), (⟨[115, 105, 122, 101], (⟨2, [], (IntKind.i64.wrap ((IntKind.i64.wrap a0.Tag) - 100))⟩ : Z1q)⟩ : Z1g), (⟨[122, 111, 110, 101], (⟨1, (([[97], [98], [119, 101, 115, 116, 32, 49]]).getD ((IntKind.u8.wrap (a0.Tag.tdiv 8)).tmod 3).toNat []), 0⟩ : Z1q)⟩ : Z1g)]).drop (0 + (0 : Int).toNat)).take ((a0.Tag.tmod 4).toNat - (0 : Int).toNat)).map Zv) false))], []⟩) (fun a w h => (Z1a ⟨[(2, (.sl 4 (((([(⟨[111, 107], (⟨3, [], (IntKind.i64.wrap ((IntKind.u8.wrap (a0.Tag.tdiv 4)).tmod 2))⟩ : Z1q)⟩ : Z1g), (⟨[115, 105, 122, 101], (⟨2, [], (IntKind.i64.wrap ((IntKind.i64.wrap a0.Tag) - 100))⟩ : Z1q)⟩ : Z1g), (⟨[122, 111, 110, 101], (⟨1, (([[97], [98], [119, 101, 115, 116, 32, 49]]).getD ((IntKind.u8.wrap (a0.Tag.tdiv 8)).tmod 3).toNat []), 0⟩ : Z1q)⟩ : Z1g)]).drop (0 + (0 : Int).toNat)).take ((a0.Tag.tmod 4).toNat - (0 : Int).toNat)).map Zv) false))], []⟩ (ghost_freeze (m := 26) (sz := 4) (es := (List.map Zv ([(⟨[111, 107], (⟨3, [], (IntKind.i64.wrap ((IntKind.u8.wrap (a0.Tag.tdiv 4)).tmod 2))⟩ : Z1q)⟩ : Z1g), (⟨[115, 105, 122, 101], (⟨2, [], (IntKind.i64.wrap ((IntKind.i64.wrap a0.Tag) - 100))⟩ : Z1q)⟩ : Z1g), (⟨[122, 111, 110, 101], (⟨1, (([[97], [98], [119, 101, 115, 116, 32, 49]]).getD ((IntKind.u8.wrap (a0.Tag.tdiv 8)).tmod 3).toNat []), 0⟩ : Z1q)⟩ : Z1g)]))) a w (Z1a ⟨[(2, (.vsub 26 (0 + (0 : Int).toNat) ((a0.Tag.tmod 4).toNat - (0 : Int).toNat) false))], [(26, (.vec 4 (List.map Zv ([(⟨[111, 107], (⟨3, [], (IntKind.i64.wrap ((IntKind.u8.wrap (a0.Tag.tdiv 4)).tmod 2))⟩ : Z1q)⟩ : Z1g), (⟨[115, 105, 122, 101], (⟨2, [], (IntKind.i64.wrap ((IntKind.i64.wrap a0.Tag) - 100))⟩ : Z1q)⟩ : Z1g), (⟨[122, 111, 110, 101], (⟨1, (([[97], [98], [119, 101, 115, 116, 32, 49]]).getD ((IntKind.u8.wrap (a0.Tag.tdiv 8)).tmod 3).toNat []), 0⟩ : Z1q)⟩ : Z1g)]))))]⟩ h ⟨rfl, trivial⟩ ⟨rfl, trivial⟩)) ⟨(congrArg some (frz_sub hg4)), trivial⟩ trivial)) ?_
 have h := Option.some.inj h
 subst h
 refine (hret _ ?_).1
 exact ⟨[(.sl 4 (((([(⟨[111, 107], (⟨3, [], (IntKind.i64.wrap ((IntKind.u8.wrap (a0.Tag.tdiv 4)).tmod 2))⟩ : Z1q)⟩ : Z1g), (⟨[115, 105, 122, 101], (⟨2, [], (IntKind.i64.wrap ((IntKind.i64.wrap a0.Tag) - 100))⟩ : Z1q)⟩ : Z1g), (⟨[122, 111, 110, 101], (⟨1, (([[97], [98], [119, 101, 115, 116, 32, 49]]).getD ((IntKind.u8.wrap (a0.Tag.tdiv 8)).tmod 3).toNat []), 0⟩ : Z1q)⟩ : Z1g)]).drop (0 + (0 : Int).toNat)).take ((a0.Tag.tmod 4).toNat - (0 : Int).toNat)).map Zv) false)], ⟨rfl, trivial⟩, rfl, trivial⟩
def F101_j21 (K : Nat) (a0 : Zp) (a1 : Int) (a2 : Int) (v16 : Zd) (v20 : (List Zr)) : Option (Zd) :=
 (F127 K ((a0.Trees.getD a1.toNat Z5).Calls.getD a2.toNat Z4)).bind fun v23 =>
  some (⟨v16.Trace, v16.Id, v16.Parent, v16.Revision, v16.Clock, v16.Kind, v16.Service, v16.Version, v16.Operation, v16.Start, v16.End, v16.Error, v23, v20⟩ : Zd)
def F101_j17 (K : Nat) (a0 : Zp) (a1 : Int) (a2 : Int) (a3 : (List Int)) (v16 : Zd) : Option (Zd) :=
 if (decide ((IntKind.i64.wrap (((a0.Trees.getD a1.toNat Z5).Calls.getD a2.toNat Z4).Link.tmod 16)) < a2)) = true then
  if (0 : Int) ≤ (IntKind.i64.wrap (((a0.Trees.getD a1.toNat Z5).Calls.getD a2.toNat Z4).Link.tmod 16)) ∧ (IntKind.i64.wrap (((a0.Trees.getD a1.toNat Z5).Calls.getD a2.toNat Z4).Link.tmod 16)) < a3.length then
   if (0 : Int) ≤ a2 ∧ a2 < a3.length then
    if (decide ((a3.getD (IntKind.i64.wrap (((a0.Trees.getD a1.toNat Z5).Calls.getD a2.toNat Z4).Link.tmod 16)).toNat 0) ≤ (a3.getD a2.toNat 0))) = true then
     F101_j21 K a0 a1 a2 v16 [(⟨v16.Trace, (IntKind.i64.wrap ((IntKind.i64.wrap (((a0.Trees.getD a1.toNat Z5).Calls.getD a2.toNat Z4).Link.tmod 16)) + 1))⟩ : Zr)]
    else
     F101_j21 K a0 a1 a2 v16 v16.Links
   else none
  else none
 else
  (F127 K ((a0.Trees.getD a1.toNat Z5).Calls.getD a2.toNat Z4)).bind fun v25 =>
   some (⟨v16.Trace, v16.Id, v16.Parent, v16.Revision, v16.Clock, v16.Kind, v16.Service, v16.Version, v16.Operation, v16.Start, v16.End, v16.Error, v25, v16.Links⟩ : Zd)
def F101 (K : Nat) (a0 : Zp) (a1 : Int) (a2 : Int) (a3 : (List Int)) (a4 : (List Int)) : Option (Zd) :=
 if (0 : Int) ≤ a1 ∧ a1 < a0.Trees.length then
  if (0 : Int) ≤ a2 ∧ a2 < (a0.Trees.getD a1.toNat Z5).Calls.length then
   (F62 K a0 a1).bind fun v4 =>
    (F126 K ((a0.Trees.getD a1.toNat Z5).Calls.getD a2.toNat Z4)).bind fun v6 =>
     if (0 : Int) ≤ a2 ∧ a2 < a3.length then
      if (0 : Int) ≤ a2 ∧ a2 < a4.length then
       if (0 : Int) ≤ (((a0.Trees.getD a1.toNat Z5).Calls.getD a2.toNat Z4).Service.tmod 4) ∧ (((a0.Trees.getD a1.toNat Z5).Calls.getD a2.toNat Z4).Service.tmod 4) < (([[97, 112, 105], [100, 98], [119, 101, 98], [99, 97, 99, 104, 101]]).length : Nat) then
        if (((a0.Trees.getD a1.toNat Z5).Calls.getD a2.toNat Z4).Service.tmod 4).toNat < ([[97, 112, 105], [100, 98], [119, 101, 98], [99, 97, 99, 104, 101]]).length then
         if (0 : Int) ≤ (((a0.Trees.getD a1.toNat Z5).Calls.getD a2.toNat Z4).Version.tmod 3) ∧ (((a0.Trees.getD a1.toNat Z5).Calls.getD a2.toNat Z4).Version.tmod 3) < (([[118, 49], [118, 50], []]).length : Nat) then
          if (((a0.Trees.getD a1.toNat Z5).Calls.getD a2.toNat Z4).Version.tmod 3).toNat < ([[118, 49], [118, 50], []]).length then
           if (0 : Int) ≤ (((a0.Trees.getD a1.toNat Z5).Calls.getD a2.toNat Z4).Operation.tmod 3) ∧ (((a0.Trees.getD a1.toNat Z5).Calls.getD a2.toNat Z4).Operation.tmod 3) < (([[103, 101, 116], [112, 117, 116], [108, 105, 115, 116]]).length : Nat) then
            if (((a0.Trees.getD a1.toNat Z5).Calls.getD a2.toNat Z4).Operation.tmod 3).toNat < ([[103, 101, 116], [112, 117, 116], [108, 105, 115, 116]]).length then
             if (IntKind.i64.wrap (a2 + 1)) ≠ 0 then
              if (decide (((IntKind.i64.wrap ((a0.Trees.getD a1.toNat Z5).Calls.getD a2.toNat Z4).Parent).tmod (IntKind.i64.wrap (a2 + 1))) < a2)) = true then
               F101_j17 K a0 a1 a2 a3 (⟨v4, (IntKind.i64.wrap (a2 + 1)), (IntKind.i64.wrap (((IntKind.i64.wrap ((a0.Trees.getD a1.toNat Z5).Calls.getD a2.toNat Z4).Parent).tmod (IntKind.i64.wrap (a2 + 1))) + 1)), 0, (IntKind.i64.wrap (1 + (IntKind.i64.wrap (((a0.Trees.getD a1.toNat Z5).Calls.getD a2.toNat Z4).Clock.tmod 4)))), v6, (([[97, 112, 105], [100, 98], [119, 101, 98], [99, 97, 99, 104, 101]]).getD (((a0.Trees.getD a1.toNat Z5).Calls.getD a2.toNat Z4).Service.tmod 4).toNat []), (([[118, 49], [118, 50], []]).getD (((a0.Trees.getD a1.toNat Z5).Calls.getD a2.toNat Z4).Version.tmod 3).toNat []), (([[103, 101, 116], [112, 117, 116], [108, 105, 115, 116]]).getD (((a0.Trees.getD a1.toNat Z5).Calls.getD a2.toNat Z4).Operation.tmod 3).toNat []), (a3.getD a2.toNat 0), (a4.getD a2.toNat 0), ((a0.Trees.getD a1.toNat Z5).Calls.getD a2.toNat Z4).Fail, [], []⟩ : Zd)
              else
               if (decide (a2 > 0)) = true then
                F101_j17 K a0 a1 a2 a3 (⟨v4, (IntKind.i64.wrap (a2 + 1)), 100, 0, (IntKind.i64.wrap (1 + (IntKind.i64.wrap (((a0.Trees.getD a1.toNat Z5).Calls.getD a2.toNat Z4).Clock.tmod 4)))), v6, (([[97, 112, 105], [100, 98], [119, 101, 98], [99, 97, 99, 104, 101]]).getD (((a0.Trees.getD a1.toNat Z5).Calls.getD a2.toNat Z4).Service.tmod 4).toNat []), (([[118, 49], [118, 50], []]).getD (((a0.Trees.getD a1.toNat Z5).Calls.getD a2.toNat Z4).Version.tmod 3).toNat []), (([[103, 101, 116], [112, 117, 116], [108, 105, 115, 116]]).getD (((a0.Trees.getD a1.toNat Z5).Calls.getD a2.toNat Z4).Operation.tmod 3).toNat []), (a3.getD a2.toNat 0), (a4.getD a2.toNat 0), ((a0.Trees.getD a1.toNat Z5).Calls.getD a2.toNat Z4).Fail, [], []⟩ : Zd)
               else
                F101_j17 K a0 a1 a2 a3 (⟨v4, (IntKind.i64.wrap (a2 + 1)), 0, 0, (IntKind.i64.wrap (1 + (IntKind.i64.wrap (((a0.Trees.getD a1.toNat Z5).Calls.getD a2.toNat Z4).Clock.tmod 4)))), v6, (([[97, 112, 105], [100, 98], [119, 101, 98], [99, 97, 99, 104, 101]]).getD (((a0.Trees.getD a1.toNat Z5).Calls.getD a2.toNat Z4).Service.tmod 4).toNat []), (([[118, 49], [118, 50], []]).getD (((a0.Trees.getD a1.toNat Z5).Calls.getD a2.toNat Z4).Version.tmod 3).toNat []), (([[103, 101, 116], [112, 117, 116], [108, 105, 115, 116]]).getD (((a0.Trees.getD a1.toNat Z5).Calls.getD a2.toNat Z4).Operation.tmod 3).toNat []), (a3.getD a2.toNat 0), (a4.getD a2.toNat 0), ((a0.Trees.getD a1.toNat Z5).Calls.getD a2.toNat Z4).Fail, [], []⟩ : Zd)
             else none
            else none
           else none
          else none
         else none
        else none
       else none
      else none
     else none
  else none
 else none
theorem F101_ok (K : Nat) (a0 : Zp) (a1 : Int) (a2 : Int) (a3 : (List Int)) (a4 : (List Int)) (r : Zd) (h : F101 K a0 a1 a2 a3 a4 = some r) : ACall P 101 ⟨[(Z9 a0), (.int .i64 a1), (.int .i64 a2), (.sl 1 (a3.map Z1k) false), (.sl 1 (a4.map Z1k) false)], [], (Z3 r), [], []⟩ := by
 refine Z1t Try.func101 Try.results101 rfl Try.ntmps101 rfl rfl rfl ?_
 intro E Q hP hN hro hret
 obtain ⟨P', nt', w0, F0, p0, S0, β0, ro0⟩ := E
 simp only at hP hN
 subst hP hN
 dsimp only [argT]
 unfold F101 at h
 refine Zh <| Zc <| Z2 I (st_box (v := (Z9 a0)) (cs := (Z9 a0).cells) I I I I I) I <| Z2 I (st_alloc (cs := [(.int .i64 0), (.int .i64 0), (.int .i64 0), (.int .i64 0), (.int .i64 0), (.int .i64 0), (.str []), (.str []), (.str []), (.int .i64 0), (.int .i64 0), (.bool false), (.sl 4 [] false), (.sl 2 [] false)]) I z38 I I I) I <| Zf <| Zg <| Zh <| Zc ?_
 refine Z2 I (Zq (m := 5) (o := 0) I f46_0 I I) I <| Z2 I (Z11 (cs := (Z9 a0).cells) (v := (.sl 3 (a0.Trees.map Zs) false)) I o41 I I I) I <| Z2 I (Zi (v := (.int .i64 a1)) I I) I ?_
 have ⟨hg1, h⟩ := Z10 h
 refine Z2 I (Z1r (k := .i64) (l := a0.Trees) (enc := Zs) (z := Z5) (n := a1) (cs := (Zs (a0.Trees.getD a1.toNat Z5)).cells) (full := false) I s41 I I hg1 I) I <| Z2 I (st_fieldI (cs := (Zs (a0.Trees.getD a1.toNat Z5)).cells) (ds := [(.sl 11 ((a0.Trees.getD a1.toNat Z5).Calls.map Zm) false)]) I f102_2 I I I) I <| Z2 I (st_loadI (cs := [(.sl 11 ((a0.Trees.getD a1.toNat Z5).Calls.map Zm) false)]) (v := (.sl 11 ((a0.Trees.getD a1.toNat Z5).Calls.map Zm) false)) I o100 I I) I <| Z2 I (Zi (v := (.int .i64 a2)) I I) I ?_
 have ⟨hg2, h⟩ := Z10 h
 refine Z2 I (Z1r (k := .i64) (l := (a0.Trees.getD a1.toNat Z5).Calls) (enc := Zm) (z := Z4) (n := a2) (cs := (Zm ((a0.Trees.getD a1.toNat Z5).Calls.getD a2.toNat Z4)).cells) (full := false) I s100 I I hg2 I) I <| Z2 I (st_loadIA (cs := (Zm ((a0.Trees.getD a1.toNat Z5).Calls.getD a2.toNat Z4)).cells) (vs := (Zm ((a0.Trees.getD a1.toNat Z5).Calls.getD a2.toNat Z4)).cells) I a113 I I I) I <| Z2 I (st_alloc (cs := [(.int .u8 0), (.int .u8 0), (.int .u8 0), (.int .u8 0), (.int .u8 0), (.int .u8 0), (.int .u8 0), (.int .u8 0), (.int .u8 0), (.int .u8 0), (.bool false)]) I z113 I I I) I <| Z2 I (Z1m (cs := [(.int .u8 0), (.int .u8 0), (.int .u8 0), (.int .u8 0), (.int .u8 0), (.int .u8 0), (.int .u8 0), (.int .u8 0), (.int .u8 0), (.int .u8 0), (.bool false)]) (vs := (Zm ((a0.Trees.getD a1.toNat Z5).Calls.getD a2.toNat Z4)).cells) (ds := (Zm ((a0.Trees.getD a1.toNat Z5).Calls.getD a2.toNat Z4)).cells) (v := (Zm ((a0.Trees.getD a1.toNat Z5).Calls.getD a2.toNat Z4))) sz113 I I I I I I I I) I <| Zf <| Zg <| Zh <| Z1s mixed ?_
 refine Z7 0 I (Z1b (cs := (Z9 a0).cells) (vs := (Z9 a0).cells) I a46 I I I I) <| Z7 1 I (Zi (v := (.int .i64 a1)) I I) ?_
 have ⟨v4, hv4, h⟩ := Z19 h
 refine Z7 2 I (Z17 (ar := [(Z9 a0), (.int .i64 a1)]) (caps := []) Try.call62 (F62_ok K a0 a1 v4 hv4) I I ⟨rfl, rfl, trivial⟩ I) <| Z7 3 I (Zi (v := (.int .i64 a2)) I I) <| Z7 4 I (Z1h (k := .i64) (a := a2) (b := 1) (c := (IntKind.i64.wrap (a2 + 1))) I I I I) <| Z7 5 I (Zq (m := 11) (o := 0) I f113_1 I I) <| Z7 6 I (Z11 (cs := (Zm ((a0.Trees.getD a1.toNat Z5).Calls.getD a2.toNat Z4)).cells) (v := (.int .u8 ((a0.Trees.getD a1.toNat Z5).Calls.getD a2.toNat Z4).Clock)) I o5 I I I) <| Z7 7 I (st_div (k := .u8) (a := ((a0.Trees.getD a1.toNat Z5).Calls.getD a2.toNat Z4).Clock) (b := 4) (c := (((a0.Trees.getD a1.toNat Z5).Calls.getD a2.toNat Z4).Clock.tmod 4)) I I I I (by decide)) <| Z7 8 I (st_conv I us5 u3 I) <| Z7 9 I (Z1h (k := .i64) (a := 1) (b := (IntKind.i64.wrap (((a0.Trees.getD a1.toNat Z5).Calls.getD a2.toNat Z4).Clock.tmod 4))) (c := (IntKind.i64.wrap (1 + (IntKind.i64.wrap (((a0.Trees.getD a1.toNat Z5).Calls.getD a2.toNat Z4).Clock.tmod 4))))) I I I I) ?_
 refine Z7 10 I (Z1b (cs := (Zm ((a0.Trees.getD a1.toNat Z5).Calls.getD a2.toNat Z4)).cells) (vs := (Zm ((a0.Trees.getD a1.toNat Z5).Calls.getD a2.toNat Z4)).cells) I a113 I I I I) ?_
 have ⟨v6, hv6, h⟩ := Z19 h
 refine Z7 11 I (Z17 (ar := [(Zm ((a0.Trees.getD a1.toNat Z5).Calls.getD a2.toNat Z4))]) (caps := []) Try.call126 (F126_ok K ((a0.Trees.getD a1.toNat Z5).Calls.getD a2.toNat Z4) v6 hv6) I I ⟨rfl, trivial⟩ I) <| Z7 12 I (Zq (m := 11) (o := 0) I f113_10 I I) <| Z7 13 I (Z11 (cs := (Zm ((a0.Trees.getD a1.toNat Z5).Calls.getD a2.toNat Z4)).cells) (v := (.bool ((a0.Trees.getD a1.toNat Z5).Calls.getD a2.toNat Z4).Fail)) I o4 I I I) <| Z7 14 I (Zi (v := (.sl 1 (a3.map Z1k) false)) I I) <| Z7 15 I (Zi (v := (.int .i64 a2)) I I) ?_
 have ⟨hg7, h⟩ := Z10 h
 refine Z7 16 I (Z1r (k := .i64) (l := a3) (enc := Z1k) (z := 0) (n := a2) (cs := [(.int .i64 (a3.getD a2.toNat 0))]) (full := false) I s87 I I hg7 I) <| Z7 17 I (st_loadI (cs := [(.int .i64 (a3.getD a2.toNat 0))]) (v := (.int .i64 (a3.getD a2.toNat 0))) I o3 I I) <| Z7 18 I (Zi (v := (.sl 1 (a4.map Z1k) false)) I I) <| Z7 19 I (Zi (v := (.int .i64 a2)) I I) ?_
 have ⟨hg8, h⟩ := Z10 h
 refine Z7 20 I (Z1r (k := .i64) (l := a4) (enc := Z1k) (z := 0) (n := a2) (cs := [(.int .i64 (a4.getD a2.toNat 0))]) (full := false) I s87 I I hg8 I) <| Z7 21 I (st_loadI (cs := [(.int .i64 (a4.getD a2.toNat 0))]) (v := (.int .i64 (a4.getD a2.toNat 0))) I o3 I I) <| Z7 22 I (stx_build (vs := [(0, (.int .i64 v4)), (1, (.int .i64 (IntKind.i64.wrap (a2 + 1)))), (4, (.int .i64 (IntKind.i64.wrap (1 + (IntKind.i64.wrap (((a0.Trees.getD a1.toNat Z5).Calls.getD a2.toNat Z4).Clock.tmod 4)))))), (5, (.int .i64 v6)), (11, (.bool ((a0.Trees.getD a1.toNat Z5).Calls.getD a2.toNat Z4).Fail)), (9, (.int .i64 (a3.getD a2.toNat 0))), (10, (.int .i64 (a4.getD a2.toNat 0)))]) (cs := [(.int .i64 v4), (.int .i64 (IntKind.i64.wrap (a2 + 1))), (.int .i64 0), (.int .i64 0), (.int .i64 (IntKind.i64.wrap (1 + (IntKind.i64.wrap (((a0.Trees.getD a1.toNat Z5).Calls.getD a2.toNat Z4).Clock.tmod 4))))), (.int .i64 v6), (.str []), (.str []), (.str []), (.int .i64 (a3.getD a2.toNat 0)), (.int .i64 (a4.getD a2.toNat 0)), (.bool ((a0.Trees.getD a1.toNat Z5).Calls.getD a2.toNat Z4).Fail), (.sl 4 [] false), (.sl 2 [] false)]) I st38 ⟨rfl, rfl, rfl, rfl, rfl, rfl, rfl, rfl, rfl, rfl, rfl, rfl, rfl, rfl, trivial⟩ I) <| Z7 23 I (st_alloc (cs := [(.int .i64 0), (.int .i64 0), (.int .i64 0), (.int .i64 0), (.int .i64 0), (.int .i64 0), (.str []), (.str []), (.str []), (.int .i64 0), (.int .i64 0), (.bool false), (.sl 4 [] false), (.sl 2 [] false)]) I z38 I I I) <| Z7 24 I (Z1m (cs := [(.int .i64 0), (.int .i64 0), (.int .i64 0), (.int .i64 0), (.int .i64 0), (.int .i64 0), (.str []), (.str []), (.str []), (.int .i64 0), (.int .i64 0), (.bool false), (.sl 4 [] false), (.sl 2 [] false)]) (vs := [(.int .i64 v4), (.int .i64 (IntKind.i64.wrap (a2 + 1))), (.int .i64 0), (.int .i64 0), (.int .i64 (IntKind.i64.wrap (1 + (IntKind.i64.wrap (((a0.Trees.getD a1.toNat Z5).Calls.getD a2.toNat Z4).Clock.tmod 4))))), (.int .i64 v6), (.str []), (.str []), (.str []), (.int .i64 (a3.getD a2.toNat 0)), (.int .i64 (a4.getD a2.toNat 0)), (.bool ((a0.Trees.getD a1.toNat Z5).Calls.getD a2.toNat Z4).Fail), (.sl 4 [] false), (.sl 2 [] false)]) (ds := [(.int .i64 v4), (.int .i64 (IntKind.i64.wrap (a2 + 1))), (.int .i64 0), (.int .i64 0), (.int .i64 (IntKind.i64.wrap (1 + (IntKind.i64.wrap (((a0.Trees.getD a1.toNat Z5).Calls.getD a2.toNat Z4).Clock.tmod 4))))), (.int .i64 v6), (.str []), (.str []), (.str []), (.int .i64 (a3.getD a2.toNat 0)), (.int .i64 (a4.getD a2.toNat 0)), (.bool ((a0.Trees.getD a1.toNat Z5).Calls.getD a2.toNat Z4).Fail), (.sl 4 [] false), (.sl 2 [] false)]) (v := (.ag [(.int .i64 v4), (.int .i64 (IntKind.i64.wrap (a2 + 1))), (.int .i64 0), (.int .i64 0), (.int .i64 (IntKind.i64.wrap (1 + (IntKind.i64.wrap (((a0.Trees.getD a1.toNat Z5).Calls.getD a2.toNat Z4).Clock.tmod 4))))), (.int .i64 v6), (.str []), (.str []), (.str []), (.int .i64 (a3.getD a2.toNat 0)), (.int .i64 (a4.getD a2.toNat 0)), (.bool ((a0.Trees.getD a1.toNat Z5).Calls.getD a2.toNat Z4).Fail), (.sl 4 [] false), (.sl 2 [] false)])) sz38 I I I I I I I I) <| Z1v (by kernel_rfl) I <| Zg <| Zh ?_
 refine Zc <| Z2 I (Z1f (vs := [(.str [97, 112, 105]), (.str [100, 98]), (.str [119, 101, 98]), (.str [99, 97, 99, 104, 101])]) (enc := e_str) (l := [[97, 112, 105], [100, 98], [119, 101, 98], [99, 97, 99, 104, 101]]) I el181 I I ⟨rfl, rfl, rfl, rfl, trivial⟩ I els_str I I I I) I <| Z2 I (Zq (m := 11) (o := 0) I f113_3 I I) I <| Z2 I (Z11 (cs := (Zm ((a0.Trees.getD a1.toNat Z5).Calls.getD a2.toNat Z4)).cells) (v := (.int .u8 ((a0.Trees.getD a1.toNat Z5).Calls.getD a2.toNat Z4).Service)) I o5 I I I) I <| Z2 I (st_div (k := .u8) (a := ((a0.Trees.getD a1.toNat Z5).Calls.getD a2.toNat Z4).Service) (b := 4) (c := (((a0.Trees.getD a1.toNat Z5).Calls.getD a2.toNat Z4).Service.tmod 4)) I I I I (by decide)) I ?_
 have ⟨hg9, h⟩ := Z10 h
 refine Z2 I (st_indexV (k := .u8) (v := (.vs 47)) (n := 47) (off := 0) (len := ([[97, 112, 105], [100, 98], [119, 101, 98], [99, 97, 99, 104, 101]]).length) (es := (List.map e_str ([[97, 112, 105], [100, 98], [119, 101, 98], [99, 97, 99, 104, 101]]))) (j := (((a0.Trees.getD a1.toNat Z5).Calls.getD a2.toNat Z4).Service.tmod 4)) (m := (((a0.Trees.getD a1.toNat Z5).Calls.getD a2.toNat Z4).Service.tmod 4).toNat) I s181 I I (vecR_map _ _ _) I hg9 (Nat.zero_add _)) I ?_
 have ⟨hg10, h⟩ := Z10 h
 refine Z2 I (st_loadV (l := ([[97, 112, 105], [100, 98], [119, 101, 98], [99, 97, 99, 104, 101]])) (enc := e_str) (z := []) (v := (.str (([[97, 112, 105], [100, 98], [119, 101, 98], [99, 97, 99, 104, 101]]).getD (((a0.Trees.getD a1.toNat Z5).Calls.getD a2.toNat Z4).Service.tmod 4).toNat []))) I o9 I I hg10 I) I <| Z2 I (Zq (m := 12) (o := 0) I f38_6 I I) I <| Z2 I (Z1m (cs := [(.int .i64 v4), (.int .i64 (IntKind.i64.wrap (a2 + 1))), (.int .i64 0), (.int .i64 0), (.int .i64 (IntKind.i64.wrap (1 + (IntKind.i64.wrap (((a0.Trees.getD a1.toNat Z5).Calls.getD a2.toNat Z4).Clock.tmod 4))))), (.int .i64 v6), (.str []), (.str []), (.str []), (.int .i64 (a3.getD a2.toNat 0)), (.int .i64 (a4.getD a2.toNat 0)), (.bool ((a0.Trees.getD a1.toNat Z5).Calls.getD a2.toNat Z4).Fail), (.sl 4 [] false), (.sl 2 [] false)]) (vs := [(.str (([[97, 112, 105], [100, 98], [119, 101, 98], [99, 97, 99, 104, 101]]).getD (((a0.Trees.getD a1.toNat Z5).Calls.getD a2.toNat Z4).Service.tmod 4).toNat []))]) (ds := [(.int .i64 v4), (.int .i64 (IntKind.i64.wrap (a2 + 1))), (.int .i64 0), (.int .i64 0), (.int .i64 (IntKind.i64.wrap (1 + (IntKind.i64.wrap (((a0.Trees.getD a1.toNat Z5).Calls.getD a2.toNat Z4).Clock.tmod 4))))), (.int .i64 v6), (.str (([[97, 112, 105], [100, 98], [119, 101, 98], [99, 97, 99, 104, 101]]).getD (((a0.Trees.getD a1.toNat Z5).Calls.getD a2.toNat Z4).Service.tmod 4).toNat [])), (.str []), (.str []), (.int .i64 (a3.getD a2.toNat 0)), (.int .i64 (a4.getD a2.toNat 0)), (.bool ((a0.Trees.getD a1.toNat Z5).Calls.getD a2.toNat Z4).Fail), (.sl 4 [] false), (.sl 2 [] false)]) (v := (.str (([[97, 112, 105], [100, 98], [119, 101, 98], [99, 97, 99, 104, 101]]).getD (((a0.Trees.getD a1.toNat Z5).Calls.getD a2.toNat Z4).Service.tmod 4).toNat []))) sz9 I I I I I I I I) I <| Zf <| Zg <| Zh <| Zc <| Z2 I (Z1f (vs := [(.str [118, 49]), (.str [118, 50]), (.str [])]) (enc := e_str) (l := [[118, 49], [118, 50], []]) I el181 I I ⟨rfl, rfl, rfl, trivial⟩ I els_str I I I I) I ?_
 refine Z2 I (Zq (m := 11) (o := 0) I f113_4 I I) I <| Z2 I (Z11 (cs := (Zm ((a0.Trees.getD a1.toNat Z5).Calls.getD a2.toNat Z4)).cells) (v := (.int .u8 ((a0.Trees.getD a1.toNat Z5).Calls.getD a2.toNat Z4).Version)) I o5 I I I) I <| Z2 I (st_div (k := .u8) (a := ((a0.Trees.getD a1.toNat Z5).Calls.getD a2.toNat Z4).Version) (b := 3) (c := (((a0.Trees.getD a1.toNat Z5).Calls.getD a2.toNat Z4).Version.tmod 3)) I I I I (by decide)) I ?_
 have ⟨hg11, h⟩ := Z10 h
 refine Z2 I (st_indexV (k := .u8) (v := (.vs 54)) (n := 54) (off := 0) (len := ([[118, 49], [118, 50], []]).length) (es := (List.map e_str ([[118, 49], [118, 50], []]))) (j := (((a0.Trees.getD a1.toNat Z5).Calls.getD a2.toNat Z4).Version.tmod 3)) (m := (((a0.Trees.getD a1.toNat Z5).Calls.getD a2.toNat Z4).Version.tmod 3).toNat) I s181 I I (vecR_map _ _ _) I hg11 (Nat.zero_add _)) I ?_
 have ⟨hg12, h⟩ := Z10 h
 refine Z2 I (st_loadV (l := ([[118, 49], [118, 50], []])) (enc := e_str) (z := []) (v := (.str (([[118, 49], [118, 50], []]).getD (((a0.Trees.getD a1.toNat Z5).Calls.getD a2.toNat Z4).Version.tmod 3).toNat []))) I o9 I I hg12 I) I <| Z2 I (Zq (m := 12) (o := 0) I f38_7 I I) I <| Z2 I (Z1m (cs := [(.int .i64 v4), (.int .i64 (IntKind.i64.wrap (a2 + 1))), (.int .i64 0), (.int .i64 0), (.int .i64 (IntKind.i64.wrap (1 + (IntKind.i64.wrap (((a0.Trees.getD a1.toNat Z5).Calls.getD a2.toNat Z4).Clock.tmod 4))))), (.int .i64 v6), (.str (([[97, 112, 105], [100, 98], [119, 101, 98], [99, 97, 99, 104, 101]]).getD (((a0.Trees.getD a1.toNat Z5).Calls.getD a2.toNat Z4).Service.tmod 4).toNat [])), (.str []), (.str []), (.int .i64 (a3.getD a2.toNat 0)), (.int .i64 (a4.getD a2.toNat 0)), (.bool ((a0.Trees.getD a1.toNat Z5).Calls.getD a2.toNat Z4).Fail), (.sl 4 [] false), (.sl 2 [] false)]) (vs := [(.str (([[118, 49], [118, 50], []]).getD (((a0.Trees.getD a1.toNat Z5).Calls.getD a2.toNat Z4).Version.tmod 3).toNat []))]) (ds := [(.int .i64 v4), (.int .i64 (IntKind.i64.wrap (a2 + 1))), (.int .i64 0), (.int .i64 0), (.int .i64 (IntKind.i64.wrap (1 + (IntKind.i64.wrap (((a0.Trees.getD a1.toNat Z5).Calls.getD a2.toNat Z4).Clock.tmod 4))))), (.int .i64 v6), (.str (([[97, 112, 105], [100, 98], [119, 101, 98], [99, 97, 99, 104, 101]]).getD (((a0.Trees.getD a1.toNat Z5).Calls.getD a2.toNat Z4).Service.tmod 4).toNat [])), (.str (([[118, 49], [118, 50], []]).getD (((a0.Trees.getD a1.toNat Z5).Calls.getD a2.toNat Z4).Version.tmod 3).toNat [])), (.str []), (.int .i64 (a3.getD a2.toNat 0)), (.int .i64 (a4.getD a2.toNat 0)), (.bool ((a0.Trees.getD a1.toNat Z5).Calls.getD a2.toNat Z4).Fail), (.sl 4 [] false), (.sl 2 [] false)]) (v := (.str (([[118, 49], [118, 50], []]).getD (((a0.Trees.getD a1.toNat Z5).Calls.getD a2.toNat Z4).Version.tmod 3).toNat []))) sz9 I I I I I I I I) I <| Zf <| Zg <| Zh <| Zc <| Z2 I (Z1f (vs := [(.str [103, 101, 116]), (.str [112, 117, 116]), (.str [108, 105, 115, 116])]) (enc := e_str) (l := [[103, 101, 116], [112, 117, 116], [108, 105, 115, 116]]) I el181 I I ⟨rfl, rfl, rfl, trivial⟩ I els_str I I I I) I ?_
 refine Z2 I (Zq (m := 11) (o := 0) I f113_5 I I) I <| Z2 I (Z11 (cs := (Zm ((a0.Trees.getD a1.toNat Z5).Calls.getD a2.toNat Z4)).cells) (v := (.int .u8 ((a0.Trees.getD a1.toNat Z5).Calls.getD a2.toNat Z4).Operation)) I o5 I I I) I <| Z2 I (st_div (k := .u8) (a := ((a0.Trees.getD a1.toNat Z5).Calls.getD a2.toNat Z4).Operation) (b := 3) (c := (((a0.Trees.getD a1.toNat Z5).Calls.getD a2.toNat Z4).Operation.tmod 3)) I I I I (by decide)) I ?_
 have ⟨hg13, h⟩ := Z10 h
 refine Z2 I (st_indexV (k := .u8) (v := (.vs 61)) (n := 61) (off := 0) (len := ([[103, 101, 116], [112, 117, 116], [108, 105, 115, 116]]).length) (es := (List.map e_str ([[103, 101, 116], [112, 117, 116], [108, 105, 115, 116]]))) (j := (((a0.Trees.getD a1.toNat Z5).Calls.getD a2.toNat Z4).Operation.tmod 3)) (m := (((a0.Trees.getD a1.toNat Z5).Calls.getD a2.toNat Z4).Operation.tmod 3).toNat) I s181 I I (vecR_map _ _ _) I hg13 (Nat.zero_add _)) I ?_
 have ⟨hg14, h⟩ := Z10 h
 refine Z2 I (st_loadV (l := ([[103, 101, 116], [112, 117, 116], [108, 105, 115, 116]])) (enc := e_str) (z := []) (v := (.str (([[103, 101, 116], [112, 117, 116], [108, 105, 115, 116]]).getD (((a0.Trees.getD a1.toNat Z5).Calls.getD a2.toNat Z4).Operation.tmod 3).toNat []))) I o9 I I hg14 I) I <| Z2 I (Zq (m := 12) (o := 0) I f38_8 I I) I <| Z2 I (Z1m (cs := [(.int .i64 v4), (.int .i64 (IntKind.i64.wrap (a2 + 1))), (.int .i64 0), (.int .i64 0), (.int .i64 (IntKind.i64.wrap (1 + (IntKind.i64.wrap (((a0.Trees.getD a1.toNat Z5).Calls.getD a2.toNat Z4).Clock.tmod 4))))), (.int .i64 v6), (.str (([[97, 112, 105], [100, 98], [119, 101, 98], [99, 97, 99, 104, 101]]).getD (((a0.Trees.getD a1.toNat Z5).Calls.getD a2.toNat Z4).Service.tmod 4).toNat [])), (.str (([[118, 49], [118, 50], []]).getD (((a0.Trees.getD a1.toNat Z5).Calls.getD a2.toNat Z4).Version.tmod 3).toNat [])), (.str []), (.int .i64 (a3.getD a2.toNat 0)), (.int .i64 (a4.getD a2.toNat 0)), (.bool ((a0.Trees.getD a1.toNat Z5).Calls.getD a2.toNat Z4).Fail), (.sl 4 [] false), (.sl 2 [] false)]) (vs := [(.str (([[103, 101, 116], [112, 117, 116], [108, 105, 115, 116]]).getD (((a0.Trees.getD a1.toNat Z5).Calls.getD a2.toNat Z4).Operation.tmod 3).toNat []))]) (ds := [(.int .i64 v4), (.int .i64 (IntKind.i64.wrap (a2 + 1))), (.int .i64 0), (.int .i64 0), (.int .i64 (IntKind.i64.wrap (1 + (IntKind.i64.wrap (((a0.Trees.getD a1.toNat Z5).Calls.getD a2.toNat Z4).Clock.tmod 4))))), (.int .i64 v6), (.str (([[97, 112, 105], [100, 98], [119, 101, 98], [99, 97, 99, 104, 101]]).getD (((a0.Trees.getD a1.toNat Z5).Calls.getD a2.toNat Z4).Service.tmod 4).toNat [])), (.str (([[118, 49], [118, 50], []]).getD (((a0.Trees.getD a1.toNat Z5).Calls.getD a2.toNat Z4).Version.tmod 3).toNat [])), (.str (([[103, 101, 116], [112, 117, 116], [108, 105, 115, 116]]).getD (((a0.Trees.getD a1.toNat Z5).Calls.getD a2.toNat Z4).Operation.tmod 3).toNat [])), (.int .i64 (a3.getD a2.toNat 0)), (.int .i64 (a4.getD a2.toNat 0)), (.bool ((a0.Trees.getD a1.toNat Z5).Calls.getD a2.toNat Z4).Fail), (.sl 4 [] false), (.sl 2 [] false)]) (v := (.str (([[103, 101, 116], [112, 117, 116], [108, 105, 115, 116]]).getD (((a0.Trees.getD a1.toNat Z5).Calls.getD a2.toNat Z4).Operation.tmod 3).toNat []))) sz9 I I I I I I I I) I <| Zf <| Zg <| Zh <| Zh <| Zc ?_
 refine Z2 I (Zq (m := 11) (o := 0) I f113_0 I I) I <| Z2 I (Z11 (cs := (Zm ((a0.Trees.getD a1.toNat Z5).Calls.getD a2.toNat Z4)).cells) (v := (.int .u8 ((a0.Trees.getD a1.toNat Z5).Calls.getD a2.toNat Z4).Parent)) I o5 I I I) I <| Z2 I (st_conv I us5 u3 I) I <| Z2 I (Zi (v := (.int .i64 a2)) I I) I <| Z2 I (Z1h (k := .i64) (a := a2) (b := 1) (c := (IntKind.i64.wrap (a2 + 1))) I I I I) I ?_
 have ⟨hg15, h⟩ := Z10 h
 refine Z2 I (st_div (k := .i64) (a := (IntKind.i64.wrap ((a0.Trees.getD a1.toNat Z5).Calls.getD a2.toNat Z4).Parent)) (b := (IntKind.i64.wrap (a2 + 1))) (c := ((IntKind.i64.wrap ((a0.Trees.getD a1.toNat Z5).Calls.getD a2.toNat Z4).Parent).tmod (IntKind.i64.wrap (a2 + 1)))) I I I I hg15) I <| Z2 I (Zj (v := (.int .i64 ((IntKind.i64.wrap ((a0.Trees.getD a1.toNat Z5).Calls.getD a2.toNat Z4).Parent).tmod (IntKind.i64.wrap (a2 + 1))))) I I) I <| Zf <| Zg <| Zh <| Zc <| Z2 I (Zi (v := (.int .i64 ((IntKind.i64.wrap ((a0.Trees.getD a1.toNat Z5).Calls.getD a2.toNat Z4).Parent).tmod (IntKind.i64.wrap (a2 + 1))))) I I) I <| Z2 I (Zi (v := (.int .i64 a2)) I I) I ?_
 refine Z2 I (Z1o (k := .i64) (a := ((IntKind.i64.wrap ((a0.Trees.getD a1.toNat Z5).Calls.getD a2.toNat Z4).Parent).tmod (IntKind.i64.wrap (a2 + 1)))) (b := a2) (c := (decide (((IntKind.i64.wrap ((a0.Trees.getD a1.toNat Z5).Calls.getD a2.toNat Z4).Parent).tmod (IntKind.i64.wrap (a2 + 1))) < a2))) I I I I) I <| Zf <| Zg ?_
 refine AWp.join (V := Zd) (lp := fun v => F101_j17 K a0 a1 a2 a3 v = some r) (sh := fun v => ⟨[(2, (.int .i64 a2)), (3, (.sl 1 (a3.map Z1k) false)), (10, (.ptr 10 0)), (11, (.ptr 11 0)), (12, (.ptr 12 0))], [(10, (.box [(.int .i64 0), (.int .i64 0), (.int .i64 0), (.int .i64 0), (.int .i64 0), (.int .i64 0), (.str []), (.str []), (.str []), (.int .i64 0), (.int .i64 0), (.bool false), (.sl 4 [] false), (.sl 2 [] false)])), (11, (.box (Zm ((a0.Trees.getD a1.toNat Z5).Calls.getD a2.toNat Z4)).cells)), (12, (.box (Z3 v).cells))]⟩) ?_ ?_
 ·intro v h
  revert h
  revert v
  intro v16 h
  try dsimp only at h ⊢
  unfold F101_j17 at h
  refine Zg <| Zh <| Zh <| Zc <| Z2 I (Zq (m := 11) (o := 0) I f113_8 I I) I <| Z2 I (Z11 (cs := (Zm ((a0.Trees.getD a1.toNat Z5).Calls.getD a2.toNat Z4)).cells) (v := (.int .u8 ((a0.Trees.getD a1.toNat Z5).Calls.getD a2.toNat Z4).Link)) I o5 I I I) I <| Z2 I (st_div (k := .u8) (a := ((a0.Trees.getD a1.toNat Z5).Calls.getD a2.toNat Z4).Link) (b := 16) (c := (((a0.Trees.getD a1.toNat Z5).Calls.getD a2.toNat Z4).Link.tmod 16)) I I I I (by decide)) I <| Z2 I (st_conv I us5 u3 I) I ?_
  refine Z2 I (Zj (v := (.int .i64 (IntKind.i64.wrap (((a0.Trees.getD a1.toNat Z5).Calls.getD a2.toNat Z4).Link.tmod 16)))) I I) I <| Zf <| Zg <| Zh <| Z1s mixed <| Z7 0 I (Zi (v := (.int .i64 (IntKind.i64.wrap (((a0.Trees.getD a1.toNat Z5).Calls.getD a2.toNat Z4).Link.tmod 16)))) I I) <| Z7 1 I (Zi (v := (.int .i64 a2)) I I) <| Z7 2 I (Z1o (k := .i64) (a := (IntKind.i64.wrap (((a0.Trees.getD a1.toNat Z5).Calls.getD a2.toNat Z4).Link.tmod 16))) (b := a2) (c := (decide ((IntKind.i64.wrap (((a0.Trees.getD a1.toNat Z5).Calls.getD a2.toNat Z4).Link.tmod 16)) < a2))) I I I I) ?_
  refine Z7 3 I (Zi (v := (.bool (decide ((IntKind.i64.wrap (((a0.Trees.getD a1.toNat Z5).Calls.getD a2.toNat Z4).Link.tmod 16)) < a2)))) I I) ?_
  have hif := Z1u h
  refine AOpsD.split (fun hc => ?_) (fun hc => ?_)
  ·have h := hif.1 hc
   refine Z12 4 I I I I (Zi (v := (.sl 1 (a3.map Z1k) false)) I I) <| Z12 5 I I I I (Zi (v := (.int .i64 (IntKind.i64.wrap (((a0.Trees.getD a1.toNat Z5).Calls.getD a2.toNat Z4).Link.tmod 16)))) I I) ?_
   have ⟨hg18, h⟩ := Z10 h
   refine Z12 6 I I I I (Z1r (k := .i64) (l := a3) (enc := Z1k) (z := 0) (n := (IntKind.i64.wrap (((a0.Trees.getD a1.toNat Z5).Calls.getD a2.toNat Z4).Link.tmod 16))) (cs := [(.int .i64 (a3.getD (IntKind.i64.wrap (((a0.Trees.getD a1.toNat Z5).Calls.getD a2.toNat Z4).Link.tmod 16)).toNat 0))]) (full := false) I s87 I I hg18 I) <| Z12 7 I I I I (st_loadI (cs := [(.int .i64 (a3.getD (IntKind.i64.wrap (((a0.Trees.getD a1.toNat Z5).Calls.getD a2.toNat Z4).Link.tmod 16)).toNat 0))]) (v := (.int .i64 (a3.getD (IntKind.i64.wrap (((a0.Trees.getD a1.toNat Z5).Calls.getD a2.toNat Z4).Link.tmod 16)).toNat 0))) I o3 I I) <| Z12 8 I I I I (Zi (v := (.sl 1 (a3.map Z1k) false)) I I) <| Z12 9 I I I I (Zi (v := (.int .i64 a2)) I I) ?_
   have ⟨hg19, h⟩ := Z10 h
   refine Z12 10 I I I I (Z1r (k := .i64) (l := a3) (enc := Z1k) (z := 0) (n := a2) (cs := [(.int .i64 (a3.getD a2.toNat 0))]) (full := false) I s87 I I hg19 I) <| Z12 11 I I I I (st_loadI (cs := [(.int .i64 (a3.getD a2.toNat 0))]) (v := (.int .i64 (a3.getD a2.toNat 0))) I o3 I I) <| Z12 12 I I I I (Z1o (k := .i64) (a := (a3.getD (IntKind.i64.wrap (((a0.Trees.getD a1.toNat Z5).Calls.getD a2.toNat Z4).Link.tmod 16)).toNat 0)) (b := (a3.getD a2.toNat 0)) (c := (decide ((a3.getD (IntKind.i64.wrap (((a0.Trees.getD a1.toNat Z5).Calls.getD a2.toNat Z4).Link.tmod 16)).toNat 0) ≤ (a3.getD a2.toNat 0)))) I I I I) <| Z7 13 I (st_pickT (v := (.bool (decide ((a3.getD (IntKind.i64.wrap (((a0.Trees.getD a1.toNat Z5).Calls.getD a2.toNat Z4).Link.tmod 16)).toNat 0) ≤ (a3.getD a2.toNat 0))))) I I I) <| Z1v (by kernel_rfl) I <| Zg ?_
   refine AWp.join (V := (List Zr)) (lp := fun v => F101_j21 K a0 a1 a2 v16 v = some r) (sh := fun v => ⟨[(10, (.ptr 10 0)), (11, (.ptr 11 0)), (12, (.ptr 12 0))], [(10, (.box [(.int .i64 0), (.int .i64 0), (.int .i64 0), (.int .i64 0), (.int .i64 0), (.int .i64 0), (.str []), (.str []), (.str []), (.int .i64 0), (.int .i64 0), (.bool false), (.sl 4 [] false), (.sl 2 [] false)])), (11, (.box (Zm ((a0.Trees.getD a1.toNat Z5).Calls.getD a2.toNat Z4)).cells)), (12, (.box [(.int .i64 v16.Trace), (.int .i64 v16.Id), (.int .i64 v16.Parent), (.int .i64 v16.Revision), (.int .i64 v16.Clock), (.int .i64 v16.Kind), (.str v16.Service), (.str v16.Version), (.str v16.Operation), (.int .i64 v16.Start), (.int .i64 v16.End), (.bool v16.Error), (.sl 4 (v16.Attrs.map Zv) false), (.sl 2 (v.map Zk) false)]))]⟩) ?_ ?_
   ·intro v h
    revert h
    revert v
    intro v20 h
    try dsimp only at h ⊢
    unfold F101_j21 at h
    refine Zg <| Zh <| Zc <| Z2 I (Z1b (cs := (Zm ((a0.Trees.getD a1.toNat Z5).Calls.getD a2.toNat Z4)).cells) (vs := (Zm ((a0.Trees.getD a1.toNat Z5).Calls.getD a2.toNat Z4)).cells) I a113 I I I I) I ?_
    have ⟨v23, hv23, h⟩ := Z19 h
    refine Z2 I (Z17 (ar := [(Zm ((a0.Trees.getD a1.toNat Z5).Calls.getD a2.toNat Z4))]) (caps := []) Try.call127 (F127_ok K ((a0.Trees.getD a1.toNat Z5).Calls.getD a2.toNat Z4) v23 hv23) I I ⟨rfl, trivial⟩ I) I <| Z2 I (Zq (m := 12) (o := 0) I f38_12 I I) I <| Z2 I (Z1m (cs := [(.int .i64 v16.Trace), (.int .i64 v16.Id), (.int .i64 v16.Parent), (.int .i64 v16.Revision), (.int .i64 v16.Clock), (.int .i64 v16.Kind), (.str v16.Service), (.str v16.Version), (.str v16.Operation), (.int .i64 v16.Start), (.int .i64 v16.End), (.bool v16.Error), (.sl 4 (v16.Attrs.map Zv) false), (.sl 2 (v20.map Zk) false)]) (vs := [(.sl 4 (v23.map Zv) false)]) (ds := [(.int .i64 v16.Trace), (.int .i64 v16.Id), (.int .i64 v16.Parent), (.int .i64 v16.Revision), (.int .i64 v16.Clock), (.int .i64 v16.Kind), (.str v16.Service), (.str v16.Version), (.str v16.Operation), (.int .i64 v16.Start), (.int .i64 v16.End), (.bool v16.Error), (.sl 4 (v23.map Zv) false), (.sl 2 (v20.map Zk) false)]) (v := (.sl 4 (v23.map Zv) false)) sz35 I I I I I I I I) I <| Zf <| Zg <| Zh <| Zc <| Z2 I (Z1b (cs := [(.int .i64 v16.Trace), (.int .i64 v16.Id), (.int .i64 v16.Parent), (.int .i64 v16.Revision), (.int .i64 v16.Clock), (.int .i64 v16.Kind), (.str v16.Service), (.str v16.Version), (.str v16.Operation), (.int .i64 v16.Start), (.int .i64 v16.End), (.bool v16.Error), (.sl 4 (v23.map Zv) false), (.sl 2 (v20.map Zk) false)]) (vs := [(.int .i64 v16.Trace), (.int .i64 v16.Id), (.int .i64 v16.Parent), (.int .i64 v16.Revision), (.int .i64 v16.Clock), (.int .i64 v16.Kind), (.str v16.Service), (.str v16.Version), (.str v16.Operation), (.int .i64 v16.Start), (.int .i64 v16.End), (.bool v16.Error), (.sl 4 (v23.map Zv) false), (.sl 2 (v20.map Zk) false)]) I a38 I I I I) I ?_
    refine Z2 I (Z1m (cs := [(.int .i64 0), (.int .i64 0), (.int .i64 0), (.int .i64 0), (.int .i64 0), (.int .i64 0), (.str []), (.str []), (.str []), (.int .i64 0), (.int .i64 0), (.bool false), (.sl 4 [] false), (.sl 2 [] false)]) (vs := [(.int .i64 v16.Trace), (.int .i64 v16.Id), (.int .i64 v16.Parent), (.int .i64 v16.Revision), (.int .i64 v16.Clock), (.int .i64 v16.Kind), (.str v16.Service), (.str v16.Version), (.str v16.Operation), (.int .i64 v16.Start), (.int .i64 v16.End), (.bool v16.Error), (.sl 4 (v23.map Zv) false), (.sl 2 (v20.map Zk) false)]) (ds := [(.int .i64 v16.Trace), (.int .i64 v16.Id), (.int .i64 v16.Parent), (.int .i64 v16.Revision), (.int .i64 v16.Clock), (.int .i64 v16.Kind), (.str v16.Service), (.str v16.Version), (.str v16.Operation), (.int .i64 v16.Start), (.int .i64 v16.End), (.bool v16.Error), (.sl 4 (v23.map Zv) false), (.sl 2 (v20.map Zk) false)]) (v := (.ag [(.int .i64 v16.Trace), (.int .i64 v16.Id), (.int .i64 v16.Parent), (.int .i64 v16.Revision), (.int .i64 v16.Clock), (.int .i64 v16.Kind), (.str v16.Service), (.str v16.Version), (.str v16.Operation), (.int .i64 v16.Start), (.int .i64 v16.End), (.bool v16.Error), (.sl 4 (v23.map Zv) false), (.sl 2 (v20.map Zk) false)])) sz38 I I I I I I I I) I <| Zf <| Zg <| Z1e ?_
    have h := Option.some.inj h
    subst h
    refine (hret _ ?_).1
    exact ⟨[(.ag [(.int .i64 v16.Trace), (.int .i64 v16.Id), (.int .i64 v16.Parent), (.int .i64 v16.Revision), (.int .i64 v16.Clock), (.int .i64 v16.Kind), (.str v16.Service), (.str v16.Version), (.str v16.Operation), (.int .i64 v16.Start), (.int .i64 v16.End), (.bool v16.Error), (.sl 4 (v23.map Zv) false), (.sl 2 (v20.map Zk) false)])], ⟨⟨10, _, rfl, rfl, .inr ⟨_, a38, rfl, rfl⟩⟩, trivial⟩, rfl, trivial⟩
   ·intro J21
    have hif := Z1u h
    refine Z16 I (fun hc => ?_) (fun hc => ?_)
    ·have h := hif.1 hc
     refine Zc <| Z2 I (Zq (m := 12) (o := 0) I f38_0 I I) I <| Z2 I (Z11 (cs := (Z3 v16).cells) (v := (.int .i64 v16.Trace)) I o3 I I I) I <| Z2 I (Zi (v := (.int .i64 (IntKind.i64.wrap (((a0.Trees.getD a1.toNat Z5).Calls.getD a2.toNat Z4).Link.tmod 16)))) I I) I <| Z2 I (Z1h (k := .i64) (a := (IntKind.i64.wrap (((a0.Trees.getD a1.toNat Z5).Calls.getD a2.toNat Z4).Link.tmod 16))) (b := 1) (c := (IntKind.i64.wrap ((IntKind.i64.wrap (((a0.Trees.getD a1.toNat Z5).Calls.getD a2.toNat Z4).Link.tmod 16)) + 1))) I I I I) I <| Z2 I (stx_build (vs := [(0, (.int .i64 v16.Trace)), (1, (.int .i64 (IntKind.i64.wrap ((IntKind.i64.wrap (((a0.Trees.getD a1.toNat Z5).Calls.getD a2.toNat Z4).Link.tmod 16)) + 1))))]) (cs := [(.int .i64 v16.Trace), (.int .i64 (IntKind.i64.wrap ((IntKind.i64.wrap (((a0.Trees.getD a1.toNat Z5).Calls.getD a2.toNat Z4).Link.tmod 16)) + 1)))]) I st23 ⟨rfl, rfl, rfl, rfl, trivial⟩ I) I <| Z2 I (Z1f (vs := [(.ag [(.int .i64 v16.Trace), (.int .i64 (IntKind.i64.wrap ((IntKind.i64.wrap (((a0.Trees.getD a1.toNat Z5).Calls.getD a2.toNat Z4).Link.tmod 16)) + 1)))])]) (enc := Zk) (l := [(⟨v16.Trace, (IntKind.i64.wrap ((IntKind.i64.wrap (((a0.Trees.getD a1.toNat Z5).Calls.getD a2.toNat Z4).Link.tmod 16)) + 1))⟩ : Zr)]) I el36 I I ⟨rfl, trivial⟩ I els_Tapi_Ref I I I I) I <| Z2 I (Zq (m := 12) (o := 0) I f38_13 I I) I ?_
     refine Z2 I (Z1m (cs := (Z3 v16).cells) (vs := [(.vs 106)]) (ds := [(.int .i64 v16.Trace), (.int .i64 v16.Id), (.int .i64 v16.Parent), (.int .i64 v16.Revision), (.int .i64 v16.Clock), (.int .i64 v16.Kind), (.str v16.Service), (.str v16.Version), (.str v16.Operation), (.int .i64 v16.Start), (.int .i64 v16.End), (.bool v16.Error), (.sl 4 (v16.Attrs.map Zv) false), (.vs 106)]) (v := (.vs 106)) sz36 I I I I I I I I) I <| Zf <| At.ghost (st' := ⟨[(10, (.ptr 10 0)), (11, (.ptr 11 0)), (12, (.ptr 12 0))], [(10, (.box [(.int .i64 0), (.int .i64 0), (.int .i64 0), (.int .i64 0), (.int .i64 0), (.int .i64 0), (.str []), (.str []), (.str []), (.int .i64 0), (.int .i64 0), (.bool false), (.sl 4 [] false), (.sl 2 [] false)])), (11, (.box (Zm ((a0.Trees.getD a1.toNat Z5).Calls.getD a2.toNat Z4)).cells)), (12, (.box [(.int .i64 v16.Trace), (.int .i64 v16.Id), (.int .i64 v16.Parent), (.int .i64 v16.Revision), (.int .i64 v16.Clock), (.int .i64 v16.Kind), (.str v16.Service), (.str v16.Version), (.str v16.Operation), (.int .i64 v16.Start), (.int .i64 v16.End), (.bool v16.Error), (.sl 4 (v16.Attrs.map Zv) false), (.sl 2 ([(⟨v16.Trace, (IntKind.i64.wrap ((IntKind.i64.wrap (((a0.Trees.getD a1.toNat Z5).Calls.getD a2.toNat Z4).Link.tmod 16)) + 1))⟩ : Zr)].map Zk) false)]))]⟩) (fun a w h => (Z1a ⟨[(10, (.ptr 10 0)), (11, (.ptr 11 0)), (12, (.ptr 12 0))], [(10, (.box [(.int .i64 0), (.int .i64 0), (.int .i64 0), (.int .i64 0), (.int .i64 0), (.int .i64 0), (.str []), (.str []), (.str []), (.int .i64 0), (.int .i64 0), (.bool false), (.sl 4 [] false), (.sl 2 [] false)])), (11, (.box (Zm ((a0.Trees.getD a1.toNat Z5).Calls.getD a2.toNat Z4)).cells)), (12, (.box [(.int .i64 v16.Trace), (.int .i64 v16.Id), (.int .i64 v16.Parent), (.int .i64 v16.Revision), (.int .i64 v16.Clock), (.int .i64 v16.Kind), (.str v16.Service), (.str v16.Version), (.str v16.Operation), (.int .i64 v16.Start), (.int .i64 v16.End), (.bool v16.Error), (.sl 4 (v16.Attrs.map Zv) false), (.sl 2 ([(⟨v16.Trace, (IntKind.i64.wrap ((IntKind.i64.wrap (((a0.Trees.getD a1.toNat Z5).Calls.getD a2.toNat Z4).Link.tmod 16)) + 1))⟩ : Zr)].map Zk) false)]))]⟩ (ghost_freeze (m := 106) (sz := 2) (es := (List.map Zk [(⟨v16.Trace, (IntKind.i64.wrap ((IntKind.i64.wrap (((a0.Trees.getD a1.toNat Z5).Calls.getD a2.toNat Z4).Link.tmod 16)) + 1))⟩ : Zr)])) a w (Z1a ⟨[(10, (.ptr 10 0)), (11, (.ptr 11 0)), (12, (.ptr 12 0))], [(106, (.vec 2 (List.map Zk [(⟨v16.Trace, (IntKind.i64.wrap ((IntKind.i64.wrap (((a0.Trees.getD a1.toNat Z5).Calls.getD a2.toNat Z4).Link.tmod 16)) + 1))⟩ : Zr)]))), (10, (.box [(.int .i64 0), (.int .i64 0), (.int .i64 0), (.int .i64 0), (.int .i64 0), (.int .i64 0), (.str []), (.str []), (.str []), (.int .i64 0), (.int .i64 0), (.bool false), (.sl 4 [] false), (.sl 2 [] false)])), (11, (.box (Zm ((a0.Trees.getD a1.toNat Z5).Calls.getD a2.toNat Z4)).cells)), (12, (.box [(.int .i64 v16.Trace), (.int .i64 v16.Id), (.int .i64 v16.Parent), (.int .i64 v16.Revision), (.int .i64 v16.Clock), (.int .i64 v16.Kind), (.str v16.Service), (.str v16.Version), (.str v16.Operation), (.int .i64 v16.Start), (.int .i64 v16.End), (.bool v16.Error), (.sl 4 (v16.Attrs.map Zv) false), (.vs 106)]))]⟩ h ⟨rfl, rfl, rfl, trivial⟩ ⟨rfl, rfl, rfl, rfl, trivial⟩)) ⟨rfl, rfl, rfl, trivial⟩ ⟨rfl, rfl, rfl, trivial⟩)) ?_
     exact Zw (st' := ⟨[(10, (.ptr 10 0)), (11, (.ptr 11 0)), (12, (.ptr 12 0))], [(10, (.box [(.int .i64 0), (.int .i64 0), (.int .i64 0), (.int .i64 0), (.int .i64 0), (.int .i64 0), (.str []), (.str []), (.str []), (.int .i64 0), (.int .i64 0), (.bool false), (.sl 4 [] false), (.sl 2 [] false)])), (11, (.box (Zm ((a0.Trees.getD a1.toNat Z5).Calls.getD a2.toNat Z4)).cells)), (12, (.box [(.int .i64 v16.Trace), (.int .i64 v16.Id), (.int .i64 v16.Parent), (.int .i64 v16.Revision), (.int .i64 v16.Clock), (.int .i64 v16.Kind), (.str v16.Service), (.str v16.Version), (.str v16.Operation), (.int .i64 v16.Start), (.int .i64 v16.End), (.bool v16.Error), (.sl 4 (v16.Attrs.map Zv) false), (.sl 2 ([(⟨v16.Trace, (IntKind.i64.wrap ((IntKind.i64.wrap (((a0.Trees.getD a1.toNat Z5).Calls.getD a2.toNat Z4).Link.tmod 16)) + 1))⟩ : Zr)].map Zk) false)]))]⟩) ⟨rfl, rfl, rfl, trivial⟩ ⟨rfl, rfl, rfl, trivial⟩ (J21 [(⟨v16.Trace, (IntKind.i64.wrap ((IntKind.i64.wrap (((a0.Trees.getD a1.toNat Z5).Calls.getD a2.toNat Z4).Link.tmod 16)) + 1))⟩ : Zr)] h)
    ·have h := hif.2 hc
     refine Z18 ?_
     exact Zw (st' := ⟨[(10, (.ptr 10 0)), (11, (.ptr 11 0)), (12, (.ptr 12 0))], [(10, (.box [(.int .i64 0), (.int .i64 0), (.int .i64 0), (.int .i64 0), (.int .i64 0), (.int .i64 0), (.str []), (.str []), (.str []), (.int .i64 0), (.int .i64 0), (.bool false), (.sl 4 [] false), (.sl 2 [] false)])), (11, (.box (Zm ((a0.Trees.getD a1.toNat Z5).Calls.getD a2.toNat Z4)).cells)), (12, (.box [(.int .i64 v16.Trace), (.int .i64 v16.Id), (.int .i64 v16.Parent), (.int .i64 v16.Revision), (.int .i64 v16.Clock), (.int .i64 v16.Kind), (.str v16.Service), (.str v16.Version), (.str v16.Operation), (.int .i64 v16.Start), (.int .i64 v16.End), (.bool v16.Error), (.sl 4 (v16.Attrs.map Zv) false), (.sl 2 (v16.Links.map Zk) false)]))]⟩) ⟨rfl, rfl, rfl, trivial⟩ ⟨rfl, rfl, rfl, trivial⟩ (J21 v16.Links h)
  ·have h := hif.2 hc
   refine Zx 4 I I I I I I I <| Zx 5 I I I I I I I <| Zx 6 I I I I I I I <| Zx 7 I I I I I I I <| Zx 8 I I I I I I I <| Zx 9 I I I I I I I <| Zx 10 I I I I I I I <| Zx 11 I I I I I I I ?_
   refine Zx 12 I I I I I I I <| Z7 13 I (Z1p (v := (.bool false)) I I I) <| Z1v (by kernel_rfl) I <| Zg ?_
   refine Z16 (b := false) I (fun hc => ?_) (fun hc => ?_)
   ·cases hc
   refine Z18 <| Zg <| Zh <| Zc <| Z2 I (Z1b (cs := (Zm ((a0.Trees.getD a1.toNat Z5).Calls.getD a2.toNat Z4)).cells) (vs := (Zm ((a0.Trees.getD a1.toNat Z5).Calls.getD a2.toNat Z4)).cells) I a113 I I I I) I ?_
   have ⟨v25, hv25, h⟩ := Z19 h
   refine Z2 I (Z17 (ar := [(Zm ((a0.Trees.getD a1.toNat Z5).Calls.getD a2.toNat Z4))]) (caps := []) Try.call127 (F127_ok K ((a0.Trees.getD a1.toNat Z5).Calls.getD a2.toNat Z4) v25 hv25) I I ⟨rfl, trivial⟩ I) I <| Z2 I (Zq (m := 12) (o := 0) I f38_12 I I) I <| Z2 I (Z1m (cs := (Z3 v16).cells) (vs := [(.sl 4 (v25.map Zv) false)]) (ds := [(.int .i64 v16.Trace), (.int .i64 v16.Id), (.int .i64 v16.Parent), (.int .i64 v16.Revision), (.int .i64 v16.Clock), (.int .i64 v16.Kind), (.str v16.Service), (.str v16.Version), (.str v16.Operation), (.int .i64 v16.Start), (.int .i64 v16.End), (.bool v16.Error), (.sl 4 (v25.map Zv) false), (.sl 2 (v16.Links.map Zk) false)]) (v := (.sl 4 (v25.map Zv) false)) sz35 I I I I I I I I) I <| Zf <| Zg <| Zh <| Zc <| Z2 I (Z1b (cs := [(.int .i64 v16.Trace), (.int .i64 v16.Id), (.int .i64 v16.Parent), (.int .i64 v16.Revision), (.int .i64 v16.Clock), (.int .i64 v16.Kind), (.str v16.Service), (.str v16.Version), (.str v16.Operation), (.int .i64 v16.Start), (.int .i64 v16.End), (.bool v16.Error), (.sl 4 (v25.map Zv) false), (.sl 2 (v16.Links.map Zk) false)]) (vs := [(.int .i64 v16.Trace), (.int .i64 v16.Id), (.int .i64 v16.Parent), (.int .i64 v16.Revision), (.int .i64 v16.Clock), (.int .i64 v16.Kind), (.str v16.Service), (.str v16.Version), (.str v16.Operation), (.int .i64 v16.Start), (.int .i64 v16.End), (.bool v16.Error), (.sl 4 (v25.map Zv) false), (.sl 2 (v16.Links.map Zk) false)]) I a38 I I I I) I ?_
   refine Z2 I (Z1m (cs := [(.int .i64 0), (.int .i64 0), (.int .i64 0), (.int .i64 0), (.int .i64 0), (.int .i64 0), (.str []), (.str []), (.str []), (.int .i64 0), (.int .i64 0), (.bool false), (.sl 4 [] false), (.sl 2 [] false)]) (vs := [(.int .i64 v16.Trace), (.int .i64 v16.Id), (.int .i64 v16.Parent), (.int .i64 v16.Revision), (.int .i64 v16.Clock), (.int .i64 v16.Kind), (.str v16.Service), (.str v16.Version), (.str v16.Operation), (.int .i64 v16.Start), (.int .i64 v16.End), (.bool v16.Error), (.sl 4 (v25.map Zv) false), (.sl 2 (v16.Links.map Zk) false)]) (ds := [(.int .i64 v16.Trace), (.int .i64 v16.Id), (.int .i64 v16.Parent), (.int .i64 v16.Revision), (.int .i64 v16.Clock), (.int .i64 v16.Kind), (.str v16.Service), (.str v16.Version), (.str v16.Operation), (.int .i64 v16.Start), (.int .i64 v16.End), (.bool v16.Error), (.sl 4 (v25.map Zv) false), (.sl 2 (v16.Links.map Zk) false)]) (v := (.ag [(.int .i64 v16.Trace), (.int .i64 v16.Id), (.int .i64 v16.Parent), (.int .i64 v16.Revision), (.int .i64 v16.Clock), (.int .i64 v16.Kind), (.str v16.Service), (.str v16.Version), (.str v16.Operation), (.int .i64 v16.Start), (.int .i64 v16.End), (.bool v16.Error), (.sl 4 (v25.map Zv) false), (.sl 2 (v16.Links.map Zk) false)])) sz38 I I I I I I I I) I <| Zf <| Zg <| Z1e ?_
   have h := Option.some.inj h
   subst h
   refine (hret _ ?_).1
   exact ⟨[(.ag [(.int .i64 v16.Trace), (.int .i64 v16.Id), (.int .i64 v16.Parent), (.int .i64 v16.Revision), (.int .i64 v16.Clock), (.int .i64 v16.Kind), (.str v16.Service), (.str v16.Version), (.str v16.Operation), (.int .i64 v16.Start), (.int .i64 v16.End), (.bool v16.Error), (.sl 4 (v25.map Zv) false), (.sl 2 (v16.Links.map Zk) false)])], ⟨⟨10, _, rfl, rfl, .inr ⟨_, a38, rfl, rfl⟩⟩, trivial⟩, rfl, trivial⟩
 ·intro J17
  have hif := Z1u h
  refine Z16 I (fun hc => ?_) (fun hc => ?_)
  ·have h := hif.1 hc
   refine Zc <| Z2 I (Zi (v := (.int .i64 ((IntKind.i64.wrap ((a0.Trees.getD a1.toNat Z5).Calls.getD a2.toNat Z4).Parent).tmod (IntKind.i64.wrap (a2 + 1))))) I I) I <| Z2 I (Z1h (k := .i64) (a := ((IntKind.i64.wrap ((a0.Trees.getD a1.toNat Z5).Calls.getD a2.toNat Z4).Parent).tmod (IntKind.i64.wrap (a2 + 1)))) (b := 1) (c := (IntKind.i64.wrap (((IntKind.i64.wrap ((a0.Trees.getD a1.toNat Z5).Calls.getD a2.toNat Z4).Parent).tmod (IntKind.i64.wrap (a2 + 1))) + 1))) I I I I) I <| Z2 I (Zq (m := 12) (o := 0) I f38_2 I I) I <| Z2 I (Z1m (cs := [(.int .i64 v4), (.int .i64 (IntKind.i64.wrap (a2 + 1))), (.int .i64 0), (.int .i64 0), (.int .i64 (IntKind.i64.wrap (1 + (IntKind.i64.wrap (((a0.Trees.getD a1.toNat Z5).Calls.getD a2.toNat Z4).Clock.tmod 4))))), (.int .i64 v6), (.str (([[97, 112, 105], [100, 98], [119, 101, 98], [99, 97, 99, 104, 101]]).getD (((a0.Trees.getD a1.toNat Z5).Calls.getD a2.toNat Z4).Service.tmod 4).toNat [])), (.str (([[118, 49], [118, 50], []]).getD (((a0.Trees.getD a1.toNat Z5).Calls.getD a2.toNat Z4).Version.tmod 3).toNat [])), (.str (([[103, 101, 116], [112, 117, 116], [108, 105, 115, 116]]).getD (((a0.Trees.getD a1.toNat Z5).Calls.getD a2.toNat Z4).Operation.tmod 3).toNat [])), (.int .i64 (a3.getD a2.toNat 0)), (.int .i64 (a4.getD a2.toNat 0)), (.bool ((a0.Trees.getD a1.toNat Z5).Calls.getD a2.toNat Z4).Fail), (.sl 4 [] false), (.sl 2 [] false)]) (vs := [(.int .i64 (IntKind.i64.wrap (((IntKind.i64.wrap ((a0.Trees.getD a1.toNat Z5).Calls.getD a2.toNat Z4).Parent).tmod (IntKind.i64.wrap (a2 + 1))) + 1)))]) (ds := [(.int .i64 v4), (.int .i64 (IntKind.i64.wrap (a2 + 1))), (.int .i64 (IntKind.i64.wrap (((IntKind.i64.wrap ((a0.Trees.getD a1.toNat Z5).Calls.getD a2.toNat Z4).Parent).tmod (IntKind.i64.wrap (a2 + 1))) + 1))), (.int .i64 0), (.int .i64 (IntKind.i64.wrap (1 + (IntKind.i64.wrap (((a0.Trees.getD a1.toNat Z5).Calls.getD a2.toNat Z4).Clock.tmod 4))))), (.int .i64 v6), (.str (([[97, 112, 105], [100, 98], [119, 101, 98], [99, 97, 99, 104, 101]]).getD (((a0.Trees.getD a1.toNat Z5).Calls.getD a2.toNat Z4).Service.tmod 4).toNat [])), (.str (([[118, 49], [118, 50], []]).getD (((a0.Trees.getD a1.toNat Z5).Calls.getD a2.toNat Z4).Version.tmod 3).toNat [])), (.str (([[103, 101, 116], [112, 117, 116], [108, 105, 115, 116]]).getD (((a0.Trees.getD a1.toNat Z5).Calls.getD a2.toNat Z4).Operation.tmod 3).toNat [])), (.int .i64 (a3.getD a2.toNat 0)), (.int .i64 (a4.getD a2.toNat 0)), (.bool ((a0.Trees.getD a1.toNat Z5).Calls.getD a2.toNat Z4).Fail), (.sl 4 [] false), (.sl 2 [] false)]) (v := (.int .i64 (IntKind.i64.wrap (((IntKind.i64.wrap ((a0.Trees.getD a1.toNat Z5).Calls.getD a2.toNat Z4).Parent).tmod (IntKind.i64.wrap (a2 + 1))) + 1)))) sz3 I I I I I I I I) I <| Zf ?_
   exact Zw (st' := ⟨[(2, (.int .i64 a2)), (3, (.sl 1 (a3.map Z1k) false)), (10, (.ptr 10 0)), (11, (.ptr 11 0)), (12, (.ptr 12 0))], [(10, (.box [(.int .i64 0), (.int .i64 0), (.int .i64 0), (.int .i64 0), (.int .i64 0), (.int .i64 0), (.str []), (.str []), (.str []), (.int .i64 0), (.int .i64 0), (.bool false), (.sl 4 [] false), (.sl 2 [] false)])), (11, (.box (Zm ((a0.Trees.getD a1.toNat Z5).Calls.getD a2.toNat Z4)).cells)), (12, (.box (Z3 (⟨v4, (IntKind.i64.wrap (a2 + 1)), (IntKind.i64.wrap (((IntKind.i64.wrap ((a0.Trees.getD a1.toNat Z5).Calls.getD a2.toNat Z4).Parent).tmod (IntKind.i64.wrap (a2 + 1))) + 1)), 0, (IntKind.i64.wrap (1 + (IntKind.i64.wrap (((a0.Trees.getD a1.toNat Z5).Calls.getD a2.toNat Z4).Clock.tmod 4)))), v6, (([[97, 112, 105], [100, 98], [119, 101, 98], [99, 97, 99, 104, 101]]).getD (((a0.Trees.getD a1.toNat Z5).Calls.getD a2.toNat Z4).Service.tmod 4).toNat []), (([[118, 49], [118, 50], []]).getD (((a0.Trees.getD a1.toNat Z5).Calls.getD a2.toNat Z4).Version.tmod 3).toNat []), (([[103, 101, 116], [112, 117, 116], [108, 105, 115, 116]]).getD (((a0.Trees.getD a1.toNat Z5).Calls.getD a2.toNat Z4).Operation.tmod 3).toNat []), (a3.getD a2.toNat 0), (a4.getD a2.toNat 0), ((a0.Trees.getD a1.toNat Z5).Calls.getD a2.toNat Z4).Fail, [], []⟩ : Zd)).cells))]⟩) ⟨rfl, rfl, rfl, rfl, rfl, trivial⟩ ⟨rfl, rfl, rfl, trivial⟩ (J17 (⟨v4, (IntKind.i64.wrap (a2 + 1)), (IntKind.i64.wrap (((IntKind.i64.wrap ((a0.Trees.getD a1.toNat Z5).Calls.getD a2.toNat Z4).Parent).tmod (IntKind.i64.wrap (a2 + 1))) + 1)), 0, (IntKind.i64.wrap (1 + (IntKind.i64.wrap (((a0.Trees.getD a1.toNat Z5).Calls.getD a2.toNat Z4).Clock.tmod 4)))), v6, (([[97, 112, 105], [100, 98], [119, 101, 98], [99, 97, 99, 104, 101]]).getD (((a0.Trees.getD a1.toNat Z5).Calls.getD a2.toNat Z4).Service.tmod 4).toNat []), (([[118, 49], [118, 50], []]).getD (((a0.Trees.getD a1.toNat Z5).Calls.getD a2.toNat Z4).Version.tmod 3).toNat []), (([[103, 101, 116], [112, 117, 116], [108, 105, 115, 116]]).getD (((a0.Trees.getD a1.toNat Z5).Calls.getD a2.toNat Z4).Operation.tmod 3).toNat []), (a3.getD a2.toNat 0), (a4.getD a2.toNat 0), ((a0.Trees.getD a1.toNat Z5).Calls.getD a2.toNat Z4).Fail, [], []⟩ : Zd) h)
  ·have h := hif.2 hc
   refine Zh <| Zc <| Z2 I (Zi (v := (.int .i64 a2)) I I) I <| Z2 I (Z1o (k := .i64) (a := a2) (b := 0) (c := (decide (a2 > 0))) I I I I) I <| Zf <| Zg ?_
   have hif := Z1u h
   refine Z16 I (fun hc => ?_) (fun hc => ?_)
   ·have h := hif.1 hc
    refine Zc <| Z2 I (Zq (m := 12) (o := 0) I f38_2 I I) I <| Z2 I (Z1m (cs := [(.int .i64 v4), (.int .i64 (IntKind.i64.wrap (a2 + 1))), (.int .i64 0), (.int .i64 0), (.int .i64 (IntKind.i64.wrap (1 + (IntKind.i64.wrap (((a0.Trees.getD a1.toNat Z5).Calls.getD a2.toNat Z4).Clock.tmod 4))))), (.int .i64 v6), (.str (([[97, 112, 105], [100, 98], [119, 101, 98], [99, 97, 99, 104, 101]]).getD (((a0.Trees.getD a1.toNat Z5).Calls.getD a2.toNat Z4).Service.tmod 4).toNat [])), (.str (([[118, 49], [118, 50], []]).getD (((a0.Trees.getD a1.toNat Z5).Calls.getD a2.toNat Z4).Version.tmod 3).toNat [])), (.str (([[103, 101, 116], [112, 117, 116], [108, 105, 115, 116]]).getD (((a0.Trees.getD a1.toNat Z5).Calls.getD a2.toNat Z4).Operation.tmod 3).toNat [])), (.int .i64 (a3.getD a2.toNat 0)), (.int .i64 (a4.getD a2.toNat 0)), (.bool ((a0.Trees.getD a1.toNat Z5).Calls.getD a2.toNat Z4).Fail), (.sl 4 [] false), (.sl 2 [] false)]) (vs := [(.int .i64 100)]) (ds := [(.int .i64 v4), (.int .i64 (IntKind.i64.wrap (a2 + 1))), (.int .i64 100), (.int .i64 0), (.int .i64 (IntKind.i64.wrap (1 + (IntKind.i64.wrap (((a0.Trees.getD a1.toNat Z5).Calls.getD a2.toNat Z4).Clock.tmod 4))))), (.int .i64 v6), (.str (([[97, 112, 105], [100, 98], [119, 101, 98], [99, 97, 99, 104, 101]]).getD (((a0.Trees.getD a1.toNat Z5).Calls.getD a2.toNat Z4).Service.tmod 4).toNat [])), (.str (([[118, 49], [118, 50], []]).getD (((a0.Trees.getD a1.toNat Z5).Calls.getD a2.toNat Z4).Version.tmod 3).toNat [])), (.str (([[103, 101, 116], [112, 117, 116], [108, 105, 115, 116]]).getD (((a0.Trees.getD a1.toNat Z5).Calls.getD a2.toNat Z4).Operation.tmod 3).toNat [])), (.int .i64 (a3.getD a2.toNat 0)), (.int .i64 (a4.getD a2.toNat 0)), (.bool ((a0.Trees.getD a1.toNat Z5).Calls.getD a2.toNat Z4).Fail), (.sl 4 [] false), (.sl 2 [] false)]) (v := (.int .i64 100)) sz3 I I I I I I I I) I <| Zf ?_
    exact Zw (st' := ⟨[(2, (.int .i64 a2)), (3, (.sl 1 (a3.map Z1k) false)), (10, (.ptr 10 0)), (11, (.ptr 11 0)), (12, (.ptr 12 0))], [(10, (.box [(.int .i64 0), (.int .i64 0), (.int .i64 0), (.int .i64 0), (.int .i64 0), (.int .i64 0), (.str []), (.str []), (.str []), (.int .i64 0), (.int .i64 0), (.bool false), (.sl 4 [] false), (.sl 2 [] false)])), (11, (.box (Zm ((a0.Trees.getD a1.toNat Z5).Calls.getD a2.toNat Z4)).cells)), (12, (.box (Z3 (⟨v4, (IntKind.i64.wrap (a2 + 1)), 100, 0, (IntKind.i64.wrap (1 + (IntKind.i64.wrap (((a0.Trees.getD a1.toNat Z5).Calls.getD a2.toNat Z4).Clock.tmod 4)))), v6, (([[97, 112, 105], [100, 98], [119, 101, 98], [99, 97, 99, 104, 101]]).getD (((a0.Trees.getD a1.toNat Z5).Calls.getD a2.toNat Z4).Service.tmod 4).toNat []), (([[118, 49], [118, 50], []]).getD (((a0.Trees.getD a1.toNat Z5).Calls.getD a2.toNat Z4).Version.tmod 3).toNat []), (([[103, 101, 116], [112, 117, 116], [108, 105, 115, 116]]).getD (((a0.Trees.getD a1.toNat Z5).Calls.getD a2.toNat Z4).Operation.tmod 3).toNat []), (a3.getD a2.toNat 0), (a4.getD a2.toNat 0), ((a0.Trees.getD a1.toNat Z5).Calls.getD a2.toNat Z4).Fail, [], []⟩ : Zd)).cells))]⟩) ⟨rfl, rfl, rfl, rfl, rfl, trivial⟩ ⟨rfl, rfl, rfl, trivial⟩ (J17 (⟨v4, (IntKind.i64.wrap (a2 + 1)), 100, 0, (IntKind.i64.wrap (1 + (IntKind.i64.wrap (((a0.Trees.getD a1.toNat Z5).Calls.getD a2.toNat Z4).Clock.tmod 4)))), v6, (([[97, 112, 105], [100, 98], [119, 101, 98], [99, 97, 99, 104, 101]]).getD (((a0.Trees.getD a1.toNat Z5).Calls.getD a2.toNat Z4).Service.tmod 4).toNat []), (([[118, 49], [118, 50], []]).getD (((a0.Trees.getD a1.toNat Z5).Calls.getD a2.toNat Z4).Version.tmod 3).toNat []), (([[103, 101, 116], [112, 117, 116], [108, 105, 115, 116]]).getD (((a0.Trees.getD a1.toNat Z5).Calls.getD a2.toNat Z4).Operation.tmod 3).toNat []), (a3.getD a2.toNat 0), (a4.getD a2.toNat 0), ((a0.Trees.getD a1.toNat Z5).Calls.getD a2.toNat Z4).Fail, [], []⟩ : Zd) h)
   ·have h := hif.2 hc
    refine Z18 ?_
    exact Zw (st' := ⟨[(2, (.int .i64 a2)), (3, (.sl 1 (a3.map Z1k) false)), (10, (.ptr 10 0)), (11, (.ptr 11 0)), (12, (.ptr 12 0))], [(10, (.box [(.int .i64 0), (.int .i64 0), (.int .i64 0), (.int .i64 0), (.int .i64 0), (.int .i64 0), (.str []), (.str []), (.str []), (.int .i64 0), (.int .i64 0), (.bool false), (.sl 4 [] false), (.sl 2 [] false)])), (11, (.box (Zm ((a0.Trees.getD a1.toNat Z5).Calls.getD a2.toNat Z4)).cells)), (12, (.box (Z3 (⟨v4, (IntKind.i64.wrap (a2 + 1)), 0, 0, (IntKind.i64.wrap (1 + (IntKind.i64.wrap (((a0.Trees.getD a1.toNat Z5).Calls.getD a2.toNat Z4).Clock.tmod 4)))), v6, (([[97, 112, 105], [100, 98], [119, 101, 98], [99, 97, 99, 104, 101]]).getD (((a0.Trees.getD a1.toNat Z5).Calls.getD a2.toNat Z4).Service.tmod 4).toNat []), (([[118, 49], [118, 50], []]).getD (((a0.Trees.getD a1.toNat Z5).Calls.getD a2.toNat Z4).Version.tmod 3).toNat []), (([[103, 101, 116], [112, 117, 116], [108, 105, 115, 116]]).getD (((a0.Trees.getD a1.toNat Z5).Calls.getD a2.toNat Z4).Operation.tmod 3).toNat []), (a3.getD a2.toNat 0), (a4.getD a2.toNat 0), ((a0.Trees.getD a1.toNat Z5).Calls.getD a2.toNat Z4).Fail, [], []⟩ : Zd)).cells))]⟩) ⟨rfl, rfl, rfl, rfl, rfl, trivial⟩ ⟨rfl, rfl, rfl, trivial⟩ (J17 (⟨v4, (IntKind.i64.wrap (a2 + 1)), 0, 0, (IntKind.i64.wrap (1 + (IntKind.i64.wrap (((a0.Trees.getD a1.toNat Z5).Calls.getD a2.toNat Z4).Clock.tmod 4)))), v6, (([[97, 112, 105], [100, 98], [119, 101, 98], [99, 97, 99, 104, 101]]).getD (((a0.Trees.getD a1.toNat Z5).Calls.getD a2.toNat Z4).Service.tmod 4).toNat []), (([[118, 49], [118, 50], []]).getD (((a0.Trees.getD a1.toNat Z5).Calls.getD a2.toNat Z4).Version.tmod 3).toNat []), (([[103, 101, 116], [112, 117, 116], [108, 105, 115, 116]]).getD (((a0.Trees.getD a1.toNat Z5).Calls.getD a2.toNat Z4).Operation.tmod 3).toNat []), (a3.getD a2.toNat 0), (a4.getD a2.toNat 0), ((a0.Trees.getD a1.toNat Z5).Calls.getD a2.toNat Z4).Fail, [], []⟩ : Zd) h)
def F26 (K : Nat) (a0 : Zp) (a1 : Int) : Option (Int) :=
 if (0 : Int) ≤ ((IntKind.u64.wrap ((IntKind.u64.wrap a1) + 3)).tmod 4) ∧ ((IntKind.u64.wrap ((IntKind.u64.wrap a1) + 3)).tmod 4) < (4 : Nat) then
  some ((IntKind.i64.wrap (([a0.Offsets.e0, a0.Offsets.e1, a0.Offsets.e2, a0.Offsets.e3] : List Int).getD ((IntKind.u64.wrap ((IntKind.u64.wrap a1) + 3)).tmod 4).toNat 0)).tmod 21)
 else none
theorem F26_ok (K : Nat) (a0 : Zp) (a1 : Int) (r : Int) (h : F26 K a0 a1 = some r) : ACall P 26 ⟨[(Z9 a0), (.int .i64 a1)], [], (.int .i64 r), [], []⟩ := by
 refine Z1t Try.func26 Try.results26 rfl Try.ntmps26 rfl rfl rfl ?_
 intro E Q hP hN hro hret
 obtain ⟨P', nt', w0, F0, p0, S0, β0, ro0⟩ := E
 simp only at hP hN
 subst hP hN
 dsimp only [argT]
 unfold F26 at h
 refine Zh <| Zc <| Z2 I (st_box (v := (Z9 a0)) (cs := (Z9 a0).cells) I I I I I) I <| Z2 I (Zj (v := (.int .i64 0)) I I) I <| Zf <| Zg <| Zh <| Zc ?_
 refine Z2 I (Zi (v := (.int .i64 a1)) I I) I <| Z2 I (st_conv I us3 u109 I) I <| Z2 I (Z1h (k := .u64) (a := (IntKind.u64.wrap a1)) (b := 3) (c := (IntKind.u64.wrap ((IntKind.u64.wrap a1) + 3))) I I I I) I <| Z2 I (st_div (k := .u64) (a := (IntKind.u64.wrap ((IntKind.u64.wrap a1) + 3))) (b := 4) (c := ((IntKind.u64.wrap ((IntKind.u64.wrap a1) + 3)).tmod 4)) I I I I (by decide)) I <| Z2 I (Zq (m := 2) (o := 0) I f46_1 I I) I <| AOps.ghost (st' := ⟨[(0, (Z9 a0)), (1, (.int .i64 a1)), (2, (.ip (Z9 a0).cells)), (4, (.int .i64 0)), (5, (.int .i64 a1)), (6, (.int .u64 (IntKind.u64.wrap a1))), (7, (.int .u64 (IntKind.u64.wrap ((IntKind.u64.wrap a1) + 3)))), (8, (.int .u64 ((IntKind.u64.wrap ((IntKind.u64.wrap a1) + 3)).tmod 4))), (9, (.ip [(.int .i8 a0.Offsets.e0), (.int .i8 a0.Offsets.e1), (.int .i8 a0.Offsets.e2), (.int .i8 a0.Offsets.e3), (.sl 5 (a0.Syncs.map Z1l) false), (.int .u8 a0.Wrong)]))], []⟩) (fun a w h => (Z1a ⟨[(0, (Z9 a0)), (1, (.int .i64 a1)), (2, (.ip (Z9 a0).cells)), (4, (.int .i64 0)), (5, (.int .i64 a1)), (6, (.int .u64 (IntKind.u64.wrap a1))), (7, (.int .u64 (IntKind.u64.wrap ((IntKind.u64.wrap a1) + 3)))), (8, (.int .u64 ((IntKind.u64.wrap ((IntKind.u64.wrap a1) + 3)).tmod 4))), (9, (.ip [(.int .i8 a0.Offsets.e0), (.int .i8 a0.Offsets.e1), (.int .i8 a0.Offsets.e2), (.int .i8 a0.Offsets.e3), (.sl 5 (a0.Syncs.map Z1l) false), (.int .u8 a0.Wrong)]))], []⟩ (ghost_freezeB (m := 2) (cs := (Z9 a0).cells) I a w (Z1a ⟨[(0, (Z9 a0)), (1, (.int .i64 a1)), (2, (.ptr 2 0)), (4, (.int .i64 0)), (5, (.int .i64 a1)), (6, (.int .u64 (IntKind.u64.wrap a1))), (7, (.int .u64 (IntKind.u64.wrap ((IntKind.u64.wrap a1) + 3)))), (8, (.int .u64 ((IntKind.u64.wrap ((IntKind.u64.wrap a1) + 3)).tmod 4))), (9, (.ptr 2 1))], [(2, (.box (Z9 a0).cells))]⟩ h ⟨rfl, rfl, rfl, rfl, rfl, rfl, rfl, rfl, rfl, trivial⟩ ⟨rfl, trivial⟩)) ⟨rfl, rfl, rfl, rfl, rfl, rfl, rfl, rfl, rfl, trivial⟩ trivial)) ?_
 have ⟨hg1, h⟩ := Z10 h
 refine Z2 I (st_indexIL (k := .u64) (j := ((IntKind.u64.wrap ((IntKind.u64.wrap a1) + 3)).tmod 4)) (l := [a0.Offsets.e0, a0.Offsets.e1, a0.Offsets.e2, a0.Offsets.e3]) (enc := e_i8) (z := 0) (cs := [(.int .i8 a0.Offsets.e0), (.int .i8 a0.Offsets.e1), (.int .i8 a0.Offsets.e2), (.int .i8 a0.Offsets.e3), (.sl 5 (a0.Syncs.map Z1l) false), (.int .u8 a0.Wrong)]) (ds := [(.int .i8 (([a0.Offsets.e0, a0.Offsets.e1, a0.Offsets.e2, a0.Offsets.e3] : List Int).getD ((IntKind.u64.wrap ((IntKind.u64.wrap a1) + 3)).tmod 4).toNat 0))]) I u43 sz42 I I I I els_i8 hg1 I) I <| Z2 I (st_loadI (cs := [(.int .i8 (([a0.Offsets.e0, a0.Offsets.e1, a0.Offsets.e2, a0.Offsets.e3] : List Int).getD ((IntKind.u64.wrap ((IntKind.u64.wrap a1) + 3)).tmod 4).toNat 0))]) (v := (.int .i8 (([a0.Offsets.e0, a0.Offsets.e1, a0.Offsets.e2, a0.Offsets.e3] : List Int).getD ((IntKind.u64.wrap ((IntKind.u64.wrap a1) + 3)).tmod 4).toNat 0))) I o42 I I) I <| Z2 I (st_conv I us42 u3 I) I <| Z2 I (st_div (k := .i64) (a := (IntKind.i64.wrap (([a0.Offsets.e0, a0.Offsets.e1, a0.Offsets.e2, a0.Offsets.e3] : List Int).getD ((IntKind.u64.wrap ((IntKind.u64.wrap a1) + 3)).tmod 4).toNat 0))) (b := 21) (c := ((IntKind.i64.wrap (([a0.Offsets.e0, a0.Offsets.e1, a0.Offsets.e2, a0.Offsets.e3] : List Int).getD ((IntKind.u64.wrap ((IntKind.u64.wrap a1) + 3)).tmod 4).toNat 0)).tmod 21)) I I I I (by decide)) I <| Z2 I (Zj (v := (.int .i64 ((IntKind.i64.wrap (([a0.Offsets.e0, a0.Offsets.e1, a0.Offsets.e2, a0.Offsets.e3] : List Int).getD ((IntKind.u64.wrap ((IntKind.u64.wrap a1) + 3)).tmod 4).toNat 0)).tmod 21))) I I) I <| Zf <| Zg <| Z1e ?_
 have h := Option.some.inj h
 subst h
 refine (hret _ ?_).1
 exact ⟨[(.int .i64 ((IntKind.i64.wrap (([a0.Offsets.e0, a0.Offsets.e1, a0.Offsets.e2, a0.Offsets.e3] : List Int).getD ((IntKind.u64.wrap ((IntKind.u64.wrap a1) + 3)).tmod 4).toNat 0)).tmod 21))], ⟨rfl, trivial⟩, rfl, trivial⟩
def F81_c8 (K : Nat) (v7 : (List Zd)) : Option ((List Zd)) :=
 some v7
def F81_j15 (K : Nat) (v5 : (List Zd)) (b10 : Int → (List Zd) → Option ((List Zd))) (v4 : Int) (v14 : Zd) : Option ((List Zd)) :=
 if v5.length + [v14].length ≤ 1073741824 then
  b10 (IntKind.i64.wrap (v4 + 1)) (v5 ++ [v14])
 else none
def F81_j22 (K : Nat) (v5 : (List Zd)) (b10 : Int → (List Zd) → Option ((List Zd))) (v4 : Int) (v13 : Zd) (v21 : Int) : Option ((List Zd)) :=
 F81_j15 K v5 b10 v4 (⟨v13.Trace, v13.Id, v13.Parent, v13.Revision, v13.Clock, v13.Kind, v13.Service, v13.Version, v13.Operation, (IntKind.i64.wrap (v13.Start + v21)), (IntKind.i64.wrap (v13.End + v21)), v13.Error, v13.Attrs, v13.Links⟩ : Zd)
def F81_j20 (K : Nat) (v5 : (List Zd)) (b10 : Int → (List Zd) → Option ((List Zd))) (v4 : Int) (v13 : Zd) (v18 : Int) (v19 : Bool) : Option ((List Zd)) :=
 if v19 = true then
  F81_j22 K v5 b10 v4 v13 (IntKind.i64.wrap (v18 + 500))
 else
  F81_j22 K v5 b10 v4 v13 v18
def F81_l6 (K : Nat) (a1 : Int) (a0 : Zp) (v3 : (List Int) × (List Int)) (a2 : Bool) (c9 : (List Zd) → Option ((List Zd))) : Nat → Int → (List Zd) → Option ((List Zd))
 | 0, _, _ => none
 | k6 + 1, v4, v5 =>
  if (0 : Int) ≤ a1 ∧ a1 < a0.Trees.length then
   if (decide (v4 < ((a0.Trees.getD a1.toNat Z5).Calls.length : Int))) = true then
    (F101 K a0 a1 v4 v3.1 v3.2).bind fun v13 =>
     if (!a2) = true then
      (F26 K a0 v13.Clock).bind fun v18 =>
       if (decide (a0.Wrong > 0)) = true then
        if (((IntKind.i64.wrap a0.Wrong).tmod 8) == v4) = true then
         F81_j20 K v5 (F81_l6 K a1 a0 v3 a2 c9 k6) v4 v13 v18 (((IntKind.i64.wrap ((IntKind.i64.wrap a0.Wrong).tdiv 8)).tmod 3) == a1)
        else
         F81_j20 K v5 (F81_l6 K a1 a0 v3 a2 c9 k6) v4 v13 v18 false
       else
        F81_j20 K v5 (F81_l6 K a1 a0 v3 a2 c9 k6) v4 v13 v18 false
     else
      F81_j15 K v5 (F81_l6 K a1 a0 v3 a2 c9 k6) v4 v13
   else
    c9 v5
  else none
def F81 (K : Nat) (a0 : Zp) (a1 : Int) (a2 : Bool) : Option ((List Zd)) :=
 if (0 : Int) ≤ a1 ∧ a1 < a0.Trees.length then
  (F100 K (a0.Trees.getD a1.toNat Z5)).bind fun v3 =>
   F81_l6 K a1 a0 v3 a2 (F81_c8 K) K 0 []
 else none
theorem F81_ok (K : Nat) (a0 : Zp) (a1 : Int) (a2 : Bool) (r : (List Zd)) (h : F81 K a0 a1 a2 = some r) : ACall P 81 ⟨[(Z9 a0), (.int .i64 a1), (.bool a2)], [], (.sl 14 (r.map Z3) false), [], []⟩ := by
 refine Z1t Try.func81 Try.results81 rfl Try.ntmps81 rfl rfl rfl ?_
 intro E Q hP hN hro hret
 obtain ⟨P', nt', w0, F0, p0, S0, β0, ro0⟩ := E
 simp only at hP hN
 subst hP hN
 dsimp only [argT]
 unfold F81 at h
 refine Zh <| Zc <| Z2 I (st_box (v := (Z9 a0)) (cs := (Z9 a0).cells) I I I I I) I <| Z2 I (Zj (v := (.sl 14 [] false)) I I) I <| Zf <| Zg <| Zh <| Zc ?_
 refine Z2 I (Zj (v := (.sl 14 [] true)) I I) I <| Zf <| Zg <| Zh <| Zc <| Z2 I (Zq (m := 3) (o := 0) I f46_0 I I) I <| Z2 I (Z11 (cs := (Z9 a0).cells) (v := (.sl 3 (a0.Trees.map Zs) false)) I o41 I I I) I <| Z2 I (Zi (v := (.int .i64 a1)) I I) I ?_
 have ⟨hg1, h⟩ := Z10 h
 refine Z2 I (Z1r (k := .i64) (l := a0.Trees) (enc := Zs) (z := Z5) (n := a1) (cs := (Zs (a0.Trees.getD a1.toNat Z5)).cells) (full := false) I s41 I I hg1 I) I <| Z2 I (st_loadIA (cs := (Zs (a0.Trees.getD a1.toNat Z5)).cells) (vs := (Zs (a0.Trees.getD a1.toNat Z5)).cells) I a102 I I I) I ?_
 have ⟨v3, hv3, h⟩ := Z19 h
 refine Z2 I (Z17 (ar := [(Zs (a0.Trees.getD a1.toNat Z5))]) (caps := []) Try.call100 (F100_ok K (a0.Trees.getD a1.toNat Z5) v3 hv3) I I ⟨rfl, trivial⟩ I) I <| Z2 I (Zi (v := (.tup [(.sl 1 (v3.1.map Z1k) false), (.sl 1 (v3.2.map Z1k) false)])) I I) I <| Z2 I (st_extract (vs := [(.sl 1 (v3.1.map Z1k) false), (.sl 1 (v3.2.map Z1k) false)]) (v := (.sl 1 (v3.1.map Z1k) false)) I I I) I <| Z2 I (st_extract (vs := [(.sl 1 (v3.1.map Z1k) false), (.sl 1 (v3.2.map Z1k) false)]) (v := (.sl 1 (v3.2.map Z1k) false)) I I I) I <| Z2 I (Zj (v := (.sl 1 (v3.1.map Z1k) false)) I I) I <| Z2 I (Zj (v := (.sl 1 (v3.2.map Z1k) false)) I I) I <| Zf <| Zg ?_
 refine Zh <| Zh <| Zc <| Z2 I (Zj (v := (.int .i64 0)) I I) I <| Zf <| Zg <| AWp.ghost (st' := ⟨[(1, (.int .i64 a1)), (2, (.bool a2)), (3, (.ptr 3 0)), (7, (.vs 7)), (8, (.sl 1 (v3.1.map Z1k) false)), (9, (.sl 1 (v3.2.map Z1k) false)), (10, (.int .i64 0))], [(3, (.box (Z9 a0).cells)), (7, (.vec 14 (List.map Z3 ([] : List Zd))))]⟩) (fun a w h => (Z1a ⟨[(1, (.int .i64 a1)), (2, (.bool a2)), (3, (.ptr 3 0)), (7, (.vs 7)), (8, (.sl 1 (v3.1.map Z1k) false)), (9, (.sl 1 (v3.2.map Z1k) false)), (10, (.int .i64 0))], [(3, (.box (Z9 a0).cells)), (7, (.vec 14 (List.map Z3 ([] : List Zd))))]⟩ (ghost_own (k := 7) (m := 7) (sz := 14) I I a w (Z1a ⟨[(7, (.sl 14 [] true)), (1, (.int .i64 a1)), (2, (.bool a2)), (3, (.ptr 3 0)), (8, (.sl 1 (v3.1.map Z1k) false)), (9, (.sl 1 (v3.2.map Z1k) false)), (10, (.int .i64 0))], [(3, (.box (Z9 a0).cells))]⟩ h ⟨rfl, rfl, rfl, rfl, rfl, rfl, rfl, trivial⟩ ⟨rfl, trivial⟩)) ⟨rfl, rfl, rfl, rfl, rfl, rfl, rfl, trivial⟩ ⟨rfl, rfl, trivial⟩)) <| Z1x (st' := ⟨[(1, (.int .i64 a1)), (2, (.bool a2)), (3, (.ptr 3 0)), (7, (.vs 7)), (8, (.sl 1 (v3.1.map Z1k) false)), (9, (.sl 1 (v3.2.map Z1k) false)), (10, (.int .i64 0))], [(3, (.box (Z9 a0).cells)), (7, (.vec 14 (List.map Z3 [])))]⟩) ⟨rfl, rfl, rfl, rfl, rfl, rfl, rfl, trivial⟩ ⟨rfl, rfl, trivial⟩ ?_
 refine Z1j (V := Int × (List Zd)) (X := (List Zd)) (lp := fun k v => F81_l6 K a1 a0 v3 a2 (F81_c8 K) k v.1 v.2 = some r) (sh := fun v => ⟨[(1, (.int .i64 a1)), (2, (.bool a2)), (3, (.ptr 3 0)), (7, (.vs 7)), (8, (.sl 1 (v3.1.map Z1k) false)), (9, (.sl 1 (v3.2.map Z1k) false)), (10, (.int .i64 v.1))], [(3, (.box (Z9 a0).cells)), (7, (.vec 14 (List.map Z3 v.2)))]⟩) (x := fun v => F81_c8 K v = some r) (shx := fun v => ⟨[(7, (.vs 7))], [(7, (.vec 14 (List.map Z3 v)))]⟩) (k := K) (v := (0, [])) h ?_ ?_
 ·intro v h
  revert h
  revert v
  intro v7 h
  try dsimp only at h ⊢
  unfold F81_c8 at h
  refine Zg <| Zh <| Zc <| Z2 I (Zi (v := (.vs 7)) I I) I <| Z2 I (Zj (v := (.vs 7)) I I) I <| Zf <| Zg <| Z1e ?_
  refine At.ghost (st' := ⟨[(6, (.sl 14 (v7.map Z3) false))], []⟩) (fun a w h => (Z1a ⟨[(6, (.sl 14 (v7.map Z3) false))], []⟩ (ghost_freeze (m := 7) (sz := 14) (es := (List.map Z3 v7)) a w (Z1a ⟨[(6, (.vs 7))], [(7, (.vec 14 (List.map Z3 v7)))]⟩ h ⟨rfl, trivial⟩ ⟨rfl, trivial⟩)) ⟨rfl, trivial⟩ trivial)) ?_
  have h := Option.some.inj h
  subst h
  refine (hret _ ?_).1
  exact ⟨[(.sl 14 (v7.map Z3) false)], ⟨rfl, trivial⟩, rfl, trivial⟩
 ·intro N k6 v h IH6 J6
  obtain ⟨v4, v5⟩ := v
  try dsimp only at h IH6 J6 ⊢
  cases k6 with
  | zero => cases h
  | succ k6 =>
   rw [F81_l6] at h
   refine Zh <| Zh <| Zc <| Z2 I (Zi (v := (.int .i64 v4)) I I) I <| Z2 I (Zq (m := 3) (o := 0) I f46_0 I I) I <| Z2 I (Z11 (cs := (Z9 a0).cells) (v := (.sl 3 (a0.Trees.map Zs) false)) I o41 I I I) I <| Z2 I (Zi (v := (.int .i64 a1)) I I) I ?_
   have ⟨hg11, h⟩ := Z10 h
   refine Z2 I (Z1r (k := .i64) (l := a0.Trees) (enc := Zs) (z := Z5) (n := a1) (cs := (Zs (a0.Trees.getD a1.toNat Z5)).cells) (full := false) I s41 I I hg11 I) I <| Z2 I (st_fieldI (cs := (Zs (a0.Trees.getD a1.toNat Z5)).cells) (ds := [(.sl 11 ((a0.Trees.getD a1.toNat Z5).Calls.map Zm) false)]) I f102_2 I I I) I <| Z2 I (st_loadI (cs := [(.sl 11 ((a0.Trees.getD a1.toNat Z5).Calls.map Zm) false)]) (v := (.sl 11 ((a0.Trees.getD a1.toNat Z5).Calls.map Zm) false)) I o100 I I) I <| Z2 I (stx_len (l := (a0.Trees.getD a1.toNat Z5).Calls) (enc := Zm) I s100 I) I <| Z2 I (Z1o (k := .i64) (a := v4) (b := ((a0.Trees.getD a1.toNat Z5).Calls.length : Int)) (c := (decide (v4 < ((a0.Trees.getD a1.toNat Z5).Calls.length : Int)))) I I I I) I <| Zf <| Zg ?_
   have hif := Z1u h
   refine Z16 I (fun hc => ?_) (fun hc => ?_)
   ·have h := hif.1 hc
    refine Z18 <| Zg <| Zh <| AWp.block <| Zh <| Zc <| Z2 I (Z1b (cs := (Z9 a0).cells) (vs := (Z9 a0).cells) I a46 I I I I) I <| Z2 I (Zi (v := (.int .i64 a1)) I I) I ?_
    refine Z2 I (Zi (v := (.int .i64 v4)) I I) I <| Z2 I (Zi (v := (.sl 1 (v3.1.map Z1k) false)) I I) I <| Z2 I (Zi (v := (.sl 1 (v3.2.map Z1k) false)) I I) I ?_
    have ⟨v13, hv13, h⟩ := Z19 h
    refine Z2 I (Z17 (ar := [(Z9 a0), (.int .i64 a1), (.int .i64 v4), (.sl 1 (v3.1.map Z1k) false), (.sl 1 (v3.2.map Z1k) false)]) (caps := []) Try.call101 (F101_ok K a0 a1 v4 v3.1 v3.2 v13 hv13) I I ⟨rfl, rfl, rfl, rfl, rfl, trivial⟩ I) I <| Z2 I (st_alloc (cs := [(.int .i64 0), (.int .i64 0), (.int .i64 0), (.int .i64 0), (.int .i64 0), (.int .i64 0), (.str []), (.str []), (.str []), (.int .i64 0), (.int .i64 0), (.bool false), (.sl 4 [] false), (.sl 2 [] false)]) I z38 I I I) I <| Z2 I (Z1m (cs := [(.int .i64 0), (.int .i64 0), (.int .i64 0), (.int .i64 0), (.int .i64 0), (.int .i64 0), (.str []), (.str []), (.str []), (.int .i64 0), (.int .i64 0), (.bool false), (.sl 4 [] false), (.sl 2 [] false)]) (vs := (Z3 v13).cells) (ds := (Z3 v13).cells) (v := (Z3 v13)) sz38 I I I I I I I I) I <| Zf <| Zg <| Zh <| Zh <| Zc ?_
    refine Z2 I (Zi (v := (.bool a2)) I I) I <| Z2 I (st_not (b := a2) I I) I <| Zf <| Zg ?_
    refine AWp.join (V := Zd) (lp := fun v => F81_j15 K v5 (F81_l6 K a1 a0 v3 a2 (F81_c8 K) k6) v4 v = some r) (sh := fun v => ⟨[(1, (.int .i64 a1)), (2, (.bool a2)), (3, (.ptr 3 0)), (7, (.vs 7)), (8, (.sl 1 (v3.1.map Z1k) false)), (9, (.sl 1 (v3.2.map Z1k) false)), (10, (.int .i64 v4)), (11, (.ptr 11 0))], [(3, (.box (Z9 a0).cells)), (7, (.vec 14 (List.map Z3 v5))), (11, (.box (Z3 v).cells))]⟩) ?_ ?_
    ·intro v h
     revert h
     revert v
     intro v14 h
     try dsimp only at h ⊢
     unfold F81_j15 at h
     refine Zg <| Zc <| Z2 I (Zi (v := (.vs 7)) I I) I <| Z2 I (Z1b (cs := (Z3 v14).cells) (vs := (Z3 v14).cells) I a38 I I I I) I <| Z2 I (Z1f (vs := [(Z3 v14)]) (enc := Z3) (l := [v14]) I el33 I I ⟨rfl, trivial⟩ I els_Tapi_Span I I I I) I ?_
     have ⟨hg16, h⟩ := Z10 h
     refine Z2 I (st_append (m := 7) (enc := Z3) (l := v5) (l' := [v14]) (src := (.vs 79)) (rd := [(79, (.vec 14 (List.map Z3 [v14])))]) I I el33 I u33 I I I I (oneRead I) els_Tapi_Span hg16) I <| Z2 I (Zj (v := (.vs 7)) I I) I <| Zf <| At.end <| Zg <| Zc <| Z2 I (Zi (v := (.int .i64 v4)) I I) I <| Z2 I (Z1h (k := .i64) (a := v4) (b := 1) (c := (IntKind.i64.wrap (v4 + 1))) I I I I) I ?_
     refine Z2 I (Zj (v := (.int .i64 (IntKind.i64.wrap (v4 + 1)))) I I) I <| Zf ?_
     exact Zw (st' := ⟨[(1, (.int .i64 a1)), (2, (.bool a2)), (3, (.ptr 3 0)), (7, (.vs 7)), (8, (.sl 1 (v3.1.map Z1k) false)), (9, (.sl 1 (v3.2.map Z1k) false)), (10, (.int .i64 (IntKind.i64.wrap (v4 + 1))))], [(3, (.box (Z9 a0).cells)), (7, (.vec 14 (List.map Z3 (v5 ++ [v14]))))]⟩) ⟨rfl, rfl, rfl, rfl, rfl, rfl, rfl, trivial⟩ ⟨rfl, rfl, trivial⟩ (IH6 _ ((IntKind.i64.wrap (v4 + 1)), (v5 ++ [v14])) (Nat.lt_succ_self _) h)
    ·intro J15
     have hif := Z1u h
     refine Z16 I (fun hc => ?_) (fun hc => ?_)
     ·have h := hif.1 hc
      refine Zh <| Zc <| Z2 I (Z1b (cs := (Z9 a0).cells) (vs := (Z9 a0).cells) I a46 I I I I) I <| Z2 I (Zq (m := 11) (o := 0) I f38_4 I I) I <| Z2 I (Z11 (cs := (Z3 v13).cells) (v := (.int .i64 v13.Clock)) I o3 I I I) I ?_
      have ⟨v18, hv18, h⟩ := Z19 h
      refine Z2 I (Z17 (ar := [(Z9 a0), (.int .i64 v13.Clock)]) (caps := []) Try.call26 (F26_ok K a0 v13.Clock v18 hv18) I I ⟨rfl, rfl, trivial⟩ I) I <| Z2 I (Zj (v := (.int .i64 v18)) I I) I <| Zf <| Zg <| Zh <| Zh ?_
      refine AWp.join (V := Bool) (lp := fun v => F81_j20 K v5 (F81_l6 K a1 a0 v3 a2 (F81_c8 K) k6) v4 v13 v18 v = some r) (sh := fun v => ⟨[(1, (.int .i64 a1)), (2, (.bool a2)), (3, (.ptr 3 0)), (7, (.vs 7)), (8, (.sl 1 (v3.1.map Z1k) false)), (9, (.sl 1 (v3.2.map Z1k) false)), (10, (.int .i64 v4)), (11, (.ptr 11 0)), (12, (.int .i64 v18)), (64, (.bool v))], [(3, (.box (Z9 a0).cells)), (7, (.vec 14 (List.map Z3 v5))), (11, (.box (Z3 v13).cells))]⟩) ?_ ?_
      ·intro v h
       revert h
       revert v
       intro v19 h
       try dsimp only at h ⊢
       unfold F81_j20 at h
       refine Zg ?_
       refine AWp.join (V := Int) (lp := fun v => F81_j22 K v5 (F81_l6 K a1 a0 v3 a2 (F81_c8 K) k6) v4 v13 v = some r) (sh := fun v => ⟨[(1, (.int .i64 a1)), (2, (.bool a2)), (3, (.ptr 3 0)), (7, (.vs 7)), (8, (.sl 1 (v3.1.map Z1k) false)), (9, (.sl 1 (v3.2.map Z1k) false)), (10, (.int .i64 v4)), (11, (.ptr 11 0)), (12, (.int .i64 v))], [(3, (.box (Z9 a0).cells)), (7, (.vec 14 (List.map Z3 v5))), (11, (.box (Z3 v13).cells))]⟩) ?_ ?_
       ·intro v h
        revert h
        revert v
        intro v21 h
        try dsimp only at h ⊢
        unfold F81_j22 at h
        refine Zg <| Zc <| Z2 I (Zq (m := 11) (o := 0) I f38_9 I I) I <| Z2 I (Z11 (cs := (Z3 v13).cells) (v := (.int .i64 v13.Start)) I o3 I I I) I <| Z2 I (Zi (v := (.int .i64 v21)) I I) I <| Z2 I (Z1h (k := .i64) (a := v13.Start) (b := v21) (c := (IntKind.i64.wrap (v13.Start + v21))) I I I I) I <| Z2 I (Zq (m := 11) (o := 0) I f38_10 I I) I <| Z2 I (Z11 (cs := (Z3 v13).cells) (v := (.int .i64 v13.End)) I o3 I I I) I ?_
        refine Z2 I (Zi (v := (.int .i64 v21)) I I) I <| Z2 I (Z1h (k := .i64) (a := v13.End) (b := v21) (c := (IntKind.i64.wrap (v13.End + v21))) I I I I) I <| Z2 I (Zq (m := 11) (o := 0) I f38_9 I I) I <| Z2 I (Z1m (cs := (Z3 v13).cells) (vs := [(.int .i64 (IntKind.i64.wrap (v13.Start + v21)))]) (ds := [(.int .i64 v13.Trace), (.int .i64 v13.Id), (.int .i64 v13.Parent), (.int .i64 v13.Revision), (.int .i64 v13.Clock), (.int .i64 v13.Kind), (.str v13.Service), (.str v13.Version), (.str v13.Operation), (.int .i64 (IntKind.i64.wrap (v13.Start + v21))), (.int .i64 v13.End), (.bool v13.Error), (.sl 4 (v13.Attrs.map Zv) false), (.sl 2 (v13.Links.map Zk) false)]) (v := (.int .i64 (IntKind.i64.wrap (v13.Start + v21)))) sz3 I I I I I I I I) I <| Z2 I (Zq (m := 11) (o := 0) I f38_10 I I) I <| Z2 I (Z1m (cs := [(.int .i64 v13.Trace), (.int .i64 v13.Id), (.int .i64 v13.Parent), (.int .i64 v13.Revision), (.int .i64 v13.Clock), (.int .i64 v13.Kind), (.str v13.Service), (.str v13.Version), (.str v13.Operation), (.int .i64 (IntKind.i64.wrap (v13.Start + v21))), (.int .i64 v13.End), (.bool v13.Error), (.sl 4 (v13.Attrs.map Zv) false), (.sl 2 (v13.Links.map Zk) false)]) (vs := [(.int .i64 (IntKind.i64.wrap (v13.End + v21)))]) (ds := [(.int .i64 v13.Trace), (.int .i64 v13.Id), (.int .i64 v13.Parent), (.int .i64 v13.Revision), (.int .i64 v13.Clock), (.int .i64 v13.Kind), (.str v13.Service), (.str v13.Version), (.str v13.Operation), (.int .i64 (IntKind.i64.wrap (v13.Start + v21))), (.int .i64 (IntKind.i64.wrap (v13.End + v21))), (.bool v13.Error), (.sl 4 (v13.Attrs.map Zv) false), (.sl 2 (v13.Links.map Zk) false)]) (v := (.int .i64 (IntKind.i64.wrap (v13.End + v21)))) sz3 I I I I I I I I) I <| Zf ?_
        exact Zw (st' := ⟨[(1, (.int .i64 a1)), (2, (.bool a2)), (3, (.ptr 3 0)), (7, (.vs 7)), (8, (.sl 1 (v3.1.map Z1k) false)), (9, (.sl 1 (v3.2.map Z1k) false)), (10, (.int .i64 v4)), (11, (.ptr 11 0))], [(3, (.box (Z9 a0).cells)), (7, (.vec 14 (List.map Z3 v5))), (11, (.box (Z3 (⟨v13.Trace, v13.Id, v13.Parent, v13.Revision, v13.Clock, v13.Kind, v13.Service, v13.Version, v13.Operation, (IntKind.i64.wrap (v13.Start + v21)), (IntKind.i64.wrap (v13.End + v21)), v13.Error, v13.Attrs, v13.Links⟩ : Zd)).cells))]⟩) ⟨rfl, rfl, rfl, rfl, rfl, rfl, rfl, rfl, trivial⟩ ⟨rfl, rfl, rfl, trivial⟩ (J15 (⟨v13.Trace, v13.Id, v13.Parent, v13.Revision, v13.Clock, v13.Kind, v13.Service, v13.Version, v13.Operation, (IntKind.i64.wrap (v13.Start + v21)), (IntKind.i64.wrap (v13.End + v21)), v13.Error, v13.Attrs, v13.Links⟩ : Zd) h)
       ·intro J22
        have hif := Z1u h
        refine Z16 I (fun hc => ?_) (fun hc => ?_)
        ·have h := hif.1 hc
         refine Zc <| Z2 I (Zi (v := (.int .i64 v18)) I I) I <| Z2 I (Z1h (k := .i64) (a := v18) (b := 500) (c := (IntKind.i64.wrap (v18 + 500))) I I I I) I <| Z2 I (Zj (v := (.int .i64 (IntKind.i64.wrap (v18 + 500)))) I I) I <| Zf ?_
         exact Zw (st' := ⟨[(1, (.int .i64 a1)), (2, (.bool a2)), (3, (.ptr 3 0)), (7, (.vs 7)), (8, (.sl 1 (v3.1.map Z1k) false)), (9, (.sl 1 (v3.2.map Z1k) false)), (10, (.int .i64 v4)), (11, (.ptr 11 0)), (12, (.int .i64 (IntKind.i64.wrap (v18 + 500))))], [(3, (.box (Z9 a0).cells)), (7, (.vec 14 (List.map Z3 v5))), (11, (.box (Z3 v13).cells))]⟩) ⟨rfl, rfl, rfl, rfl, rfl, rfl, rfl, rfl, rfl, trivial⟩ ⟨rfl, rfl, rfl, trivial⟩ (J22 (IntKind.i64.wrap (v18 + 500)) h)
        ·have h := hif.2 hc
         refine Z18 ?_
         exact Zw (st' := ⟨[(1, (.int .i64 a1)), (2, (.bool a2)), (3, (.ptr 3 0)), (7, (.vs 7)), (8, (.sl 1 (v3.1.map Z1k) false)), (9, (.sl 1 (v3.2.map Z1k) false)), (10, (.int .i64 v4)), (11, (.ptr 11 0)), (12, (.int .i64 v18))], [(3, (.box (Z9 a0).cells)), (7, (.vec 14 (List.map Z3 v5))), (11, (.box (Z3 v13).cells))]⟩) ⟨rfl, rfl, rfl, rfl, rfl, rfl, rfl, rfl, rfl, trivial⟩ ⟨rfl, rfl, rfl, trivial⟩ (J22 v18 h)
      ·intro J20
       refine Zc <| Z2 I (Zq (m := 3) (o := 0) I f46_3 I I) I <| Z2 I (Z11 (cs := (Z9 a0).cells) (v := (.int .u8 a0.Wrong)) I o5 I I I) I <| Z2 I (Z1o (k := .u8) (a := a0.Wrong) (b := 0) (c := (decide (a0.Wrong > 0))) I I I I) I <| Z2 I (Zi (v := (.bool (decide (a0.Wrong > 0)))) I I) I ?_
       have hif := Z1u h
       refine AOps.split (fun hc => ?_) (fun hc => ?_)
       ·have h := hif.1 hc
        refine Zz I I I I (Zq (m := 3) (o := 0) I f46_3 I I) I <| Zz I I I I (Z11 (cs := (Z9 a0).cells) (v := (.int .u8 a0.Wrong)) I o5 I I I) I <| Zz I I I I (st_conv I us5 u3 I) I <| Zz I I I I (st_div (k := .i64) (a := (IntKind.i64.wrap a0.Wrong)) (b := 8) (c := ((IntKind.i64.wrap a0.Wrong).tmod 8)) I I I I (by decide)) I <| Zz I I I I (Zi (v := (.int .i64 v4)) I I) I <| Zz I I I I (Z1o (k := .i64) (a := ((IntKind.i64.wrap a0.Wrong).tmod 8)) (b := v4) (c := (((IntKind.i64.wrap a0.Wrong).tmod 8) == v4)) I I I I) I <| Z2 I (st_pickT (v := (.bool (((IntKind.i64.wrap a0.Wrong).tmod 8) == v4))) I I I) I <| Z2 I (Zi (v := (.bool (((IntKind.i64.wrap a0.Wrong).tmod 8) == v4))) I I) I ?_
        have hif := Z1u h
        refine AOps.split (fun hc => ?_) (fun hc => ?_)
        ·have h := hif.1 hc
         refine Zz I I I I (Zq (m := 3) (o := 0) I f46_3 I I) I <| Zz I I I I (Z11 (cs := (Z9 a0).cells) (v := (.int .u8 a0.Wrong)) I o5 I I I) I <| Zz I I I I (st_conv I us5 u3 I) I <| Zz I I I I (st_div (k := .i64) (a := (IntKind.i64.wrap a0.Wrong)) (b := 8) (c := (IntKind.i64.wrap ((IntKind.i64.wrap a0.Wrong).tdiv 8))) I I I I (by decide)) I <| Zz I I I I (st_div (k := .i64) (a := (IntKind.i64.wrap ((IntKind.i64.wrap a0.Wrong).tdiv 8))) (b := 3) (c := ((IntKind.i64.wrap ((IntKind.i64.wrap a0.Wrong).tdiv 8)).tmod 3)) I I I I (by decide)) I <| Zz I I I I (Zi (v := (.int .i64 a1)) I I) I <| Zz I I I I (Z1o (k := .i64) (a := ((IntKind.i64.wrap ((IntKind.i64.wrap a0.Wrong).tdiv 8)).tmod 3)) (b := a1) (c := (((IntKind.i64.wrap ((IntKind.i64.wrap a0.Wrong).tdiv 8)).tmod 3) == a1)) I I I I) I <| Z2 I (st_pickT (v := (.bool (((IntKind.i64.wrap ((IntKind.i64.wrap a0.Wrong).tdiv 8)).tmod 3) == a1))) I I I) I ?_
         refine Zf ?_
         exact Zw (st' := ⟨[(1, (.int .i64 a1)), (2, (.bool a2)), (3, (.ptr 3 0)), (7, (.vs 7)), (8, (.sl 1 (v3.1.map Z1k) false)), (9, (.sl 1 (v3.2.map Z1k) false)), (10, (.int .i64 v4)), (11, (.ptr 11 0)), (12, (.int .i64 v18)), (64, (.bool (((IntKind.i64.wrap ((IntKind.i64.wrap a0.Wrong).tdiv 8)).tmod 3) == a1)))], [(3, (.box (Z9 a0).cells)), (7, (.vec 14 (List.map Z3 v5))), (11, (.box (Z3 v13).cells))]⟩) ⟨rfl, rfl, rfl, rfl, rfl, rfl, rfl, rfl, rfl, rfl, trivial⟩ ⟨rfl, rfl, rfl, trivial⟩ (J20 (((IntKind.i64.wrap ((IntKind.i64.wrap a0.Wrong).tdiv 8)).tmod 3) == a1) h)
        ·have h := hif.2 hc
         refine Zo I I I I I I I <| Zo I I I I I I I <| Zo I I I I I I I <| Zo I I I I I I I <| Zo I I I I I I I <| Zo I I I I I I I <| Zo I I I I I I I <| Z2 I (Z1p (v := (.bool false)) I I I) I ?_
         refine Zf ?_
         exact Zw (st' := ⟨[(1, (.int .i64 a1)), (2, (.bool a2)), (3, (.ptr 3 0)), (7, (.vs 7)), (8, (.sl 1 (v3.1.map Z1k) false)), (9, (.sl 1 (v3.2.map Z1k) false)), (10, (.int .i64 v4)), (11, (.ptr 11 0)), (12, (.int .i64 v18)), (64, (.bool false))], [(3, (.box (Z9 a0).cells)), (7, (.vec 14 (List.map Z3 v5))), (11, (.box (Z3 v13).cells))]⟩) ⟨rfl, rfl, rfl, rfl, rfl, rfl, rfl, rfl, rfl, rfl, trivial⟩ ⟨rfl, rfl, rfl, trivial⟩ (J20 false h)
       ·have h := hif.2 hc
        refine Zo I I I I I I I <| Zo I I I I I I I <| Zo I I I I I I I <| Zo I I I I I I I <| Zo I I I I I I I <| Zo I I I I I I I <| Z2 I (Z1p (v := (.bool false)) I I I) I <| Z2 I (Zi (v := (.bool false)) I I) I ?_
        refine Zo I I I I I I I <| Zo I I I I I I I <| Zo I I I I I I I <| Zo I I I I I I I <| Zo I I I I I I I <| Zo I I I I I I I <| Zo I I I I I I I <| Z2 I (Z1p (v := (.bool false)) I I I) I ?_
        refine Zf ?_
        exact Zw (st' := ⟨[(1, (.int .i64 a1)), (2, (.bool a2)), (3, (.ptr 3 0)), (7, (.vs 7)), (8, (.sl 1 (v3.1.map Z1k) false)), (9, (.sl 1 (v3.2.map Z1k) false)), (10, (.int .i64 v4)), (11, (.ptr 11 0)), (12, (.int .i64 v18)), (64, (.bool false))], [(3, (.box (Z9 a0).cells)), (7, (.vec 14 (List.map Z3 v5))), (11, (.box (Z3 v13).cells))]⟩) ⟨rfl, rfl, rfl, rfl, rfl, rfl, rfl, rfl, rfl, rfl, trivial⟩ ⟨rfl, rfl, rfl, trivial⟩ (J20 false h)
     ·have h := hif.2 hc
      refine Z18 ?_
      exact Zw (st' := ⟨[(1, (.int .i64 a1)), (2, (.bool a2)), (3, (.ptr 3 0)), (7, (.vs 7)), (8, (.sl 1 (v3.1.map Z1k) false)), (9, (.sl 1 (v3.2.map Z1k) false)), (10, (.int .i64 v4)), (11, (.ptr 11 0))], [(3, (.box (Z9 a0).cells)), (7, (.vec 14 (List.map Z3 v5))), (11, (.box (Z3 v13).cells))]⟩) ⟨rfl, rfl, rfl, rfl, rfl, rfl, rfl, rfl, trivial⟩ ⟨rfl, rfl, rfl, trivial⟩ (J15 v13 h)
   ·have h := hif.2 hc
    refine AWp.exit <| At.thru ?_
    exact Zw (st' := ⟨[(7, (.vs 7))], [(7, (.vec 14 (List.map Z3 v5)))]⟩) ⟨rfl, trivial⟩ ⟨rfl, trivial⟩ (J6 v5 h)
def F59_c5 (K : Nat) (v4 : (List Z1d)) : Option ((List Z1d)) :=
 some v4
def F59_j9 (K : Nat) (b7 : Int → (List Z1d) → Option ((List Z1d))) (v1 : Int) (v8 : (List Z1d)) : Option ((List Z1d)) :=
 b7 (IntKind.i64.wrap (v1 + 1)) v8
def F59_c18 (K : Nat) (v2 : (List Z1d)) (v12 : Int) (v14 : (List Zd)) (b7 : Int → (List Z1d) → Option ((List Z1d))) (v1 : Int) (v17 : Int) : Option ((List Z1d)) :=
 if (0 : Int) ≤ 0 ∧ 0 ≤ v17 ∧ v17 ≤ (v2.length : Nat) then
  if (0 + (0 : Int).toNat) + (v17.toNat - (0 : Int).toNat) ≤ v2.length then
   if (0 + (0 : Int).toNat) + (v17.toNat - (0 : Int).toNat) ≤ v2.length then
    if ([] : List Z1d).length + ((v2.drop (0 + (0 : Int).toNat)).take (v17.toNat - (0 : Int).toNat)).length ≤ 1073741824 then
     if ([] ++ ((v2.drop (0 + (0 : Int).toNat)).take (v17.toNat - (0 : Int).toNat))).length + [(⟨v12, 1, v14⟩ : Z1d)].length ≤ 1073741824 then
      if (0 : Int) ≤ v17 ∧ v17 ≤ (v2.length : Int) ∧ (v2.length : Int) ≤ (v2.length : Nat) then
       if (0 + v17.toNat) + ((v2.length : Int).toNat - v17.toNat) ≤ v2.length then
        if (0 + v17.toNat) + ((v2.length : Int).toNat - v17.toNat) ≤ v2.length then
         if (([] ++ ((v2.drop (0 + (0 : Int).toNat)).take (v17.toNat - (0 : Int).toNat))) ++ [(⟨v12, 1, v14⟩ : Z1d)]).length + ((v2.drop (0 + v17.toNat)).take ((v2.length : Int).toNat - v17.toNat)).length ≤ 1073741824 then
          F59_j9 K b7 v1 ((([] ++ ((v2.drop (0 + (0 : Int).toNat)).take (v17.toNat - (0 : Int).toNat))) ++ [(⟨v12, 1, v14⟩ : Z1d)]) ++ ((v2.drop (0 + v17.toNat)).take ((v2.length : Int).toNat - v17.toNat)))
         else none
        else none
       else none
      else none
     else none
    else none
   else none
  else none
 else none
def F59_l16 (K : Nat) (v2 : (List Z1d)) (v12 : Int) (c19 : Int → Option ((List Z1d))) : Nat → Int → Option ((List Z1d))
 | 0, _ => none
 | k16 + 1, v15 =>
  if (decide (v15 > 0)) = true then
   if (0 : Int) ≤ (IntKind.i64.wrap (v15 - 1)) ∧ (IntKind.i64.wrap (v15 - 1)) < (v2.length : Nat) then
    if (IntKind.i64.wrap (v15 - 1)).toNat < v2.length then
     if (decide ((v2.getD (IntKind.i64.wrap (v15 - 1)).toNat z_Tapi_Trace).Id > v12)) = true then
      (F59_l16 K v2 v12 c19 k16) (IntKind.i64.wrap (v15 - 1))
     else
      c19 v15
    else none
   else none
  else
   c19 v15
def F59_l3 (K : Nat) (a0 : Zp) (c6 : (List Z1d) → Option ((List Z1d))) : Nat → Int → (List Z1d) → Option ((List Z1d))
 | 0, _, _ => none
 | k3 + 1, v1, v2 =>
  if (decide (v1 < (a0.Trees.length : Int))) = true then
   if (0 : Int) ≤ v1 ∧ v1 < a0.Trees.length then
    if (((a0.Trees.getD v1.toNat Z5).Calls.length : Int) == 0) = true then
     F59_j9 K (F59_l3 K a0 c6 k3) v1 v2
    else
     (F62 K a0 v1).bind fun v12 =>
      (F81 K a0 v1 false).bind fun v14 =>
       F59_l16 K v2 v12 (F59_c18 K v2 v12 v14 (F59_l3 K a0 c6 k3) v1) K (v2.length : Int)
   else none
  else
   c6 v2
def F59 (K : Nat) (a0 : Zp) : Option ((List Z1d)) :=
 F59_l3 K a0 (F59_c5 K) K 0 []
theorem F59_ok (K : Nat) (a0 : Zp) (r : (List Z1d)) (h : F59 K a0 = some r) : ACall P 59 ⟨[(Z9 a0)], [], (.sl 3 (r.map Z1c) false), [], []⟩ := by
 refine Z1t Try.func59 Try.results59 rfl Try.ntmps59 rfl rfl rfl ?_
 intro E Q hP hN hro hret
 obtain ⟨P', nt', w0, F0, p0, S0, β0, ro0⟩ := E
 simp only at hP hN
 subst hP hN
 dsimp only [argT]
 unfold F59 at h
 refine Zh <| Zc <| Z2 I (st_box (v := (Z9 a0)) (cs := (Z9 a0).cells) I I I I I) I <| Z2 I (Zj (v := (.sl 3 [] false)) I I) I <| Zf <| Zg <| Zh <| Zc ?_
 refine Z2 I (Zj (v := (.sl 3 [] true)) I I) I <| Zf <| Zg <| Zh <| Zh <| Zc <| Z2 I (Zj (v := (.int .i64 0)) I I) I <| Zf ?_
 refine Zg <| AWp.ghost (st' := ⟨[(1, (.ptr 1 0)), (3, (.vs 3)), (4, (.int .i64 0))], [(1, (.box (Z9 a0).cells)), (3, (.vec 3 (List.map Z1c ([] : List Z1d))))]⟩) (fun a w h => (Z1a ⟨[(1, (.ptr 1 0)), (3, (.vs 3)), (4, (.int .i64 0))], [(1, (.box (Z9 a0).cells)), (3, (.vec 3 (List.map Z1c ([] : List Z1d))))]⟩ (ghost_own (k := 3) (m := 3) (sz := 3) I I a w (Z1a ⟨[(3, (.sl 3 [] true)), (1, (.ptr 1 0)), (4, (.int .i64 0))], [(1, (.box (Z9 a0).cells))]⟩ h ⟨rfl, rfl, rfl, trivial⟩ ⟨rfl, trivial⟩)) ⟨rfl, rfl, rfl, trivial⟩ ⟨rfl, rfl, trivial⟩)) <| Z1x (st' := ⟨[(1, (.ptr 1 0)), (3, (.vs 3)), (4, (.int .i64 0))], [(1, (.box (Z9 a0).cells)), (3, (.vec 3 (List.map Z1c [])))]⟩) ⟨rfl, rfl, rfl, trivial⟩ ⟨rfl, rfl, trivial⟩ ?_
 refine Z1j (V := Int × (List Z1d)) (X := (List Z1d)) (lp := fun k v => F59_l3 K a0 (F59_c5 K) k v.1 v.2 = some r) (sh := fun v => ⟨[(1, (.ptr 1 0)), (3, (.vs 3)), (4, (.int .i64 v.1))], [(1, (.box (Z9 a0).cells)), (3, (.vec 3 (List.map Z1c v.2)))]⟩) (x := fun v => F59_c5 K v = some r) (shx := fun v => ⟨[(3, (.vs 3))], [(3, (.vec 3 (List.map Z1c v)))]⟩) (k := K) (v := (0, [])) h ?_ ?_
 ·intro v h
  revert h
  revert v
  intro v4 h
  try dsimp only at h ⊢
  unfold F59_c5 at h
  refine Zg <| Zh <| Zc <| Z2 I (Zi (v := (.vs 3)) I I) I <| Z2 I (Zj (v := (.vs 3)) I I) I <| Zf <| Zg <| Z1e ?_
  refine At.ghost (st' := ⟨[(2, (.sl 3 (v4.map Z1c) false))], []⟩) (fun a w h => (Z1a ⟨[(2, (.sl 3 (v4.map Z1c) false))], []⟩ (ghost_freeze (m := 3) (sz := 3) (es := (List.map Z1c v4)) a w (Z1a ⟨[(2, (.vs 3))], [(3, (.vec 3 (List.map Z1c v4)))]⟩ h ⟨rfl, trivial⟩ ⟨rfl, trivial⟩)) ⟨rfl, trivial⟩ trivial)) ?_
  have h := Option.some.inj h
  subst h
  refine (hret _ ?_).1
  exact ⟨[(.sl 3 (v4.map Z1c) false)], ⟨rfl, trivial⟩, rfl, trivial⟩
 ·intro N k3 v h IH3 J3
  obtain ⟨v1, v2⟩ := v
  try dsimp only at h IH3 J3 ⊢
  cases k3 with
  | zero => cases h
  | succ k3 =>
   rw [F59_l3] at h
   refine Zh <| Zh <| Zc <| Z2 I (Zi (v := (.int .i64 v1)) I I) I <| Z2 I (Zq (m := 1) (o := 0) I f46_0 I I) I <| Z2 I (Z11 (cs := (Z9 a0).cells) (v := (.sl 3 (a0.Trees.map Zs) false)) I o41 I I I) I <| Z2 I (stx_len (l := a0.Trees) (enc := Zs) I s41 I) I <| Z2 I (Z1o (k := .i64) (a := v1) (b := (a0.Trees.length : Int)) (c := (decide (v1 < (a0.Trees.length : Int)))) I I I I) I ?_
   refine Zf <| Zg ?_
   have hif := Z1u h
   refine Z16 I (fun hc => ?_) (fun hc => ?_)
   ·have h := hif.1 hc
    refine Z18 <| Zg <| Zh ?_
    refine AWp.blockJoin (V := (List Z1d)) (lp := fun v => F59_j9 K (F59_l3 K a0 (F59_c5 K) k3) v1 v = some r) (sh := fun v => ⟨[(1, (.ptr 1 0)), (3, (.vs 3)), (4, (.int .i64 v1))], [(1, (.box (Z9 a0).cells)), (3, (.vec 3 (List.map Z1c v)))]⟩) ?_ ?_
    ·intro v h
     revert h
     revert v
     intro v8 h
     try dsimp only at h ⊢
     unfold F59_j9 at h
     refine Zg <| Zc <| Z2 I (Zi (v := (.int .i64 v1)) I I) I <| Z2 I (Z1h (k := .i64) (a := v1) (b := 1) (c := (IntKind.i64.wrap (v1 + 1))) I I I I) I <| Z2 I (Zj (v := (.int .i64 (IntKind.i64.wrap (v1 + 1)))) I I) I <| Zf ?_
     exact Zw (st' := ⟨[(1, (.ptr 1 0)), (3, (.vs 3)), (4, (.int .i64 (IntKind.i64.wrap (v1 + 1))))], [(1, (.box (Z9 a0).cells)), (3, (.vec 3 (List.map Z1c v8)))]⟩) ⟨rfl, rfl, rfl, trivial⟩ ⟨rfl, rfl, trivial⟩ (IH3 _ ((IntKind.i64.wrap (v1 + 1)), v8) (Nat.lt_succ_self _) h)
    ·intro J9
     refine Zh <| Zh <| Zc <| Z2 I (Zq (m := 1) (o := 0) I f46_0 I I) I <| Z2 I (Z11 (cs := (Z9 a0).cells) (v := (.sl 3 (a0.Trees.map Zs) false)) I o41 I I I) I <| Z2 I (Zi (v := (.int .i64 v1)) I I) I ?_
     have ⟨hg10, h⟩ := Z10 h
     refine Z2 I (Z1r (k := .i64) (l := a0.Trees) (enc := Zs) (z := Z5) (n := v1) (cs := (Zs (a0.Trees.getD v1.toNat Z5)).cells) (full := false) I s41 I I hg10 I) I <| Z2 I (st_fieldI (cs := (Zs (a0.Trees.getD v1.toNat Z5)).cells) (ds := [(.sl 11 ((a0.Trees.getD v1.toNat Z5).Calls.map Zm) false)]) I f102_2 I I I) I <| Z2 I (st_loadI (cs := [(.sl 11 ((a0.Trees.getD v1.toNat Z5).Calls.map Zm) false)]) (v := (.sl 11 ((a0.Trees.getD v1.toNat Z5).Calls.map Zm) false)) I o100 I I) I <| Z2 I (stx_len (l := (a0.Trees.getD v1.toNat Z5).Calls) (enc := Zm) I s100 I) I <| Z2 I (Z1o (k := .i64) (a := ((a0.Trees.getD v1.toNat Z5).Calls.length : Int)) (b := 0) (c := (((a0.Trees.getD v1.toNat Z5).Calls.length : Int) == 0)) I I I I) I <| Zf <| Zg ?_
     have hif := Z1u h
     refine Z16 I (fun hc => ?_) (fun hc => ?_)
     ·have h := hif.1 hc
      refine AWp.exit <| At.thru <| At.out ?_
      exact Zw (st' := ⟨[(1, (.ptr 1 0)), (3, (.vs 3)), (4, (.int .i64 v1))], [(1, (.box (Z9 a0).cells)), (3, (.vec 3 (List.map Z1c v2)))]⟩) ⟨rfl, rfl, rfl, trivial⟩ ⟨rfl, rfl, trivial⟩ (J9 v2 h)
     ·have h := hif.2 hc
      refine Z18 <| Zg <| Zh <| Z1s mixed <| Z7 0 I (Z1b (cs := (Z9 a0).cells) (vs := (Z9 a0).cells) I a46 I I I I) <| Z7 1 I (Zi (v := (.int .i64 v1)) I I) ?_
      have ⟨v12, hv12, h⟩ := Z19 h
      refine Z7 2 I (Z17 (ar := [(Z9 a0), (.int .i64 v1)]) (caps := []) Try.call62 (F62_ok K a0 v1 v12 hv12) I I ⟨rfl, rfl, trivial⟩ I) <| Z7 3 I (Z1b (cs := (Z9 a0).cells) (vs := (Z9 a0).cells) I a46 I I I I) <| Z7 4 I (Zi (v := (.int .i64 v1)) I I) ?_
      have ⟨v14, hv14, h⟩ := Z19 h
      refine Z7 5 I (Z17 (ar := [(Z9 a0), (.int .i64 v1), (.bool false)]) (caps := []) Try.call81 (F81_ok K a0 v1 false v14 hv14) I I ⟨rfl, rfl, rfl, trivial⟩ I) <| Z7 6 I (stx_build (vs := [(0, (.int .i64 v12)), (1, (.int .i64 1)), (2, (.sl 14 (v14.map Z3) false))]) (cs := [(.int .i64 v12), (.int .i64 1), (.sl 14 (v14.map Z3) false)]) I st106 ⟨rfl, rfl, rfl, rfl, rfl, rfl, trivial⟩ I) <| Z7 7 I (st_alloc (cs := [(.int .i64 0), (.int .i64 0), (.sl 14 [] false)]) I z106 I I I) <| Z7 8 I (Z1m (cs := [(.int .i64 0), (.int .i64 0), (.sl 14 [] false)]) (vs := [(.int .i64 v12), (.int .i64 1), (.sl 14 (v14.map Z3) false)]) (ds := [(.int .i64 v12), (.int .i64 1), (.sl 14 (v14.map Z3) false)]) (v := (.ag [(.int .i64 v12), (.int .i64 1), (.sl 14 (v14.map Z3) false)])) sz106 I I I I I I I I) <| Z1v (by kernel_rfl) I <| Zg <| Zh <| Zc ?_
      refine Z2 I (Zi (v := (.vs 3)) I I) I <| Z2 I (stx_lenV (l := v2) (enc := Z1c) I u103 I I) I <| Z2 I (Zj (v := (.int .i64 (v2.length : Int))) I I) I <| Zf <| Zg <| Zh <| Z1x (st' := ⟨[(1, (.ptr 1 0)), (3, (.vs 3)), (4, (.int .i64 v1)), (5, (.ptr 5 0)), (6, (.int .i64 (v2.length : Int)))], [(1, (.box (Z9 a0).cells)), (3, (.vec 3 (List.map Z1c v2))), (5, (.box [(.int .i64 v12), (.int .i64 1), (.sl 14 (v14.map Z3) false)]))]⟩) ⟨rfl, rfl, rfl, rfl, rfl, trivial⟩ ⟨rfl, rfl, rfl, trivial⟩ ?_
      refine Z1j (V := Int) (X := Int) (lp := fun k v => F59_l16 K v2 v12 (F59_c18 K v2 v12 v14 (F59_l3 K a0 (F59_c5 K) k3) v1) k v = some r) (sh := fun v => ⟨[(1, (.ptr 1 0)), (3, (.vs 3)), (4, (.int .i64 v1)), (5, (.ptr 5 0)), (6, (.int .i64 v))], [(1, (.box (Z9 a0).cells)), (3, (.vec 3 (List.map Z1c v2))), (5, (.box [(.int .i64 v12), (.int .i64 1), (.sl 14 (v14.map Z3) false)]))]⟩) (x := fun v => F59_c18 K v2 v12 v14 (F59_l3 K a0 (F59_c5 K) k3) v1 v = some r) (shx := fun v => ⟨[(1, (.ptr 1 0)), (3, (.vs 3)), (4, (.int .i64 v1)), (5, (.ptr 5 0)), (6, (.int .i64 v))], [(1, (.box (Z9 a0).cells)), (3, (.vec 3 (List.map Z1c v2))), (5, (.box [(.int .i64 v12), (.int .i64 1), (.sl 14 (v14.map Z3) false)]))]⟩) (k := K) (v := (v2.length : Int)) h ?_ ?_
      ·intro v h
       revert h
       revert v
       intro v17 h
       try dsimp only at h ⊢
       unfold F59_c18 at h
       refine Zg <| Z1s mixed <| Z7 0 I (Z1f (vs := []) (enc := Z1c) (l := ([] : List Z1d)) I el103 I I trivial I els_Tapi_Trace I I I I) <| Z7 1 I (Zi (v := (.vs 3)) I I) <| Z7 2 I (Zi (v := (.int .i64 v17)) I I) ?_
       have ⟨hg20, h⟩ := Z10 h
       have ⟨hg21, h⟩ := Z10 h
       refine Z7 3 I (stx_sliceVH (v := (.vs 3)) (n := 3) (off := 0) (len := v2.length) (l := v2) (enc := Z1c) (kh := .i64) (hi := v17) I s103 I I (vecR_map _ _ _) I hg20 I) ?_
       have ⟨hg22, h⟩ := Z10 h
       have ⟨hg23, h⟩ := Z10 h
       refine Z7 4 I (st_append (m := 46) (enc := Z1c) (l := ([] : List Z1d)) (l' := ((v2.drop (0 + (0 : Int).toNat)).take (v17.toNat - (0 : Int).toNat))) (src := (.vsub 3 (0 + (0 : Int).toNat) (v17.toNat - (0 : Int).toNat) false)) (rd := [(3, (.vec 3 (List.map Z1c v2)))]) I I el103 I u103 I I I (srcR_vsub hg22) (oneRead I) els_Tapi_Trace hg23) <| Z7 5 I (Z1b (cs := [(.int .i64 v12), (.int .i64 1), (.sl 14 (v14.map Z3) false)]) (vs := [(.int .i64 v12), (.int .i64 1), (.sl 14 (v14.map Z3) false)]) I a106 I I I I) <| Z7 6 I (Z1f (vs := [(.ag [(.int .i64 v12), (.int .i64 1), (.sl 14 (v14.map Z3) false)])]) (enc := Z1c) (l := [(⟨v12, 1, v14⟩ : Z1d)]) I el103 I I ⟨rfl, trivial⟩ I els_Tapi_Trace I I I I) ?_
       have ⟨hg24, h⟩ := Z10 h
       refine Z7 7 I (st_append (m := 46) (enc := Z1c) (l := ([] ++ ((v2.drop (0 + (0 : Int).toNat)).take (v17.toNat - (0 : Int).toNat)))) (l' := [(⟨v12, 1, v14⟩ : Z1d)]) (src := (.vs 52)) (rd := [(52, (.vec 3 (List.map Z1c [(⟨v12, 1, v14⟩ : Z1d)])))]) I I el103 I u103 I I I I (oneRead I) els_Tapi_Trace hg24) <| Z7 8 I (Zi (v := (.vs 3)) I I) <| Z7 9 I (Zi (v := (.int .i64 v17)) I I) ?_
       have ⟨hg25, h⟩ := Z10 h
       have ⟨hg26, h⟩ := Z10 h
       refine Z7 10 I (stx_sliceVL (v := (.vs 3)) (n := 3) (off := 0) (len := v2.length) (l := v2) (enc := Z1c) (kl := .i64) (lo := v17) I s103 I I (vecR_map _ _ _) I hg25 I) ?_
       have ⟨hg27, h⟩ := Z10 h
       have ⟨hg28, h⟩ := Z10 h
       refine Z7 11 I (st_append (m := 46) (enc := Z1c) (l := (([] ++ ((v2.drop (0 + (0 : Int).toNat)).take (v17.toNat - (0 : Int).toNat))) ++ [(⟨v12, 1, v14⟩ : Z1d)])) (l' := ((v2.drop (0 + v17.toNat)).take ((v2.length : Int).toNat - v17.toNat))) (src := (.vsub 3 (0 + v17.toNat) ((v2.length : Int).toNat - v17.toNat) false)) (rd := [(3, (.vec 3 (List.map Z1c v2)))]) I I el103 I u103 I I I (srcR_vsub hg27) (oneRead I) els_Tapi_Trace hg28) <| Z7 12 I (Zj (v := (.vs 46)) I I) <| Z1v (by kernel_rfl) I <| At.end <| At.ghost (st' := ⟨[(1, (.ptr 1 0)), (3, (.vs 3)), (4, (.int .i64 v1))], [(1, (.box (Z9 a0).cells)), (3, (.vec 3 (List.map Z1c ((([] ++ ((v2.drop (0 + (0 : Int).toNat)).take (v17.toNat - (0 : Int).toNat))) ++ [(⟨v12, 1, v14⟩ : Z1d)]) ++ ((v2.drop (0 + v17.toNat)).take ((v2.length : Int).toNat - v17.toNat))))))]⟩) (fun a w h => (Z1a ⟨[(1, (.ptr 1 0)), (3, (.vs 3)), (4, (.int .i64 v1))], [(1, (.box (Z9 a0).cells)), (3, (.vec 3 (List.map Z1c ((([] ++ ((v2.drop (0 + (0 : Int).toNat)).take (v17.toNat - (0 : Int).toNat))) ++ [(⟨v12, 1, v14⟩ : Z1d)]) ++ ((v2.drop (0 + v17.toNat)).take ((v2.length : Int).toNat - v17.toNat))))))]⟩ (ghost_sw (a := 46) (b := 3) I I a w (Z1a ⟨[(1, (.ptr 1 0)), (3, (.vs 46)), (4, (.int .i64 v1))], [(1, (.box (Z9 a0).cells)), (46, (.vec 3 (List.map Z1c ((([] ++ ((v2.drop (0 + (0 : Int).toNat)).take (v17.toNat - (0 : Int).toNat))) ++ [(⟨v12, 1, v14⟩ : Z1d)]) ++ ((v2.drop (0 + v17.toNat)).take ((v2.length : Int).toNat - v17.toNat))))))]⟩ h ⟨rfl, rfl, rfl, trivial⟩ ⟨rfl, rfl, trivial⟩)) ⟨rfl, rfl, rfl, trivial⟩ ⟨rfl, rfl, trivial⟩)) ?_
       exact Zw (st' := ⟨[(1, (.ptr 1 0)), (3, (.vs 3)), (4, (.int .i64 v1))], [(1, (.box (Z9 a0).cells)), (3, (.vec 3 (List.map Z1c ((([] ++ ((v2.drop (0 + (0 : Int).toNat)).take (v17.toNat - (0 : Int).toNat))) ++ [(⟨v12, 1, v14⟩ : Z1d)]) ++ ((v2.drop (0 + v17.toNat)).take ((v2.length : Int).toNat - v17.toNat))))))]⟩) ⟨rfl, rfl, rfl, trivial⟩ ⟨rfl, rfl, trivial⟩ (J9 ((([] ++ ((v2.drop (0 + (0 : Int).toNat)).take (v17.toNat - (0 : Int).toNat))) ++ [(⟨v12, 1, v14⟩ : Z1d)]) ++ ((v2.drop (0 + v17.toNat)).take ((v2.length : Int).toNat - v17.toNat))) h)
      ·intro N k16 v h IH16 J16
       revert h
       revert v
       intro v15 h
       try dsimp only at h IH16 J16 ⊢
       cases k16 with
       | zero => cases h
       | succ k16 =>
        rw [F59_l16] at h
        refine Zh <| Zh <| Z1s mixed <| Z7 0 I (Zi (v := (.int .i64 v15)) I I) <| Z7 1 I (Z1o (k := .i64) (a := v15) (b := 0) (c := (decide (v15 > 0))) I I I I) <| Z7 2 I (Zi (v := (.bool (decide (v15 > 0)))) I I) ?_
        have hif := Z1u h
        refine AOpsD.split (fun hc => ?_) (fun hc => ?_)
        ·have h := hif.1 hc
         refine Z12 3 I I I I (Zi (v := (.vs 3)) I I) <| Z12 4 I I I I (Zi (v := (.int .i64 v15)) I I) <| Z12 5 I I I I (Z1h (k := .i64) (a := v15) (b := 1) (c := (IntKind.i64.wrap (v15 - 1))) I I I I) ?_
         have ⟨hg30, h⟩ := Z10 h
         refine Z12 6 I I I I (st_indexV (k := .i64) (v := (.vs 3)) (n := 3) (off := 0) (len := v2.length) (es := (List.map Z1c v2)) (j := (IntKind.i64.wrap (v15 - 1))) (m := (IntKind.i64.wrap (v15 - 1)).toNat) I s103 I I (vecR_map _ _ _) I hg30 (Nat.zero_add _)) <| Z12 7 I I I I (st_fieldV I f106_0 I I) ?_
         have ⟨hg31, h⟩ := Z10 h
         refine Z12 8 I I I I (st_loadV (l := v2) (enc := Z1c) (z := z_Tapi_Trace) (v := (.int .i64 (v2.getD (IntKind.i64.wrap (v15 - 1)).toNat z_Tapi_Trace).Id)) I o3 I I hg31 I) <| Z12 9 I I I I (Zq (m := 5) (o := 0) I f106_0 I I) <| Z12 10 I I I I (Z11 (cs := [(.int .i64 v12), (.int .i64 1), (.sl 14 (v14.map Z3) false)]) (v := (.int .i64 v12)) I o3 I I I) <| Z12 11 I I I I (Z1o (k := .i64) (a := (v2.getD (IntKind.i64.wrap (v15 - 1)).toNat z_Tapi_Trace).Id) (b := v12) (c := (decide ((v2.getD (IntKind.i64.wrap (v15 - 1)).toNat z_Tapi_Trace).Id > v12))) I I I I) <| Z7 12 I (st_pickT (v := (.bool (decide ((v2.getD (IntKind.i64.wrap (v15 - 1)).toNat z_Tapi_Trace).Id > v12)))) I I I) <| Z1v (by kernel_rfl) I <| Zg ?_
         have hif := Z1u h
         refine Z16 I (fun hc => ?_) (fun hc => ?_)
         ·have h := hif.1 hc
          refine Z18 <| Zg <| AWp.block <| Zc <| Z2 I (Zi (v := (.int .i64 v15)) I I) I <| Z2 I (Z1h (k := .i64) (a := v15) (b := 1) (c := (IntKind.i64.wrap (v15 - 1))) I I I I) I <| Z2 I (Zj (v := (.int .i64 (IntKind.i64.wrap (v15 - 1)))) I I) I <| Zf ?_
          refine At.end ?_
          exact Zw (st' := ⟨[(1, (.ptr 1 0)), (3, (.vs 3)), (4, (.int .i64 v1)), (5, (.ptr 5 0)), (6, (.int .i64 (IntKind.i64.wrap (v15 - 1))))], [(1, (.box (Z9 a0).cells)), (3, (.vec 3 (List.map Z1c v2))), (5, (.box [(.int .i64 v12), (.int .i64 1), (.sl 14 (v14.map Z3) false)]))]⟩) ⟨rfl, rfl, rfl, rfl, rfl, trivial⟩ ⟨rfl, rfl, rfl, trivial⟩ (IH16 _ (IntKind.i64.wrap (v15 - 1)) (Nat.lt_succ_self _) h)
         ·have h := hif.2 hc
          refine AWp.exit <| At.thru ?_
          exact Zw (st' := ⟨[(1, (.ptr 1 0)), (3, (.vs 3)), (4, (.int .i64 v1)), (5, (.ptr 5 0)), (6, (.int .i64 v15))], [(1, (.box (Z9 a0).cells)), (3, (.vec 3 (List.map Z1c v2))), (5, (.box [(.int .i64 v12), (.int .i64 1), (.sl 14 (v14.map Z3) false)]))]⟩) ⟨rfl, rfl, rfl, rfl, rfl, trivial⟩ ⟨rfl, rfl, rfl, trivial⟩ (J16 v15 h)
        ·have h := hif.2 hc
         refine Zx 3 I I I I I I I <| Zx 4 I I I I I I I <| Zx 5 I I I I I I I <| Zx 6 I I I I I I I <| Zx 7 I I I I I I I <| Zx 8 I I I I I I I <| Zx 9 I I I I I I I <| Zx 10 I I I I I I I ?_
         refine Zx 11 I I I I I I I <| Z7 12 I (Z1p (v := (.bool false)) I I I) <| Z1v (by kernel_rfl) I <| Zg ?_
         refine Z16 (b := false) I (fun hc => ?_) (fun hc => ?_)
         ·cases hc
         refine AWp.exit <| At.thru ?_
         exact Zw (st' := ⟨[(1, (.ptr 1 0)), (3, (.vs 3)), (4, (.int .i64 v1)), (5, (.ptr 5 0)), (6, (.int .i64 v15))], [(1, (.box (Z9 a0).cells)), (3, (.vec 3 (List.map Z1c v2))), (5, (.box [(.int .i64 v12), (.int .i64 1), (.sl 14 (v14.map Z3) false)]))]⟩) ⟨rfl, rfl, rfl, rfl, rfl, trivial⟩ ⟨rfl, rfl, rfl, trivial⟩ (J16 v15 h)
   ·have h := hif.2 hc
    refine AWp.exit <| At.thru ?_
    exact Zw (st' := ⟨[(3, (.vs 3))], [(3, (.vec 3 (List.map Z1c v2)))]⟩) ⟨rfl, trivial⟩ ⟨rfl, trivial⟩ (J3 v2 h)
def F25_c5 (K : Nat) (v4 : (List Z14)) : Option ((List Z14)) :=
 some v4
def F25_l3 (K : Nat) (a0 : Zp) (c6 : (List Z14) → Option ((List Z14))) : Nat → Int → (List Z14) → Option ((List Z14))
 | 0, _, _ => none
 | k3 + 1, v1, v2 =>
  if (decide (v1 < (a0.Syncs.length : Int))) = true then
   if (0 : Int) ≤ v1 ∧ v1 < a0.Syncs.length then
    (F26 K a0 (IntKind.i64.wrap (1 + (IntKind.i64.wrap ((a0.Syncs.getD v1.toNat Za).From.tmod 4))))).bind fun v10 =>
     (F26 K a0 (IntKind.i64.wrap (1 + (IntKind.i64.wrap ((a0.Syncs.getD v1.toNat Za).To.tmod 4))))).bind fun v12 =>
      if v2.length + [(⟨(IntKind.i64.wrap (1 + (IntKind.i64.wrap ((a0.Syncs.getD v1.toNat Za).From.tmod 4)))), (IntKind.i64.wrap (1 + (IntKind.i64.wrap ((a0.Syncs.getD v1.toNat Za).To.tmod 4)))), (IntKind.i64.wrap ((IntKind.i64.wrap (1000 + (IntKind.i64.wrap ((a0.Syncs.getD v1.toNat Za).At.tmod 64)))) + v10)), (IntKind.i64.wrap ((IntKind.i64.wrap ((IntKind.i64.wrap (1000 + (IntKind.i64.wrap ((a0.Syncs.getD v1.toNat Za).At.tmod 64)))) + (IntKind.i64.wrap ((a0.Syncs.getD v1.toNat Za).Delay.tmod 16)))) + v12)), (if (IntKind.i64.wrap ((IntKind.i64.wrap ((a0.Syncs.getD v1.toNat Za).Delay.tmod 16)) - (IntKind.i64.wrap ((a0.Syncs.getD v1.toNat Za).Slack.tmod 4)))) > 0 then (IntKind.i64.wrap ((IntKind.i64.wrap ((a0.Syncs.getD v1.toNat Za).Delay.tmod 16)) - (IntKind.i64.wrap ((a0.Syncs.getD v1.toNat Za).Slack.tmod 4)))) else 0)⟩ : Z14)].length ≤ 1073741824 then
       (F25_l3 K a0 c6 k3) (IntKind.i64.wrap (v1 + 1)) (v2 ++ [(⟨(IntKind.i64.wrap (1 + (IntKind.i64.wrap ((a0.Syncs.getD v1.toNat Za).From.tmod 4)))), (IntKind.i64.wrap (1 + (IntKind.i64.wrap ((a0.Syncs.getD v1.toNat Za).To.tmod 4)))), (IntKind.i64.wrap ((IntKind.i64.wrap (1000 + (IntKind.i64.wrap ((a0.Syncs.getD v1.toNat Za).At.tmod 64)))) + v10)), (IntKind.i64.wrap ((IntKind.i64.wrap ((IntKind.i64.wrap (1000 + (IntKind.i64.wrap ((a0.Syncs.getD v1.toNat Za).At.tmod 64)))) + (IntKind.i64.wrap ((a0.Syncs.getD v1.toNat Za).Delay.tmod 16)))) + v12)), (if (IntKind.i64.wrap ((IntKind.i64.wrap ((a0.Syncs.getD v1.toNat Za).Delay.tmod 16)) - (IntKind.i64.wrap ((a0.Syncs.getD v1.toNat Za).Slack.tmod 4)))) > 0 then (IntKind.i64.wrap ((IntKind.i64.wrap ((a0.Syncs.getD v1.toNat Za).Delay.tmod 16)) - (IntKind.i64.wrap ((a0.Syncs.getD v1.toNat Za).Slack.tmod 4)))) else 0)⟩ : Z14)])
      else none
   else none
  else
   c6 v2
def F25 (K : Nat) (a0 : Zp) : Option ((List Z14)) :=
 F25_l3 K a0 (F25_c5 K) K 0 []
theorem F25_ok (K : Nat) (a0 : Zp) (r : (List Z14)) (h : F25 K a0 = some r) : ACall P 25 ⟨[(Z9 a0)], [], (.sl 5 (r.map Ze) false), [], []⟩ := by
 refine Z1t Try.func25 Try.results25 rfl Try.ntmps25 rfl rfl rfl ?_
 intro E Q hP hN hro hret
 obtain ⟨P', nt', w0, F0, p0, S0, β0, ro0⟩ := E
 simp only at hP hN
 subst hP hN
 dsimp only [argT]
 unfold F25 at h
 refine Zh <| Zc <| Z2 I (st_box (v := (Z9 a0)) (cs := (Z9 a0).cells) I I I I I) I <| Z2 I (Zj (v := (.sl 5 [] false)) I I) I <| Zf <| Zg <| Zh <| Zc ?_
 refine Z2 I (Zj (v := (.sl 5 [] true)) I I) I <| Zf <| Zg <| Zh <| Zh <| Zc <| Z2 I (Zj (v := (.int .i64 0)) I I) I <| Zf ?_
 refine Zg <| AWp.ghost (st' := ⟨[(1, (.ptr 1 0)), (3, (.vs 3)), (4, (.int .i64 0))], [(1, (.box (Z9 a0).cells)), (3, (.vec 5 (List.map Ze ([] : List Z14))))]⟩) (fun a w h => (Z1a ⟨[(1, (.ptr 1 0)), (3, (.vs 3)), (4, (.int .i64 0))], [(1, (.box (Z9 a0).cells)), (3, (.vec 5 (List.map Ze ([] : List Z14))))]⟩ (ghost_own (k := 3) (m := 3) (sz := 5) I I a w (Z1a ⟨[(3, (.sl 5 [] true)), (1, (.ptr 1 0)), (4, (.int .i64 0))], [(1, (.box (Z9 a0).cells))]⟩ h ⟨rfl, rfl, rfl, trivial⟩ ⟨rfl, trivial⟩)) ⟨rfl, rfl, rfl, trivial⟩ ⟨rfl, rfl, trivial⟩)) <| Z1x (st' := ⟨[(1, (.ptr 1 0)), (3, (.vs 3)), (4, (.int .i64 0))], [(1, (.box (Z9 a0).cells)), (3, (.vec 5 (List.map Ze [])))]⟩) ⟨rfl, rfl, rfl, trivial⟩ ⟨rfl, rfl, trivial⟩ ?_
 refine Z1j (V := Int × (List Z14)) (X := (List Z14)) (lp := fun k v => F25_l3 K a0 (F25_c5 K) k v.1 v.2 = some r) (sh := fun v => ⟨[(1, (.ptr 1 0)), (3, (.vs 3)), (4, (.int .i64 v.1))], [(1, (.box (Z9 a0).cells)), (3, (.vec 5 (List.map Ze v.2)))]⟩) (x := fun v => F25_c5 K v = some r) (shx := fun v => ⟨[(3, (.vs 3))], [(3, (.vec 5 (List.map Ze v)))]⟩) (k := K) (v := (0, [])) h ?_ ?_
 ·intro v h
  revert h
  revert v
  intro v4 h
  try dsimp only at h ⊢
  unfold F25_c5 at h
  refine Zg <| Zh <| Zc <| Z2 I (Zi (v := (.vs 3)) I I) I <| Z2 I (Zj (v := (.vs 3)) I I) I <| Zf <| Zg <| Z1e ?_
  refine At.ghost (st' := ⟨[(2, (.sl 5 (v4.map Ze) false))], []⟩) (fun a w h => (Z1a ⟨[(2, (.sl 5 (v4.map Ze) false))], []⟩ (ghost_freeze (m := 3) (sz := 5) (es := (List.map Ze v4)) a w (Z1a ⟨[(2, (.vs 3))], [(3, (.vec 5 (List.map Ze v4)))]⟩ h ⟨rfl, trivial⟩ ⟨rfl, trivial⟩)) ⟨rfl, trivial⟩ trivial)) ?_
  have h := Option.some.inj h
  subst h
  refine (hret _ ?_).1
  exact ⟨[(.sl 5 (v4.map Ze) false)], ⟨rfl, trivial⟩, rfl, trivial⟩
 ·intro N k3 v h IH3 J3
  obtain ⟨v1, v2⟩ := v
  try dsimp only at h IH3 J3 ⊢
  cases k3 with
  | zero => cases h
  | succ k3 =>
   rw [F25_l3] at h
   refine Zh <| Zh <| Zc <| Z2 I (Zi (v := (.int .i64 v1)) I I) I <| Z2 I (Zq (m := 1) (o := 0) I f46_2 I I) I <| Z2 I (Z11 (cs := (Z9 a0).cells) (v := (.sl 5 (a0.Syncs.map Z1l) false)) I o44 I I I) I <| Z2 I (stx_len (l := a0.Syncs) (enc := Z1l) I s44 I) I <| Z2 I (Z1o (k := .i64) (a := v1) (b := (a0.Syncs.length : Int)) (c := (decide (v1 < (a0.Syncs.length : Int)))) I I I I) I ?_
   refine Zf <| Zg ?_
   have hif := Z1u h
   refine Z16 I (fun hc => ?_) (fun hc => ?_)
   ·have h := hif.1 hc
    refine Z18 <| Zg <| Zh <| AWp.block <| Zh <| Zc <| Z2 I (Zq (m := 1) (o := 0) I f46_2 I I) I <| Z2 I (Z11 (cs := (Z9 a0).cells) (v := (.sl 5 (a0.Syncs.map Z1l) false)) I o44 I I I) I ?_
    refine Z2 I (Zi (v := (.int .i64 v1)) I I) I ?_
    have ⟨hg8, h⟩ := Z10 h
    refine Z2 I (Z1r (k := .i64) (l := a0.Syncs) (enc := Z1l) (z := Za) (n := v1) (cs := (Z1l (a0.Syncs.getD v1.toNat Za)).cells) (full := false) I s44 I I hg8 I) I <| Z2 I (st_loadIA (cs := (Z1l (a0.Syncs.getD v1.toNat Za)).cells) (vs := (Z1l (a0.Syncs.getD v1.toNat Za)).cells) I a108 I I I) I <| Z2 I (st_alloc (cs := [(.int .u8 0), (.int .u8 0), (.int .u8 0), (.int .u8 0), (.int .u8 0)]) I z108 I I I) I <| Z2 I (Z1m (cs := [(.int .u8 0), (.int .u8 0), (.int .u8 0), (.int .u8 0), (.int .u8 0)]) (vs := (Z1l (a0.Syncs.getD v1.toNat Za)).cells) (ds := (Z1l (a0.Syncs.getD v1.toNat Za)).cells) (v := (Z1l (a0.Syncs.getD v1.toNat Za))) sz108 I I I I I I I I) I <| Zf <| Zg <| Zh <| Zc ?_
    refine Z2 I (Zq (m := 5) (o := 0) I f108_0 I I) I <| Z2 I (Z11 (cs := (Z1l (a0.Syncs.getD v1.toNat Za)).cells) (v := (.int .u8 (a0.Syncs.getD v1.toNat Za).From)) I o5 I I I) I <| Z2 I (st_div (k := .u8) (a := (a0.Syncs.getD v1.toNat Za).From) (b := 4) (c := ((a0.Syncs.getD v1.toNat Za).From.tmod 4)) I I I I (by decide)) I <| Z2 I (st_conv I us5 u3 I) I <| Z2 I (Z1h (k := .i64) (a := 1) (b := (IntKind.i64.wrap ((a0.Syncs.getD v1.toNat Za).From.tmod 4))) (c := (IntKind.i64.wrap (1 + (IntKind.i64.wrap ((a0.Syncs.getD v1.toNat Za).From.tmod 4))))) I I I I) I <| Z2 I (Zq (m := 5) (o := 0) I f108_1 I I) I <| Z2 I (Z11 (cs := (Z1l (a0.Syncs.getD v1.toNat Za)).cells) (v := (.int .u8 (a0.Syncs.getD v1.toNat Za).To)) I o5 I I I) I <| Z2 I (st_div (k := .u8) (a := (a0.Syncs.getD v1.toNat Za).To) (b := 4) (c := ((a0.Syncs.getD v1.toNat Za).To.tmod 4)) I I I I (by decide)) I ?_
    refine Z2 I (st_conv I us5 u3 I) I <| Z2 I (Z1h (k := .i64) (a := 1) (b := (IntKind.i64.wrap ((a0.Syncs.getD v1.toNat Za).To.tmod 4))) (c := (IntKind.i64.wrap (1 + (IntKind.i64.wrap ((a0.Syncs.getD v1.toNat Za).To.tmod 4))))) I I I I) I <| Z2 I (stx_build (vs := [(0, (.int .i64 (IntKind.i64.wrap (1 + (IntKind.i64.wrap ((a0.Syncs.getD v1.toNat Za).From.tmod 4)))))), (1, (.int .i64 (IntKind.i64.wrap (1 + (IntKind.i64.wrap ((a0.Syncs.getD v1.toNat Za).To.tmod 4))))))]) (cs := [(.int .i64 (IntKind.i64.wrap (1 + (IntKind.i64.wrap ((a0.Syncs.getD v1.toNat Za).From.tmod 4))))), (.int .i64 (IntKind.i64.wrap (1 + (IntKind.i64.wrap ((a0.Syncs.getD v1.toNat Za).To.tmod 4))))), (.int .i64 0), (.int .i64 0), (.int .i64 0)]) I st99 ⟨rfl, rfl, rfl, rfl, trivial⟩ I) I <| Z2 I (st_alloc (cs := [(.int .i64 0), (.int .i64 0), (.int .i64 0), (.int .i64 0), (.int .i64 0)]) I z99 I I I) I <| Z2 I (Z1m (cs := [(.int .i64 0), (.int .i64 0), (.int .i64 0), (.int .i64 0), (.int .i64 0)]) (vs := [(.int .i64 (IntKind.i64.wrap (1 + (IntKind.i64.wrap ((a0.Syncs.getD v1.toNat Za).From.tmod 4))))), (.int .i64 (IntKind.i64.wrap (1 + (IntKind.i64.wrap ((a0.Syncs.getD v1.toNat Za).To.tmod 4))))), (.int .i64 0), (.int .i64 0), (.int .i64 0)]) (ds := [(.int .i64 (IntKind.i64.wrap (1 + (IntKind.i64.wrap ((a0.Syncs.getD v1.toNat Za).From.tmod 4))))), (.int .i64 (IntKind.i64.wrap (1 + (IntKind.i64.wrap ((a0.Syncs.getD v1.toNat Za).To.tmod 4))))), (.int .i64 0), (.int .i64 0), (.int .i64 0)]) (v := (.ag [(.int .i64 (IntKind.i64.wrap (1 + (IntKind.i64.wrap ((a0.Syncs.getD v1.toNat Za).From.tmod 4))))), (.int .i64 (IntKind.i64.wrap (1 + (IntKind.i64.wrap ((a0.Syncs.getD v1.toNat Za).To.tmod 4))))), (.int .i64 0), (.int .i64 0), (.int .i64 0)])) sz99 I I I I I I I I) I <| Zf <| Zg <| Zh ?_
    refine Z1s mixed <| Z7 0 I (Zq (m := 5) (o := 0) I f108_2 I I) <| Z7 1 I (Z11 (cs := (Z1l (a0.Syncs.getD v1.toNat Za)).cells) (v := (.int .u8 (a0.Syncs.getD v1.toNat Za).At)) I o5 I I I) <| Z7 2 I (st_div (k := .u8) (a := (a0.Syncs.getD v1.toNat Za).At) (b := 64) (c := ((a0.Syncs.getD v1.toNat Za).At.tmod 64)) I I I I (by decide)) <| Z7 3 I (st_conv I us5 u3 I) <| Z7 4 I (Z1h (k := .i64) (a := 1000) (b := (IntKind.i64.wrap ((a0.Syncs.getD v1.toNat Za).At.tmod 64))) (c := (IntKind.i64.wrap (1000 + (IntKind.i64.wrap ((a0.Syncs.getD v1.toNat Za).At.tmod 64))))) I I I I) <| Z7 5 I (Zq (m := 5) (o := 0) I f108_3 I I) <| Z7 6 I (Z11 (cs := (Z1l (a0.Syncs.getD v1.toNat Za)).cells) (v := (.int .u8 (a0.Syncs.getD v1.toNat Za).Delay)) I o5 I I I) ?_
    refine Z7 7 I (st_div (k := .u8) (a := (a0.Syncs.getD v1.toNat Za).Delay) (b := 16) (c := ((a0.Syncs.getD v1.toNat Za).Delay.tmod 16)) I I I I (by decide)) <| Z7 8 I (st_conv I us5 u3 I) <| Z7 9 I (Zj (v := (.int .i64 (IntKind.i64.wrap (1000 + (IntKind.i64.wrap ((a0.Syncs.getD v1.toNat Za).At.tmod 64)))))) I I) <| Z7 10 I (Zj (v := (.int .i64 (IntKind.i64.wrap ((a0.Syncs.getD v1.toNat Za).Delay.tmod 16)))) I I) <| Z1v (by kernel_rfl) I <| Zg <| Zh <| Z1s mixed ?_
    refine Z7 0 I (Zi (v := (.int .i64 (IntKind.i64.wrap (1000 + (IntKind.i64.wrap ((a0.Syncs.getD v1.toNat Za).At.tmod 64)))))) I I) <| Z7 1 I (Z1b (cs := (Z9 a0).cells) (vs := (Z9 a0).cells) I a46 I I I I) <| Z7 2 I (Zq (m := 6) (o := 0) I f99_0 I I) <| Z7 3 I (Z11 (cs := [(.int .i64 (IntKind.i64.wrap (1 + (IntKind.i64.wrap ((a0.Syncs.getD v1.toNat Za).From.tmod 4))))), (.int .i64 (IntKind.i64.wrap (1 + (IntKind.i64.wrap ((a0.Syncs.getD v1.toNat Za).To.tmod 4))))), (.int .i64 0), (.int .i64 0), (.int .i64 0)]) (v := (.int .i64 (IntKind.i64.wrap (1 + (IntKind.i64.wrap ((a0.Syncs.getD v1.toNat Za).From.tmod 4)))))) I o3 I I I) ?_
    have ⟨v10, hv10, h⟩ := Z19 h
    refine Z7 4 I (Z17 (ar := [(Z9 a0), (.int .i64 (IntKind.i64.wrap (1 + (IntKind.i64.wrap ((a0.Syncs.getD v1.toNat Za).From.tmod 4)))))]) (caps := []) Try.call26 (F26_ok K a0 (IntKind.i64.wrap (1 + (IntKind.i64.wrap ((a0.Syncs.getD v1.toNat Za).From.tmod 4)))) v10 hv10) I I ⟨rfl, rfl, trivial⟩ I) <| Z7 5 I (Z1h (k := .i64) (a := (IntKind.i64.wrap (1000 + (IntKind.i64.wrap ((a0.Syncs.getD v1.toNat Za).At.tmod 64))))) (b := v10) (c := (IntKind.i64.wrap ((IntKind.i64.wrap (1000 + (IntKind.i64.wrap ((a0.Syncs.getD v1.toNat Za).At.tmod 64)))) + v10))) I I I I) <| Z7 6 I (Zi (v := (.int .i64 (IntKind.i64.wrap (1000 + (IntKind.i64.wrap ((a0.Syncs.getD v1.toNat Za).At.tmod 64)))))) I I) <| Z7 7 I (Zi (v := (.int .i64 (IntKind.i64.wrap ((a0.Syncs.getD v1.toNat Za).Delay.tmod 16)))) I I) <| Z7 8 I (Z1h (k := .i64) (a := (IntKind.i64.wrap (1000 + (IntKind.i64.wrap ((a0.Syncs.getD v1.toNat Za).At.tmod 64))))) (b := (IntKind.i64.wrap ((a0.Syncs.getD v1.toNat Za).Delay.tmod 16))) (c := (IntKind.i64.wrap ((IntKind.i64.wrap (1000 + (IntKind.i64.wrap ((a0.Syncs.getD v1.toNat Za).At.tmod 64)))) + (IntKind.i64.wrap ((a0.Syncs.getD v1.toNat Za).Delay.tmod 16))))) I I I I) <| Z7 9 I (Z1b (cs := (Z9 a0).cells) (vs := (Z9 a0).cells) I a46 I I I I) <| Z7 10 I (Zq (m := 6) (o := 0) I f99_1 I I) <| Z7 11 I (Z11 (cs := [(.int .i64 (IntKind.i64.wrap (1 + (IntKind.i64.wrap ((a0.Syncs.getD v1.toNat Za).From.tmod 4))))), (.int .i64 (IntKind.i64.wrap (1 + (IntKind.i64.wrap ((a0.Syncs.getD v1.toNat Za).To.tmod 4))))), (.int .i64 0), (.int .i64 0), (.int .i64 0)]) (v := (.int .i64 (IntKind.i64.wrap (1 + (IntKind.i64.wrap ((a0.Syncs.getD v1.toNat Za).To.tmod 4)))))) I o3 I I I) ?_
    have ⟨v12, hv12, h⟩ := Z19 h
    refine Z7 12 I (Z17 (ar := [(Z9 a0), (.int .i64 (IntKind.i64.wrap (1 + (IntKind.i64.wrap ((a0.Syncs.getD v1.toNat Za).To.tmod 4)))))]) (caps := []) Try.call26 (F26_ok K a0 (IntKind.i64.wrap (1 + (IntKind.i64.wrap ((a0.Syncs.getD v1.toNat Za).To.tmod 4)))) v12 hv12) I I ⟨rfl, rfl, trivial⟩ I) <| Z7 13 I (Z1h (k := .i64) (a := (IntKind.i64.wrap ((IntKind.i64.wrap (1000 + (IntKind.i64.wrap ((a0.Syncs.getD v1.toNat Za).At.tmod 64)))) + (IntKind.i64.wrap ((a0.Syncs.getD v1.toNat Za).Delay.tmod 16))))) (b := v12) (c := (IntKind.i64.wrap ((IntKind.i64.wrap ((IntKind.i64.wrap (1000 + (IntKind.i64.wrap ((a0.Syncs.getD v1.toNat Za).At.tmod 64)))) + (IntKind.i64.wrap ((a0.Syncs.getD v1.toNat Za).Delay.tmod 16)))) + v12))) I I I I) <| Z7 14 I (Zi (v := (.int .i64 (IntKind.i64.wrap ((a0.Syncs.getD v1.toNat Za).Delay.tmod 16)))) I I) <| Z7 15 I (Zq (m := 5) (o := 0) I f108_4 I I) <| Z7 16 I (Z11 (cs := (Z1l (a0.Syncs.getD v1.toNat Za)).cells) (v := (.int .u8 (a0.Syncs.getD v1.toNat Za).Slack)) I o5 I I I) <| Z7 17 I (st_div (k := .u8) (a := (a0.Syncs.getD v1.toNat Za).Slack) (b := 4) (c := ((a0.Syncs.getD v1.toNat Za).Slack.tmod 4)) I I I I (by decide)) <| Z7 18 I (st_conv I us5 u3 I) <| Z7 19 I (Z1h (k := .i64) (a := (IntKind.i64.wrap ((a0.Syncs.getD v1.toNat Za).Delay.tmod 16))) (b := (IntKind.i64.wrap ((a0.Syncs.getD v1.toNat Za).Slack.tmod 4))) (c := (IntKind.i64.wrap ((IntKind.i64.wrap ((a0.Syncs.getD v1.toNat Za).Delay.tmod 16)) - (IntKind.i64.wrap ((a0.Syncs.getD v1.toNat Za).Slack.tmod 4))))) I I I I) ?_
    refine Z7 20 I (st_max (k := .i64) (a := 0) (b := (IntKind.i64.wrap ((IntKind.i64.wrap ((a0.Syncs.getD v1.toNat Za).Delay.tmod 16)) - (IntKind.i64.wrap ((a0.Syncs.getD v1.toNat Za).Slack.tmod 4))))) I I I) <| Z7 21 I (Zq (m := 6) (o := 0) I f99_2 I I) <| Z7 22 I (Z1m (cs := [(.int .i64 (IntKind.i64.wrap (1 + (IntKind.i64.wrap ((a0.Syncs.getD v1.toNat Za).From.tmod 4))))), (.int .i64 (IntKind.i64.wrap (1 + (IntKind.i64.wrap ((a0.Syncs.getD v1.toNat Za).To.tmod 4))))), (.int .i64 0), (.int .i64 0), (.int .i64 0)]) (vs := [(.int .i64 (IntKind.i64.wrap ((IntKind.i64.wrap (1000 + (IntKind.i64.wrap ((a0.Syncs.getD v1.toNat Za).At.tmod 64)))) + v10)))]) (ds := [(.int .i64 (IntKind.i64.wrap (1 + (IntKind.i64.wrap ((a0.Syncs.getD v1.toNat Za).From.tmod 4))))), (.int .i64 (IntKind.i64.wrap (1 + (IntKind.i64.wrap ((a0.Syncs.getD v1.toNat Za).To.tmod 4))))), (.int .i64 (IntKind.i64.wrap ((IntKind.i64.wrap (1000 + (IntKind.i64.wrap ((a0.Syncs.getD v1.toNat Za).At.tmod 64)))) + v10))), (.int .i64 0), (.int .i64 0)]) (v := (.int .i64 (IntKind.i64.wrap ((IntKind.i64.wrap (1000 + (IntKind.i64.wrap ((a0.Syncs.getD v1.toNat Za).At.tmod 64)))) + v10)))) sz3 I I I I I I I I) <| Z7 23 I (Zq (m := 6) (o := 0) I f99_3 I I) <| Z7 24 I (Z1m (cs := [(.int .i64 (IntKind.i64.wrap (1 + (IntKind.i64.wrap ((a0.Syncs.getD v1.toNat Za).From.tmod 4))))), (.int .i64 (IntKind.i64.wrap (1 + (IntKind.i64.wrap ((a0.Syncs.getD v1.toNat Za).To.tmod 4))))), (.int .i64 (IntKind.i64.wrap ((IntKind.i64.wrap (1000 + (IntKind.i64.wrap ((a0.Syncs.getD v1.toNat Za).At.tmod 64)))) + v10))), (.int .i64 0), (.int .i64 0)]) (vs := [(.int .i64 (IntKind.i64.wrap ((IntKind.i64.wrap ((IntKind.i64.wrap (1000 + (IntKind.i64.wrap ((a0.Syncs.getD v1.toNat Za).At.tmod 64)))) + (IntKind.i64.wrap ((a0.Syncs.getD v1.toNat Za).Delay.tmod 16)))) + v12)))]) (ds := [(.int .i64 (IntKind.i64.wrap (1 + (IntKind.i64.wrap ((a0.Syncs.getD v1.toNat Za).From.tmod 4))))), (.int .i64 (IntKind.i64.wrap (1 + (IntKind.i64.wrap ((a0.Syncs.getD v1.toNat Za).To.tmod 4))))), (.int .i64 (IntKind.i64.wrap ((IntKind.i64.wrap (1000 + (IntKind.i64.wrap ((a0.Syncs.getD v1.toNat Za).At.tmod 64)))) + v10))), (.int .i64 (IntKind.i64.wrap ((IntKind.i64.wrap ((IntKind.i64.wrap (1000 + (IntKind.i64.wrap ((a0.Syncs.getD v1.toNat Za).At.tmod 64)))) + (IntKind.i64.wrap ((a0.Syncs.getD v1.toNat Za).Delay.tmod 16)))) + v12))), (.int .i64 0)]) (v := (.int .i64 (IntKind.i64.wrap ((IntKind.i64.wrap ((IntKind.i64.wrap (1000 + (IntKind.i64.wrap ((a0.Syncs.getD v1.toNat Za).At.tmod 64)))) + (IntKind.i64.wrap ((a0.Syncs.getD v1.toNat Za).Delay.tmod 16)))) + v12)))) sz3 I I I I I I I I) <| Z7 25 I (Zq (m := 6) (o := 0) I f99_4 I I) <| Z7 26 I (Z1m (cs := [(.int .i64 (IntKind.i64.wrap (1 + (IntKind.i64.wrap ((a0.Syncs.getD v1.toNat Za).From.tmod 4))))), (.int .i64 (IntKind.i64.wrap (1 + (IntKind.i64.wrap ((a0.Syncs.getD v1.toNat Za).To.tmod 4))))), (.int .i64 (IntKind.i64.wrap ((IntKind.i64.wrap (1000 + (IntKind.i64.wrap ((a0.Syncs.getD v1.toNat Za).At.tmod 64)))) + v10))), (.int .i64 (IntKind.i64.wrap ((IntKind.i64.wrap ((IntKind.i64.wrap (1000 + (IntKind.i64.wrap ((a0.Syncs.getD v1.toNat Za).At.tmod 64)))) + (IntKind.i64.wrap ((a0.Syncs.getD v1.toNat Za).Delay.tmod 16)))) + v12))), (.int .i64 0)]) (vs := [(.int .i64 (if (IntKind.i64.wrap ((IntKind.i64.wrap ((a0.Syncs.getD v1.toNat Za).Delay.tmod 16)) - (IntKind.i64.wrap ((a0.Syncs.getD v1.toNat Za).Slack.tmod 4)))) > 0 then (IntKind.i64.wrap ((IntKind.i64.wrap ((a0.Syncs.getD v1.toNat Za).Delay.tmod 16)) - (IntKind.i64.wrap ((a0.Syncs.getD v1.toNat Za).Slack.tmod 4)))) else 0))]) (ds := [(.int .i64 (IntKind.i64.wrap (1 + (IntKind.i64.wrap ((a0.Syncs.getD v1.toNat Za).From.tmod 4))))), (.int .i64 (IntKind.i64.wrap (1 + (IntKind.i64.wrap ((a0.Syncs.getD v1.toNat Za).To.tmod 4))))), (.int .i64 (IntKind.i64.wrap ((IntKind.i64.wrap (1000 + (IntKind.i64.wrap ((a0.Syncs.getD v1.toNat Za).At.tmod 64)))) + v10))), (.int .i64 (IntKind.i64.wrap ((IntKind.i64.wrap ((IntKind.i64.wrap (1000 + (IntKind.i64.wrap ((a0.Syncs.getD v1.toNat Za).At.tmod 64)))) + (IntKind.i64.wrap ((a0.Syncs.getD v1.toNat Za).Delay.tmod 16)))) + v12))), (.int .i64 (if (IntKind.i64.wrap ((IntKind.i64.wrap ((a0.Syncs.getD v1.toNat Za).Delay.tmod 16)) - (IntKind.i64.wrap ((a0.Syncs.getD v1.toNat Za).Slack.tmod 4)))) > 0 then (IntKind.i64.wrap ((IntKind.i64.wrap ((a0.Syncs.getD v1.toNat Za).Delay.tmod 16)) - (IntKind.i64.wrap ((a0.Syncs.getD v1.toNat Za).Slack.tmod 4)))) else 0))]) (v := (.int .i64 (if (IntKind.i64.wrap ((IntKind.i64.wrap ((a0.Syncs.getD v1.toNat Za).Delay.tmod 16)) - (IntKind.i64.wrap ((a0.Syncs.getD v1.toNat Za).Slack.tmod 4)))) > 0 then (IntKind.i64.wrap ((IntKind.i64.wrap ((a0.Syncs.getD v1.toNat Za).Delay.tmod 16)) - (IntKind.i64.wrap ((a0.Syncs.getD v1.toNat Za).Slack.tmod 4)))) else 0))) sz3 I I I I I I I I) <| Z1v (by kernel_rfl) I ?_
    refine Zg <| Zc <| Z2 I (Zi (v := (.vs 3)) I I) I <| Z2 I (Z1b (cs := [(.int .i64 (IntKind.i64.wrap (1 + (IntKind.i64.wrap ((a0.Syncs.getD v1.toNat Za).From.tmod 4))))), (.int .i64 (IntKind.i64.wrap (1 + (IntKind.i64.wrap ((a0.Syncs.getD v1.toNat Za).To.tmod 4))))), (.int .i64 (IntKind.i64.wrap ((IntKind.i64.wrap (1000 + (IntKind.i64.wrap ((a0.Syncs.getD v1.toNat Za).At.tmod 64)))) + v10))), (.int .i64 (IntKind.i64.wrap ((IntKind.i64.wrap ((IntKind.i64.wrap (1000 + (IntKind.i64.wrap ((a0.Syncs.getD v1.toNat Za).At.tmod 64)))) + (IntKind.i64.wrap ((a0.Syncs.getD v1.toNat Za).Delay.tmod 16)))) + v12))), (.int .i64 (if (IntKind.i64.wrap ((IntKind.i64.wrap ((a0.Syncs.getD v1.toNat Za).Delay.tmod 16)) - (IntKind.i64.wrap ((a0.Syncs.getD v1.toNat Za).Slack.tmod 4)))) > 0 then (IntKind.i64.wrap ((IntKind.i64.wrap ((a0.Syncs.getD v1.toNat Za).Delay.tmod 16)) - (IntKind.i64.wrap ((a0.Syncs.getD v1.toNat Za).Slack.tmod 4)))) else 0))]) (vs := [(.int .i64 (IntKind.i64.wrap (1 + (IntKind.i64.wrap ((a0.Syncs.getD v1.toNat Za).From.tmod 4))))), (.int .i64 (IntKind.i64.wrap (1 + (IntKind.i64.wrap ((a0.Syncs.getD v1.toNat Za).To.tmod 4))))), (.int .i64 (IntKind.i64.wrap ((IntKind.i64.wrap (1000 + (IntKind.i64.wrap ((a0.Syncs.getD v1.toNat Za).At.tmod 64)))) + v10))), (.int .i64 (IntKind.i64.wrap ((IntKind.i64.wrap ((IntKind.i64.wrap (1000 + (IntKind.i64.wrap ((a0.Syncs.getD v1.toNat Za).At.tmod 64)))) + (IntKind.i64.wrap ((a0.Syncs.getD v1.toNat Za).Delay.tmod 16)))) + v12))), (.int .i64 (if (IntKind.i64.wrap ((IntKind.i64.wrap ((a0.Syncs.getD v1.toNat Za).Delay.tmod 16)) - (IntKind.i64.wrap ((a0.Syncs.getD v1.toNat Za).Slack.tmod 4)))) > 0 then (IntKind.i64.wrap ((IntKind.i64.wrap ((a0.Syncs.getD v1.toNat Za).Delay.tmod 16)) - (IntKind.i64.wrap ((a0.Syncs.getD v1.toNat Za).Slack.tmod 4)))) else 0))]) I a99 I I I I) I <| Z2 I (Z1f (vs := [(.ag [(.int .i64 (IntKind.i64.wrap (1 + (IntKind.i64.wrap ((a0.Syncs.getD v1.toNat Za).From.tmod 4))))), (.int .i64 (IntKind.i64.wrap (1 + (IntKind.i64.wrap ((a0.Syncs.getD v1.toNat Za).To.tmod 4))))), (.int .i64 (IntKind.i64.wrap ((IntKind.i64.wrap (1000 + (IntKind.i64.wrap ((a0.Syncs.getD v1.toNat Za).At.tmod 64)))) + v10))), (.int .i64 (IntKind.i64.wrap ((IntKind.i64.wrap ((IntKind.i64.wrap (1000 + (IntKind.i64.wrap ((a0.Syncs.getD v1.toNat Za).At.tmod 64)))) + (IntKind.i64.wrap ((a0.Syncs.getD v1.toNat Za).Delay.tmod 16)))) + v12))), (.int .i64 (if (IntKind.i64.wrap ((IntKind.i64.wrap ((a0.Syncs.getD v1.toNat Za).Delay.tmod 16)) - (IntKind.i64.wrap ((a0.Syncs.getD v1.toNat Za).Slack.tmod 4)))) > 0 then (IntKind.i64.wrap ((IntKind.i64.wrap ((a0.Syncs.getD v1.toNat Za).Delay.tmod 16)) - (IntKind.i64.wrap ((a0.Syncs.getD v1.toNat Za).Slack.tmod 4)))) else 0))])]) (enc := Ze) (l := [(⟨(IntKind.i64.wrap (1 + (IntKind.i64.wrap ((a0.Syncs.getD v1.toNat Za).From.tmod 4)))), (IntKind.i64.wrap (1 + (IntKind.i64.wrap ((a0.Syncs.getD v1.toNat Za).To.tmod 4)))), (IntKind.i64.wrap ((IntKind.i64.wrap (1000 + (IntKind.i64.wrap ((a0.Syncs.getD v1.toNat Za).At.tmod 64)))) + v10)), (IntKind.i64.wrap ((IntKind.i64.wrap ((IntKind.i64.wrap (1000 + (IntKind.i64.wrap ((a0.Syncs.getD v1.toNat Za).At.tmod 64)))) + (IntKind.i64.wrap ((a0.Syncs.getD v1.toNat Za).Delay.tmod 16)))) + v12)), (if (IntKind.i64.wrap ((IntKind.i64.wrap ((a0.Syncs.getD v1.toNat Za).Delay.tmod 16)) - (IntKind.i64.wrap ((a0.Syncs.getD v1.toNat Za).Slack.tmod 4)))) > 0 then (IntKind.i64.wrap ((IntKind.i64.wrap ((a0.Syncs.getD v1.toNat Za).Delay.tmod 16)) - (IntKind.i64.wrap ((a0.Syncs.getD v1.toNat Za).Slack.tmod 4)))) else 0)⟩ : Z14)]) I el34 I I ⟨rfl, trivial⟩ I els_Tapi_Exchange I I I I) I ?_
    have ⟨hg13, h⟩ := Z10 h
    refine Z2 I (st_append (m := 3) (enc := Ze) (l := v2) (l' := [(⟨(IntKind.i64.wrap (1 + (IntKind.i64.wrap ((a0.Syncs.getD v1.toNat Za).From.tmod 4)))), (IntKind.i64.wrap (1 + (IntKind.i64.wrap ((a0.Syncs.getD v1.toNat Za).To.tmod 4)))), (IntKind.i64.wrap ((IntKind.i64.wrap (1000 + (IntKind.i64.wrap ((a0.Syncs.getD v1.toNat Za).At.tmod 64)))) + v10)), (IntKind.i64.wrap ((IntKind.i64.wrap ((IntKind.i64.wrap (1000 + (IntKind.i64.wrap ((a0.Syncs.getD v1.toNat Za).At.tmod 64)))) + (IntKind.i64.wrap ((a0.Syncs.getD v1.toNat Za).Delay.tmod 16)))) + v12)), (if (IntKind.i64.wrap ((IntKind.i64.wrap ((a0.Syncs.getD v1.toNat Za).Delay.tmod 16)) - (IntKind.i64.wrap ((a0.Syncs.getD v1.toNat Za).Slack.tmod 4)))) > 0 then (IntKind.i64.wrap ((IntKind.i64.wrap ((a0.Syncs.getD v1.toNat Za).Delay.tmod 16)) - (IntKind.i64.wrap ((a0.Syncs.getD v1.toNat Za).Slack.tmod 4)))) else 0)⟩ : Z14)]) (src := (.vs 67)) (rd := [(67, (.vec 5 (List.map Ze [(⟨(IntKind.i64.wrap (1 + (IntKind.i64.wrap ((a0.Syncs.getD v1.toNat Za).From.tmod 4)))), (IntKind.i64.wrap (1 + (IntKind.i64.wrap ((a0.Syncs.getD v1.toNat Za).To.tmod 4)))), (IntKind.i64.wrap ((IntKind.i64.wrap (1000 + (IntKind.i64.wrap ((a0.Syncs.getD v1.toNat Za).At.tmod 64)))) + v10)), (IntKind.i64.wrap ((IntKind.i64.wrap ((IntKind.i64.wrap (1000 + (IntKind.i64.wrap ((a0.Syncs.getD v1.toNat Za).At.tmod 64)))) + (IntKind.i64.wrap ((a0.Syncs.getD v1.toNat Za).Delay.tmod 16)))) + v12)), (if (IntKind.i64.wrap ((IntKind.i64.wrap ((a0.Syncs.getD v1.toNat Za).Delay.tmod 16)) - (IntKind.i64.wrap ((a0.Syncs.getD v1.toNat Za).Slack.tmod 4)))) > 0 then (IntKind.i64.wrap ((IntKind.i64.wrap ((a0.Syncs.getD v1.toNat Za).Delay.tmod 16)) - (IntKind.i64.wrap ((a0.Syncs.getD v1.toNat Za).Slack.tmod 4)))) else 0)⟩ : Z14)])))]) I I el34 I u34 I I I I (oneRead I) els_Tapi_Exchange hg13) I <| Z2 I (Zj (v := (.vs 3)) I I) I <| Zf <| At.end <| Zg <| Zc <| Z2 I (Zi (v := (.int .i64 v1)) I I) I <| Z2 I (Z1h (k := .i64) (a := v1) (b := 1) (c := (IntKind.i64.wrap (v1 + 1))) I I I I) I ?_
    refine Z2 I (Zj (v := (.int .i64 (IntKind.i64.wrap (v1 + 1)))) I I) I <| Zf ?_
    exact Zw (st' := ⟨[(1, (.ptr 1 0)), (3, (.vs 3)), (4, (.int .i64 (IntKind.i64.wrap (v1 + 1))))], [(1, (.box (Z9 a0).cells)), (3, (.vec 5 (List.map Ze (v2 ++ [(⟨(IntKind.i64.wrap (1 + (IntKind.i64.wrap ((a0.Syncs.getD v1.toNat Za).From.tmod 4)))), (IntKind.i64.wrap (1 + (IntKind.i64.wrap ((a0.Syncs.getD v1.toNat Za).To.tmod 4)))), (IntKind.i64.wrap ((IntKind.i64.wrap (1000 + (IntKind.i64.wrap ((a0.Syncs.getD v1.toNat Za).At.tmod 64)))) + v10)), (IntKind.i64.wrap ((IntKind.i64.wrap ((IntKind.i64.wrap (1000 + (IntKind.i64.wrap ((a0.Syncs.getD v1.toNat Za).At.tmod 64)))) + (IntKind.i64.wrap ((a0.Syncs.getD v1.toNat Za).Delay.tmod 16)))) + v12)), (if (IntKind.i64.wrap ((IntKind.i64.wrap ((a0.Syncs.getD v1.toNat Za).Delay.tmod 16)) - (IntKind.i64.wrap ((a0.Syncs.getD v1.toNat Za).Slack.tmod 4)))) > 0 then (IntKind.i64.wrap ((IntKind.i64.wrap ((a0.Syncs.getD v1.toNat Za).Delay.tmod 16)) - (IntKind.i64.wrap ((a0.Syncs.getD v1.toNat Za).Slack.tmod 4)))) else 0)⟩ : Z14)]))))]⟩) ⟨rfl, rfl, rfl, trivial⟩ ⟨rfl, rfl, trivial⟩ (IH3 _ ((IntKind.i64.wrap (v1 + 1)), (v2 ++ [(⟨(IntKind.i64.wrap (1 + (IntKind.i64.wrap ((a0.Syncs.getD v1.toNat Za).From.tmod 4)))), (IntKind.i64.wrap (1 + (IntKind.i64.wrap ((a0.Syncs.getD v1.toNat Za).To.tmod 4)))), (IntKind.i64.wrap ((IntKind.i64.wrap (1000 + (IntKind.i64.wrap ((a0.Syncs.getD v1.toNat Za).At.tmod 64)))) + v10)), (IntKind.i64.wrap ((IntKind.i64.wrap ((IntKind.i64.wrap (1000 + (IntKind.i64.wrap ((a0.Syncs.getD v1.toNat Za).At.tmod 64)))) + (IntKind.i64.wrap ((a0.Syncs.getD v1.toNat Za).Delay.tmod 16)))) + v12)), (if (IntKind.i64.wrap ((IntKind.i64.wrap ((a0.Syncs.getD v1.toNat Za).Delay.tmod 16)) - (IntKind.i64.wrap ((a0.Syncs.getD v1.toNat Za).Slack.tmod 4)))) > 0 then (IntKind.i64.wrap ((IntKind.i64.wrap ((a0.Syncs.getD v1.toNat Za).Delay.tmod 16)) - (IntKind.i64.wrap ((a0.Syncs.getD v1.toNat Za).Slack.tmod 4)))) else 0)⟩ : Z14)])) (Nat.lt_succ_self _) h)
   ·have h := hif.2 hc
    refine AWp.exit <| At.thru ?_
    exact Zw (st' := ⟨[(3, (.vs 3))], [(3, (.vec 5 (List.map Ze v2)))]⟩) ⟨rfl, trivial⟩ ⟨rfl, trivial⟩ (J3 v2 h)
end Go.AM.Msg
