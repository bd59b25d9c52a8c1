/- What these functions compute, each with its walk: F103, F102, F58. -/
import Derived.Test.YtkhbjnkckblkjaaGreatTopZT
import Derived.Test.YtkhbjnkckblkjaaGreatTopZG0
namespace Go.AM.TopZ
open Go Go.AM Go.Proofs
set_option maxRecDepth 100000
set_option maxHeartbeats 2000000
def F103 (K : Nat) (a0 : Zd) (a1 : Str) : Option (Int) :=
 (F69 K a0.Name a1).bind fun v2 =>
  some v2
theorem F103_ok (K : Nat) (a0 : Zd) (a1 : Str) (r : Int) (h : F103 K a0 a1 = some r) : ACall P 103 ⟨[(Z2 a0), (.str a1)], [], (.int .i64 r), [], []⟩ := by
 refine Z1p Tryz.func103 Tryz.results103 rfl Tryz.ntmps103 rfl rfl rfl ?_
 intro E Q hP hN hro hret
 obtain ⟨P', nt', w0, F0, p0, S0, β0, ro0⟩ := E
 simp only at hP hN
 subst hP hN
 dsimp only [argT]
 unfold F103 at h
 refine Zg <| Za <| Z1 I (Z2l (v := (Z2 a0)) (cs := (Z2 a0).cells) I I I I I) I <| Z1 I (Zi (v := (.int .i64 0)) I I) I <| Ze <| Zf <| Zg <| Za ?_
 refine Z1 I (Zp (m := 2) (o := 0) I Z7y I I) I <| Z1 I (Zu (cs := (Z2 a0).cells) (v := (.str a0.Name)) I o9 I I I) I <| Z1 I (Zh (v := (.str a1)) I I) I ?_
 have ⟨v2, hv2, h⟩ := Z1g h
 refine Z1 I (Z1i (ar := [(.str a0.Name), (.str a1)]) (caps := []) Tryz.call69 (Z83 K a0.Name a1 v2 hv2) I I ⟨rfl, rfl, trivial⟩ I) I <| Z1 I (Zi (v := (.int .i64 v2)) I I) I <| Ze <| Zf <| Z1a ?_
 have h := Option.some.inj h
 subst h
 refine (hret _ ?_).1
 exact ⟨[(.int .i64 v2)], ⟨rfl, trivial⟩, rfl, trivial⟩
def Z52 (K : Nat) (a0 : (List Zd)) (a1 : Str) (v4 : Int) : Option (Int × Bool) :=
 if (decide (v4 < (a0.length : Int))) = true then
  if (0 : Int) ≤ v4 ∧ v4 < a0.length then
   (F103 K (a0.getD v4.toNat Z7) a1).bind fun v9 =>
    some (v4, (v9 == 0))
  else none
 else
  some (v4, false)
def Z6q (K : Nat) (b10 : Int → Int → Option (Int × Bool)) (v15 : Int) (v16 : Int) : Option (Int × Bool) :=
 b10 v15 v16
def Z5j (K : Nat) (a0 : (List Zd)) (a1 : Str) (c6 : Int → Option (Int × Bool)) : Nat → Int → Int → Option (Int × Bool)
 | 0, _, _ => none
 | k3 + 1, v1, v2 =>
  if (decide (v1 < v2)) = true then
   if (0 : Int) ≤ 1 then
    if (0 : Int) ≤ (IntKind.i64.wrap ((IntKind.u64.wrap (IntKind.i64.wrap (v1 + v2))).fdiv (2 ^ (min (1 : Int).toNat IntKind.u64.bits)))) ∧ (IntKind.i64.wrap ((IntKind.u64.wrap (IntKind.i64.wrap (v1 + v2))).fdiv (2 ^ (min (1 : Int).toNat IntKind.u64.bits)))) < a0.length then
     (F103 K (a0.getD (IntKind.i64.wrap ((IntKind.u64.wrap (IntKind.i64.wrap (v1 + v2))).fdiv (2 ^ (min (1 : Int).toNat IntKind.u64.bits)))).toNat Z7) a1).bind fun v14 =>
      if (decide (v14 < 0)) = true then
       Z6q K (Z5j K a0 a1 c6 k3) (IntKind.i64.wrap ((IntKind.i64.wrap ((IntKind.u64.wrap (IntKind.i64.wrap (v1 + v2))).fdiv (2 ^ (min (1 : Int).toNat IntKind.u64.bits)))) + 1)) v2
      else
       Z6q K (Z5j K a0 a1 c6 k3) v1 (IntKind.i64.wrap ((IntKind.u64.wrap (IntKind.i64.wrap (v1 + v2))).fdiv (2 ^ (min (1 : Int).toNat IntKind.u64.bits))))
    else none
   else none
  else
   c6 v1
def F102 (K : Nat) (a0 : (List Zd)) (a1 : Str) : Option (Int × Bool) :=
 Z5j K a0 a1 (Z52 K a0 a1) K 0 (a0.length : Int)
theorem F102_ok (K : Nat) (a0 : (List Zd)) (a1 : Str) (r : Int × Bool) (h : F102 K a0 a1 = some r) : ACall P 102 ⟨[(.sl 4 (a0.map Z2) false), (.str a1), (.clo 103 [])], [], (.tup [(.int .i64 r.1), (.bool r.2)]), [], []⟩ := by
 refine Z1p Tryz.func102 Tryz.results102 rfl Tryz.ntmps102 rfl rfl rfl ?_
 intro E Q hP hN hro hret
 obtain ⟨P', nt', w0, F0, p0, S0, β0, ro0⟩ := E
 simp only at hP hN
 subst hP hN
 dsimp only [argT]
 unfold F102 at h
 refine Zg <| Za <| Z1 I (Zi (v := (.int .i64 0)) I I) I <| Z1 I (Zi (v := (.bool false)) I I) I <| Ze <| Zf <| Zg <| Za ?_
 refine Z1 I (Zh (v := (.sl 4 (a0.map Z2) false)) I I) I <| Z1 I (Z24 (l := a0) (enc := Z2) I s41 I) I <| Z1 I (Zi (v := (.int .i64 (a0.length : Int))) I I) I <| Ze <| Zf <| Zg <| Za <| Z1 I (Zh (v := (.int .i64 (a0.length : Int))) I I) I ?_
 refine Z1 I (Zi (v := (.int .i64 0)) I I) I <| Z1 I (Zi (v := (.int .i64 (a0.length : Int))) I I) I <| Ze <| Zf <| Zg <| Z1t (st' := ⟨[(0, (.sl 4 (a0.map Z2) false)), (1, (.str a1)), (2, (.clo 103 [])), (8, (.int .i64 (a0.length : Int))), (9, (.int .i64 0)), (10, (.int .i64 (a0.length : Int)))], []⟩) ⟨rfl, rfl, rfl, rfl, rfl, rfl, trivial⟩ trivial ?_
 refine Z1h (V := Int × Int) (X := Int) (lp := fun k v => Z5j K a0 a1 (Z52 K a0 a1) k v.1 v.2 = some r) (sh := fun v => ⟨[(0, (.sl 4 (a0.map Z2) false)), (1, (.str a1)), (2, (.clo 103 [])), (8, (.int .i64 (a0.length : Int))), (9, (.int .i64 v.1)), (10, (.int .i64 v.2))], []⟩) (x := fun v => Z52 K a0 a1 v = some r) (shx := fun v => ⟨[(0, (.sl 4 (a0.map Z2) false)), (1, (.str a1)), (2, (.clo 103 [])), (8, (.int .i64 (a0.length : Int))), (9, (.int .i64 v))], []⟩) (k := K) (v := (0, (a0.length : Int))) h ?_ ?_
 ·intro v h
  revert h
  revert v
  intro v4 h
  try dsimp only at h ⊢
  unfold Z52 at h
  refine Zf <| Zg <| Za <| Z1 I (Zh (v := (.int .i64 v4)) I I) I <| Z1 I (Zh (v := (.int .i64 v4)) I I) I <| Z1 I (Zh (v := (.int .i64 (a0.length : Int))) I I) I <| Z1 I (Z1w (k := .i64) (a := v4) (b := (a0.length : Int)) (c := (decide (v4 < (a0.length : Int)))) I I I I) I <| Z1 I (Zh (v := (.bool (decide (v4 < (a0.length : Int))))) I I) I ?_
  have hif := Z1y h
  refine AOps.split (fun hc => ?_) (fun hc => ?_)
  ·have h := hif.1 hc
   refine Zy I I I I (Zh (v := (.clo 103 [])) I I) I <| Zy I I I I (Zh (v := (.sl 4 (a0.map Z2) false)) I I) I <| Zy I I I I (Zh (v := (.int .i64 v4)) I I) I ?_
   have ⟨hg7, h⟩ := Zv h
   refine Zy I I I I (Z1s (k := .i64) (l := a0) (enc := Z2) (z := Z7) (n := v4) (cs := (Z2 (a0.getD v4.toNat Z7)).cells) (full := false) I s41 I I hg7 I) I <| Zy I I I I (Z2k (cs := (Z2 (a0.getD v4.toNat Z7)).cells) (vs := (Z2 (a0.getD v4.toNat Z7)).cells) I a68 I I I) I <| Zy I I I I (Zh (v := (.str a1)) I I) I ?_
   have ⟨v9, hv9, h⟩ := Z1g h
   refine Zy I I I I (Z1i (ar := [(Z2 (a0.getD v4.toNat Z7)), (.str a1)]) (caps := []) Tryz.call103 (F103_ok K (a0.getD v4.toNat Z7) a1 v9 hv9) I I ⟨rfl, rfl, trivial⟩ I) I <| Zy I I I I (Z1w (k := .i64) (a := v9) (b := 0) (c := (v9 == 0)) I I I I) I <| Z1 I (Z2d (v := (.bool (v9 == 0))) I I I) I <| Z1 I (Zi (v := (.int .i64 v4)) I I) I <| Z1 I (Zi (v := (.bool (v9 == 0))) I I) I <| Ze <| Zf <| Z1a ?_
   have h := Option.some.inj h
   subst h
   refine (hret _ ?_).1
   exact ⟨[(.int .i64 v4), (.bool (v9 == 0))], ⟨rfl, rfl, trivial⟩, rfl, trivial⟩
  ·have h := hif.2 hc
   refine Zt I I I I I I I <| Zt I I I I I I I <| Zt I I I I I I I <| Zt I I I I I I I <| Zt I I I I I I I <| Zt I I I I I I I <| Zt I I I I I I I <| Zt I I I I I I I ?_
   refine Z1 I (Z2a (v := (.bool false)) I I I) I <| Z1 I (Zi (v := (.int .i64 v4)) I I) I <| Z1 I (Zi (v := (.bool false)) I I) I <| Ze <| Zf <| Z1a ?_
   have h := Option.some.inj h
   subst h
   refine (hret _ ?_).1
   exact ⟨[(.int .i64 v4), (.bool false)], ⟨rfl, rfl, trivial⟩, rfl, trivial⟩
 ·intro N k3 v h IH3 J3
  obtain ⟨v1, v2⟩ := v
  try dsimp only at h IH3 J3 ⊢
  cases k3 with
  | zero => cases h
  | succ k3 =>
   rw [Z5j] at h
   refine Zg <| Zg <| Za <| Z1 I (Zh (v := (.int .i64 v1)) I I) I <| Z1 I (Zh (v := (.int .i64 v2)) I I) I <| Z1 I (Z1w (k := .i64) (a := v1) (b := v2) (c := (decide (v1 < v2))) I I I I) I <| Ze <| Zf ?_
   have hif := Z1y h
   refine Z13 I (fun hc => ?_) (fun hc => ?_)
   ·have h := hif.1 hc
    refine Z16 <| Zf <| AWp.block <| Zg <| Za <| Z1 I (Zh (v := (.int .i64 v1)) I I) I <| Z1 I (Zh (v := (.int .i64 v2)) I I) I <| Z1 I (Z1n (k := .i64) (a := v1) (b := v2) (c := (IntKind.i64.wrap (v1 + v2))) I I I I) I ?_
    refine Z1 I (st_conv I us3 u107 I) I ?_
    have ⟨hg11, h⟩ := Zv h
    refine Z1 I (st_shift (k := .u64) (j := .u64) (a := (IntKind.u64.wrap (IntKind.i64.wrap (v1 + v2)))) (b := 1) (c := ((IntKind.u64.wrap (IntKind.i64.wrap (v1 + v2))).fdiv (2 ^ (min (1 : Int).toNat IntKind.u64.bits)))) I I I I hg11) I <| Z1 I (st_conv I us107 u3 I) I <| Z1 I (Zi (v := (.int .i64 (IntKind.i64.wrap ((IntKind.u64.wrap (IntKind.i64.wrap (v1 + v2))).fdiv (2 ^ (min (1 : Int).toNat IntKind.u64.bits)))))) I I) I <| Ze <| Zf <| Zg <| Za <| Z1 I (Zh (v := (.clo 103 [])) I I) I ?_
    refine Z1 I (Zh (v := (.sl 4 (a0.map Z2) false)) I I) I <| Z1 I (Zh (v := (.int .i64 (IntKind.i64.wrap ((IntKind.u64.wrap (IntKind.i64.wrap (v1 + v2))).fdiv (2 ^ (min (1 : Int).toNat IntKind.u64.bits)))))) I I) I ?_
    have ⟨hg12, h⟩ := Zv h
    refine Z1 I (Z1s (k := .i64) (l := a0) (enc := Z2) (z := Z7) (n := (IntKind.i64.wrap ((IntKind.u64.wrap (IntKind.i64.wrap (v1 + v2))).fdiv (2 ^ (min (1 : Int).toNat IntKind.u64.bits))))) (cs := (Z2 (a0.getD (IntKind.i64.wrap ((IntKind.u64.wrap (IntKind.i64.wrap (v1 + v2))).fdiv (2 ^ (min (1 : Int).toNat IntKind.u64.bits)))).toNat Z7)).cells) (full := false) I s41 I I hg12 I) I <| Z1 I (Z2k (cs := (Z2 (a0.getD (IntKind.i64.wrap ((IntKind.u64.wrap (IntKind.i64.wrap (v1 + v2))).fdiv (2 ^ (min (1 : Int).toNat IntKind.u64.bits)))).toNat Z7)).cells) (vs := (Z2 (a0.getD (IntKind.i64.wrap ((IntKind.u64.wrap (IntKind.i64.wrap (v1 + v2))).fdiv (2 ^ (min (1 : Int).toNat IntKind.u64.bits)))).toNat Z7)).cells) I a68 I I I) I <| Z1 I (Zh (v := (.str a1)) I I) I ?_
    have ⟨v14, hv14, h⟩ := Z1g h
    refine Z1 I (Z1i (ar := [(Z2 (a0.getD (IntKind.i64.wrap ((IntKind.u64.wrap (IntKind.i64.wrap (v1 + v2))).fdiv (2 ^ (min (1 : Int).toNat IntKind.u64.bits)))).toNat Z7)), (.str a1)]) (caps := []) Tryz.call103 (F103_ok K (a0.getD (IntKind.i64.wrap ((IntKind.u64.wrap (IntKind.i64.wrap (v1 + v2))).fdiv (2 ^ (min (1 : Int).toNat IntKind.u64.bits)))).toNat Z7) a1 v14 hv14) I I ⟨rfl, rfl, trivial⟩ I) I <| Z1 I (Z1w (k := .i64) (a := v14) (b := 0) (c := (decide (v14 < 0))) I I I I) I <| Ze <| Zf ?_
    refine AWp.join (V := Int × Int) (lp := fun v => Z6q K (Z5j K a0 a1 (Z52 K a0 a1) k3) v.1 v.2 = some r) (sh := fun v => ⟨[(0, (.sl 4 (a0.map Z2) false)), (1, (.str a1)), (2, (.clo 103 [])), (8, (.int .i64 (a0.length : Int))), (9, (.int .i64 v.1)), (10, (.int .i64 v.2))], []⟩) ?_ ?_
    ·intro v h
     obtain ⟨v15, v16⟩ := v
     try dsimp only at h ⊢
     unfold Z6q at h
     refine At.end ?_
     exact Zw (st' := ⟨[(0, (.sl 4 (a0.map Z2) false)), (1, (.str a1)), (2, (.clo 103 [])), (8, (.int .i64 (a0.length : Int))), (9, (.int .i64 v15)), (10, (.int .i64 v16))], []⟩) ⟨rfl, rfl, rfl, rfl, rfl, rfl, trivial⟩ trivial (IH3 _ (v15, v16) (Nat.lt_succ_self _) h)
    ·intro J17
     have hif := Z1y h
     refine Z13 I (fun hc => ?_) (fun hc => ?_)
     ·have h := hif.1 hc
      refine Za <| Z1 I (Zh (v := (.int .i64 (IntKind.i64.wrap ((IntKind.u64.wrap (IntKind.i64.wrap (v1 + v2))).fdiv (2 ^ (min (1 : Int).toNat IntKind.u64.bits)))))) I I) I <| Z1 I (Z1n (k := .i64) (a := (IntKind.i64.wrap ((IntKind.u64.wrap (IntKind.i64.wrap (v1 + v2))).fdiv (2 ^ (min (1 : Int).toNat IntKind.u64.bits))))) (b := 1) (c := (IntKind.i64.wrap ((IntKind.i64.wrap ((IntKind.u64.wrap (IntKind.i64.wrap (v1 + v2))).fdiv (2 ^ (min (1 : Int).toNat IntKind.u64.bits)))) + 1))) I I I I) I <| Z1 I (Zi (v := (.int .i64 (IntKind.i64.wrap ((IntKind.i64.wrap ((IntKind.u64.wrap (IntKind.i64.wrap (v1 + v2))).fdiv (2 ^ (min (1 : Int).toNat IntKind.u64.bits)))) + 1)))) I I) I <| Ze ?_
      exact Zw (st' := ⟨[(0, (.sl 4 (a0.map Z2) false)), (1, (.str a1)), (2, (.clo 103 [])), (8, (.int .i64 (a0.length : Int))), (9, (.int .i64 (IntKind.i64.wrap ((IntKind.i64.wrap ((IntKind.u64.wrap (IntKind.i64.wrap (v1 + v2))).fdiv (2 ^ (min (1 : Int).toNat IntKind.u64.bits)))) + 1)))), (10, (.int .i64 v2))], []⟩) ⟨rfl, rfl, rfl, rfl, rfl, rfl, trivial⟩ trivial (J17 ((IntKind.i64.wrap ((IntKind.i64.wrap ((IntKind.u64.wrap (IntKind.i64.wrap (v1 + v2))).fdiv (2 ^ (min (1 : Int).toNat IntKind.u64.bits)))) + 1)), v2) h)
     ·have h := hif.2 hc
      refine Za <| Z1 I (Zh (v := (.int .i64 (IntKind.i64.wrap ((IntKind.u64.wrap (IntKind.i64.wrap (v1 + v2))).fdiv (2 ^ (min (1 : Int).toNat IntKind.u64.bits)))))) I I) I <| Z1 I (Zi (v := (.int .i64 (IntKind.i64.wrap ((IntKind.u64.wrap (IntKind.i64.wrap (v1 + v2))).fdiv (2 ^ (min (1 : Int).toNat IntKind.u64.bits)))))) I I) I <| Ze ?_
      exact Zw (st' := ⟨[(0, (.sl 4 (a0.map Z2) false)), (1, (.str a1)), (2, (.clo 103 [])), (8, (.int .i64 (a0.length : Int))), (9, (.int .i64 v1)), (10, (.int .i64 (IntKind.i64.wrap ((IntKind.u64.wrap (IntKind.i64.wrap (v1 + v2))).fdiv (2 ^ (min (1 : Int).toNat IntKind.u64.bits))))))], []⟩) ⟨rfl, rfl, rfl, rfl, rfl, rfl, trivial⟩ trivial (J17 (v1, (IntKind.i64.wrap ((IntKind.u64.wrap (IntKind.i64.wrap (v1 + v2))).fdiv (2 ^ (min (1 : Int).toNat IntKind.u64.bits))))) h)
   ·have h := hif.2 hc
    refine AWp.exit <| At.thru ?_
    exact Zw (st' := ⟨[(0, (.sl 4 (a0.map Z2) false)), (1, (.str a1)), (2, (.clo 103 [])), (8, (.int .i64 (a0.length : Int))), (9, (.int .i64 v1))], []⟩) ⟨rfl, rfl, rfl, rfl, rfl, trivial⟩ trivial (J3 v1 h)
def F58 (K : Nat) (a0 : Zb) (a1 : Str) : Option (Int × Bool) :=
 (F102 K a0.Services a1).bind fun v2 =>
  some (v2.1, v2.2)
theorem F58_ok (K : Nat) (a0 : Zb) (a1 : Str) (r : Int × Bool) (h : F58 K a0 a1 = some r) : ACall P 58 ⟨[(Z5 a0), (.str a1)], [], (.tup [(.int .i64 r.1), (.bool r.2)]), [], []⟩ := by
 refine Z1p Tryz.func58 Tryz.results58 rfl Tryz.ntmps58 rfl rfl rfl ?_
 intro E Q hP hN hro hret
 obtain ⟨P', nt', w0, F0, p0, S0, β0, ro0⟩ := E
 simp only at hP hN
 subst hP hN
 dsimp only [argT]
 unfold F58 at h
 refine Zg <| Za <| Z1 I (Z2l (v := (Z5 a0)) (cs := (Z5 a0).cells) I I I I I) I <| Z1 I (Zi (v := (.int .i64 0)) I I) I <| Z1 I (Zi (v := (.bool false)) I I) I <| Ze <| Zf <| Zg ?_
 refine Za <| Z1 I (Zp (m := 2) (o := 0) I Z4a I I) I <| Z1 I (Zu (cs := (Z5 a0).cells) (v := (.sl 4 (a0.Services.map Z2) false)) I o41 I I I) I <| Z1 I (Zh (v := (.str a1)) I I) I ?_
 have ⟨v2, hv2, h⟩ := Z1g h
 refine Z1 I (Z1i (ar := [(.sl 4 (a0.Services.map Z2) false), (.str a1), (.clo 103 [])]) (caps := []) Tryz.call102 (F102_ok K a0.Services a1 v2 hv2) I I ⟨rfl, rfl, rfl, trivial⟩ I) I <| Z1 I (Z21 (vs := [(.int .i64 v2.1), (.bool v2.2)]) (v := (.int .i64 v2.1)) I I I) I <| Z1 I (Z21 (vs := [(.int .i64 v2.1), (.bool v2.2)]) (v := (.bool v2.2)) I I I) I <| Z1 I (Zi (v := (.int .i64 v2.1)) I I) I <| Z1 I (Zi (v := (.bool v2.2)) I I) I <| Ze <| Zf <| Z1a ?_
 have h := Option.some.inj h
 subst h
 refine (hret _ ?_).1
 exact ⟨[(.int .i64 v2.1), (.bool v2.2)], ⟨rfl, rfl, trivial⟩, rfl, trivial⟩
end Go.AM.TopZ
