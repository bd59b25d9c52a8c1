/- What these functions compute, each with its walk: F111, F114, F115, F74, F29, F28, F76, F30, F7. -/
import Derived.Test.YtkhbjnkckblkjaaGreatTopZT
import Derived.Test.YtkhbjnkckblkjaaGreatTopZG1
import Derived.Test.YtkhbjnkckblkjaaGreatTopZG2
import Derived.Test.YtkhbjnkckblkjaaGreatTopZG3
import Derived.Test.YtkhbjnkckblkjaaGreatTopZG4
import Derived.Test.YtkhbjnkckblkjaaGreatTopZG7
namespace Go.AM.TopZ
open Go Go.AM Go.Proofs
set_option maxRecDepth 100000
set_option maxHeartbeats 2000000
def F111 (K : Nat) (a0 : Z18) (a1 : Int) : Option (Bool) :=
 if (decide (a1 ≥ 0)) = true then
  some (decide (a1 < a0.Count))
 else
  some false
theorem F111_ok (K : Nat) (a0 : Z18) (a1 : Int) (r : Bool) (h : F111 K a0 a1 = some r) : ACall P 111 ⟨[(Zx a0), (.int .i64 a1)], [], (.bool r), [], []⟩ := by
 refine Z1p Tryz.func111 Tryz.results111 rfl Tryz.ntmps111 rfl rfl rfl ?_
 intro E Q hP hN hro hret
 obtain ⟨P', nt', w0, F0, p0, S0, β0, ro0⟩ := E
 simp only at hP hN
 subst hP hN
 dsimp only [argT]
 unfold F111 at h
 refine Zg <| Za <| Z1 I (Z2l (v := (Zx a0)) (cs := (Zx a0).cells) I I I I I) I <| Z1 I (Zi (v := (.bool false)) I I) I <| Ze <| Zf <| Zg <| Za ?_
 refine Z1 I (Zh (v := (.int .i64 a1)) I I) I <| Z1 I (Z1w (k := .i64) (a := a1) (b := 0) (c := (decide (a1 ≥ 0))) I I I I) I <| Z1 I (Zh (v := (.bool (decide (a1 ≥ 0)))) I I) I ?_
 have hif := Z1y h
 refine AOps.split (fun hc => ?_) (fun hc => ?_)
 ·have h := hif.1 hc
  refine Zy I I I I (Zh (v := (.int .i64 a1)) I I) I <| Zy I I I I (Zp (m := 2) (o := 0) I f83_0 I I) I <| Zy I I I I (Zu (cs := (Zx a0).cells) (v := (.int .i64 a0.Count)) I o3 I I I) I <| Zy I I I I (Z1w (k := .i64) (a := a1) (b := a0.Count) (c := (decide (a1 < a0.Count))) I I I I) I <| Z1 I (Z2d (v := (.bool (decide (a1 < a0.Count)))) I I I) I <| Z1 I (Zi (v := (.bool (decide (a1 < a0.Count)))) I I) I <| Ze <| Zf ?_
  refine Z1a ?_
  have h := Option.some.inj h
  subst h
  refine (hret _ ?_).1
  exact ⟨[(.bool (decide (a1 < a0.Count)))], ⟨rfl, trivial⟩, rfl, trivial⟩
 ·have h := hif.2 hc
  refine Zt I I I I I I I <| Zt I I I I I I I <| Zt I I I I I I I <| Zt I I I I I I I <| Z1 I (Z2a (v := (.bool false)) I I I) I <| Z1 I (Zi (v := (.bool false)) I I) I <| Ze <| Zf ?_
  refine Z1a ?_
  have h := Option.some.inj h
  subst h
  refine (hret _ ?_).1
  exact ⟨[(.bool false)], ⟨rfl, trivial⟩, rfl, trivial⟩
def Z7a (K : Nat) (a0 : Z18) (v5 : (List Zr)) : Option (Z18) :=
 (F77 K a0.Count v5).bind fun v9 =>
  some v9.1
def Z78 (K : Nat) (a0 : Z18) (c7 : (List Zr) → Option (Z18)) : Nat → Int → (List Zr) → Option (Z18)
 | 0, _, _ => none
 | k4 + 1, v2, v3 =>
  if (decide (v2 < (a0.Edges.length : Int))) = true then
   if (0 : Int) ≤ v2 ∧ v2 < a0.Edges.length then
    if v3.length + [(⟨(a0.Edges.getD v2.toNat Zj).To, (a0.Edges.getD v2.toNat Zj).From⟩ : Zr)].length ≤ 1073741824 then
     (Z78 K a0 c7 k4) (IntKind.i64.wrap (v2 + 1)) (v3 ++ [(⟨(a0.Edges.getD v2.toNat Zj).To, (a0.Edges.getD v2.toNat Zj).From⟩ : Zr)])
    else none
   else none
  else
   c7 v3
def F114 (K : Nat) (a0 : Z18) : Option (Z18) :=
 if (0 : Int) ≤ 0 ∧ 0 ≤ (a0.Edges.length : Int) ∧ (a0.Edges.length : Int) ≤ 1073741824 then
  Z78 K a0 (Z7a K a0) K 0 (List.replicate (0 : Int).toNat (Zj : Zr))
 else none
theorem F114_ok (K : Nat) (a0 : Z18) (r : Z18) (h : F114 K a0 = some r) : ACall P 114 ⟨[(Zx a0)], [], (Zx r), [], []⟩ := by
 refine Z1p Tryz.func114 Tryz.results114 rfl Tryz.ntmps114 rfl rfl rfl ?_
 intro E Q hP hN hro hret
 obtain ⟨P', nt', w0, F0, p0, S0, β0, ro0⟩ := E
 simp only at hP hN
 subst hP hN
 dsimp only [argT]
 unfold F114 at h
 refine Zg <| Za <| Z1 I (Z2l (v := (Zx a0)) (cs := (Zx a0).cells) I I I I I) I <| Z1 I (Z22 (cs := [(.int .i64 0), (.sl 2 [] false)]) I z83 I I I) I <| Ze <| Zf <| Zg <| Za ?_
 refine Z1 I (Zp (m := 1) (o := 0) I f83_1 I I) I <| Z1 I (Zu (cs := (Zx a0).cells) (v := (.sl 2 (a0.Edges.map Zk) false)) I o81 I I I) I <| Z1 I (Z24 (l := a0.Edges) (enc := Zk) I s81 I) I ?_
 have ⟨hg1, h⟩ := Zv h
 refine Z1 I (Z66 (kx := .i64) (ky := .i64) (a := (0 : Int)) (c := (a0.Edges.length : Int)) (n := (0 : Int).toNat) I el81 I ze86 Z2p I I I hg1 I) I <| Z1 I (Zi (v := (.vs 11)) I I) I <| Ze <| Zf <| Zg <| Zg <| Za <| Z1 I (Zp (m := 1) (o := 0) I f83_1 I I) I ?_
 refine Z1 I (Zu (cs := (Zx a0).cells) (v := (.sl 2 (a0.Edges.map Zk) false)) I o81 I I I) I <| Z1 I (Z24 (l := a0.Edges) (enc := Zk) I s81 I) I <| Z1 I (Zh (v := (.int .i64 0)) I I) I <| Ze <| Zf <| AWp.ghost (st' := ⟨[(1, (.ptr 1 0)), (2, (.ptr 2 0)), (3, (.vs 3)), (13, (.sl 2 (a0.Edges.map Zk) false)), (14, (.int .i64 (a0.Edges.length : Int))), (15, (.int .i64 0))], [(1, (.box (Zx a0).cells)), (2, (.box [(.int .i64 0), (.sl 2 [] false)])), (3, (.vec 2 (List.map Zk (List.replicate (0 : Int).toNat (Zj : Zr)))))]⟩) (fun a w h => (Z1c ⟨[(1, (.ptr 1 0)), (2, (.ptr 2 0)), (3, (.vs 3)), (13, (.sl 2 (a0.Edges.map Zk) false)), (14, (.int .i64 (a0.Edges.length : Int))), (15, (.int .i64 0))], [(1, (.box (Zx a0).cells)), (2, (.box [(.int .i64 0), (.sl 2 [] false)])), (3, (.vec 2 (List.map Zk (List.replicate (0 : Int).toNat (Zj : Zr)))))]⟩ (Z42 (a := 11) (b := 3) I I a w (Z1c ⟨[(1, (.ptr 1 0)), (2, (.ptr 2 0)), (3, (.vs 11)), (13, (.sl 2 (a0.Edges.map Zk) false)), (14, (.int .i64 (a0.Edges.length : Int))), (15, (.int .i64 0))], [(1, (.box (Zx a0).cells)), (2, (.box [(.int .i64 0), (.sl 2 [] false)])), (11, (.vec 2 (List.map Zk (List.replicate (0 : Int).toNat (Zj : Zr)))))]⟩ h ⟨rfl, rfl, rfl, rfl, rfl, rfl, trivial⟩ ⟨rfl, rfl, rfl, trivial⟩)) ⟨rfl, rfl, rfl, rfl, rfl, rfl, trivial⟩ ⟨rfl, rfl, rfl, trivial⟩)) <| Z1t (st' := ⟨[(1, (.ptr 1 0)), (2, (.ptr 2 0)), (3, (.vs 3)), (13, (.sl 2 (a0.Edges.map Zk) false)), (14, (.int .i64 (a0.Edges.length : Int))), (15, (.int .i64 0))], [(1, (.box (Zx a0).cells)), (2, (.box [(.int .i64 0), (.sl 2 [] false)])), (3, (.vec 2 (List.map Zk (List.replicate (0 : Int).toNat (Zj : Zr)))))]⟩) ⟨rfl, rfl, rfl, rfl, rfl, rfl, trivial⟩ ⟨rfl, rfl, rfl, trivial⟩ ?_
 refine Z1h (V := Int × (List Zr)) (X := (List Zr)) (lp := fun k v => Z78 K a0 (Z7a K a0) k v.1 v.2 = some r) (sh := fun v => ⟨[(1, (.ptr 1 0)), (2, (.ptr 2 0)), (3, (.vs 3)), (13, (.sl 2 (a0.Edges.map Zk) false)), (14, (.int .i64 (a0.Edges.length : Int))), (15, (.int .i64 v.1))], [(1, (.box (Zx a0).cells)), (2, (.box [(.int .i64 0), (.sl 2 [] false)])), (3, (.vec 2 (List.map Zk v.2)))]⟩) (x := fun v => Z7a K a0 v = some r) (shx := fun v => ⟨[(1, (.ptr 1 0)), (2, (.ptr 2 0)), (3, (.vs 3))], [(1, (.box (Zx a0).cells)), (2, (.box [(.int .i64 0), (.sl 2 [] false)])), (3, (.vec 2 (List.map Zk v)))]⟩) (k := K) (v := (0, (List.replicate (0 : Int).toNat (Zj : Zr)))) h ?_ ?_
 ·intro v h
  revert h
  revert v
  intro v5 h
  try dsimp only at h ⊢
  unfold Z7a at h
  refine Zf <| Zg <| Za <| Z1 I (Zp (m := 1) (o := 0) I f83_0 I I) I <| Z1 I (Zu (cs := (Zx a0).cells) (v := (.int .i64 a0.Count)) I o3 I I I) I <| Z1 I (Zh (v := (.vs 3)) I I) I <| AOps.ghost (st' := ⟨[(2, (.ptr 2 0)), (30, (.int .i64 a0.Count)), (31, (.sl 2 (v5.map Zk) false))], [(2, (.box [(.int .i64 0), (.sl 2 [] false)]))]⟩) (fun a w h => (Z1c ⟨[(2, (.ptr 2 0)), (30, (.int .i64 a0.Count)), (31, (.sl 2 (v5.map Zk) false))], [(2, (.box [(.int .i64 0), (.sl 2 [] false)]))]⟩ (Z27 (m := 3) (sz := 2) (es := (List.map Zk v5)) a w (Z1c ⟨[(2, (.ptr 2 0)), (30, (.int .i64 a0.Count)), (31, (.vs 3))], [(3, (.vec 2 (List.map Zk v5))), (2, (.box [(.int .i64 0), (.sl 2 [] false)]))]⟩ h ⟨rfl, rfl, rfl, trivial⟩ ⟨rfl, rfl, trivial⟩)) ⟨rfl, rfl, rfl, trivial⟩ ⟨rfl, trivial⟩)) ?_
  have ⟨v9, hv9, h⟩ := Z1g h
  refine Z1 I (Z1i (ar := [(.int .i64 a0.Count), (.sl 2 (v5.map Zk) false)]) (caps := []) Tryz.call77 (F77_ok K a0.Count v5 v9 hv9) I I ⟨rfl, rfl, trivial⟩ I) I <| Z1 I (Zh (v := (.tup [(Zx v9.1), (.int .i64 v9.2)])) I I) I <| Z1 I (Z21 (vs := [(Zx v9.1), (.int .i64 v9.2)]) (v := (Zx v9.1)) I I I) I <| Z1 I (Z21 (vs := [(Zx v9.1), (.int .i64 v9.2)]) (v := (.int .i64 v9.2)) I I I) I <| Z1 I (Z22 (cs := [(.int .i64 0), (.sl 2 [] false)]) I z83 I I I) I <| Z1 I (Z1j (cs := [(.int .i64 0), (.sl 2 [] false)]) (vs := (Zx v9.1).cells) (ds := (Zx v9.1).cells) (v := (Zx v9.1)) sz83 I I I I I I I I) I <| Z1 I (Zi (v := (.int .i64 v9.2)) I I) I <| Ze ?_
  refine Zf <| Zg <| Za <| Z1 I (Z1q (cs := (Zx v9.1).cells) (vs := (Zx v9.1).cells) I a83 I I I I) I <| Z1 I (Z1j (cs := [(.int .i64 0), (.sl 2 [] false)]) (vs := (Zx v9.1).cells) (ds := (Zx v9.1).cells) (v := (Zx v9.1)) sz83 I I I I I I I I) I <| Ze <| Zf <| Z1a ?_
  have h := Option.some.inj h
  subst h
  refine (hret _ ?_).1
  exact ⟨[(Zx v9.1)], ⟨⟨2, _, rfl, rfl, .inr ⟨_, a83, rfl, rfl⟩⟩, trivial⟩, rfl, trivial⟩
 ·intro N k4 v h IH4 J4
  obtain ⟨v2, v3⟩ := v
  try dsimp only at h IH4 J4 ⊢
  cases k4 with
  | zero => cases h
  | succ k4 =>
   rw [Z78] at h
   refine Zg <| Za <| Z1 I (Z1w (k := .i64) (a := v2) (b := (a0.Edges.length : Int)) (c := (decide (v2 < (a0.Edges.length : Int)))) I I I I) I <| Ze <| Zf <| Zg ?_
   have hif := Z1y h
   refine Z13 I (fun hc => ?_) (fun hc => ?_)
   ·have h := hif.1 hc
    refine Z16 <| Zf <| Zg <| AWp.block <| Zg <| Za ?_
    have ⟨hg11, h⟩ := Zv h
    refine Z1 I (Z1s (k := .i64) (l := a0.Edges) (enc := Zk) (z := Zj) (n := v2) (cs := (Zk (a0.Edges.getD v2.toNat Zj)).cells) (full := false) I s81 I I hg11 I) I <| Z1 I (Z2k (cs := (Zk (a0.Edges.getD v2.toNat Zj)).cells) (vs := (Zk (a0.Edges.getD v2.toNat Zj)).cells) I a86 I I I) I <| Z1 I (Z22 (cs := [(.int .i64 0), (.int .i64 0)]) I z86 I I I) I <| Z1 I (Z1j (cs := [(.int .i64 0), (.int .i64 0)]) (vs := (Zk (a0.Edges.getD v2.toNat Zj)).cells) (ds := (Zk (a0.Edges.getD v2.toNat Zj)).cells) (v := (Zk (a0.Edges.getD v2.toNat Zj))) sz86 I I I I I I I I) I <| Ze <| Zf <| Za <| Z1 I (Zh (v := (.vs 3)) I I) I ?_
    refine Z1 I (Zp (m := 5) (o := 0) I f86_1 I I) I <| Z1 I (Zu (cs := (Zk (a0.Edges.getD v2.toNat Zj)).cells) (v := (.int .i64 (a0.Edges.getD v2.toNat Zj).To)) I o3 I I I) I <| Z1 I (Zp (m := 5) (o := 0) I f86_0 I I) I <| Z1 I (Zu (cs := (Zk (a0.Edges.getD v2.toNat Zj)).cells) (v := (.int .i64 (a0.Edges.getD v2.toNat Zj).From)) I o3 I I I) I <| Z1 I (Z29 (vs := [(0, (.int .i64 (a0.Edges.getD v2.toNat Zj).To)), (1, (.int .i64 (a0.Edges.getD v2.toNat Zj).From))]) (cs := [(.int .i64 (a0.Edges.getD v2.toNat Zj).To), (.int .i64 (a0.Edges.getD v2.toNat Zj).From)]) I st86 ⟨rfl, rfl, rfl, rfl, trivial⟩ I) I <| Z1 I (Z1d (vs := [(.ag [(.int .i64 (a0.Edges.getD v2.toNat Zj).To), (.int .i64 (a0.Edges.getD v2.toNat Zj).From)])]) (enc := Zk) (l := [(⟨(a0.Edges.getD v2.toNat Zj).To, (a0.Edges.getD v2.toNat Zj).From⟩ : Zr)]) I el81 I I ⟨rfl, trivial⟩ I Z2p I I I I) I ?_
    have ⟨hg12, h⟩ := Zv h
    refine Z1 I (Z2g (m := 3) (enc := Zk) (l := v3) (l' := [(⟨(a0.Edges.getD v2.toNat Zj).To, (a0.Edges.getD v2.toNat Zj).From⟩ : Zr)]) (src := (.vs 25)) (rd := [(25, (.vec 2 (List.map Zk [(⟨(a0.Edges.getD v2.toNat Zj).To, (a0.Edges.getD v2.toNat Zj).From⟩ : Zr)])))]) I I el81 I u81 I I I I (oneRead I) Z2p hg12) I <| Z1 I (Zi (v := (.vs 3)) I I) I <| Ze <| At.end <| Zf <| Za <| Z1 I (Z1n (k := .i64) (a := v2) (b := 1) (c := (IntKind.i64.wrap (v2 + 1))) I I I I) I <| Z1 I (Zh (v := (.int .i64 (IntKind.i64.wrap (v2 + 1)))) I I) I ?_
    refine Ze ?_
    exact Zw (st' := ⟨[(1, (.ptr 1 0)), (2, (.ptr 2 0)), (3, (.vs 3)), (13, (.sl 2 (a0.Edges.map Zk) false)), (14, (.int .i64 (a0.Edges.length : Int))), (15, (.int .i64 (IntKind.i64.wrap (v2 + 1))))], [(1, (.box (Zx a0).cells)), (2, (.box [(.int .i64 0), (.sl 2 [] false)])), (3, (.vec 2 (List.map Zk (v3 ++ [(⟨(a0.Edges.getD v2.toNat Zj).To, (a0.Edges.getD v2.toNat Zj).From⟩ : Zr)]))))]⟩) ⟨rfl, rfl, rfl, rfl, rfl, rfl, trivial⟩ ⟨rfl, rfl, rfl, trivial⟩ (IH4 _ ((IntKind.i64.wrap (v2 + 1)), (v3 ++ [(⟨(a0.Edges.getD v2.toNat Zj).To, (a0.Edges.getD v2.toNat Zj).From⟩ : Zr)])) (Nat.lt_succ_self _) h)
   ·have h := hif.2 hc
    refine AWp.exit <| At.thru ?_
    exact Zw (st' := ⟨[(1, (.ptr 1 0)), (2, (.ptr 2 0)), (3, (.vs 3))], [(1, (.box (Zx a0).cells)), (2, (.box [(.int .i64 0), (.sl 2 [] false)])), (3, (.vec 2 (List.map Zk v3)))]⟩) ⟨rfl, rfl, rfl, trivial⟩ ⟨rfl, rfl, rfl, trivial⟩ (J4 v3 h)
def Z7k (K : Nat) (v3 : (List Int)) : Option ((List Int)) :=
 some v3
def Z6u (K : Nat) (b6 : (List Int) → Option ((List Int))) (v12 : (List Int)) : Option ((List Int)) :=
 b6 v12
def Z6s (K : Nat) (a0 : (List (List Int))) (v1 : (List Int)) (a1 : (List Int)) (a3 : Int) (c14 : (List Int) → Option ((List Int))) : Nat → Int → Option ((List Int))
 | 0, _ => none
 | k11 + 1, v10 =>
  if (decide (v10 < ((a0.getD (v1.getD (IntKind.i64.wrap ((v1.length : Int) - 1)).toNat 0).toNat []).length : Int))) = true then
   if (0 : Int) ≤ v10 ∧ v10 < (a0.getD (v1.getD (IntKind.i64.wrap ((v1.length : Int) - 1)).toNat 0).toNat []).length then
    if (0 : Int) ≤ ((a0.getD (v1.getD (IntKind.i64.wrap ((v1.length : Int) - 1)).toNat 0).toNat []).getD v10.toNat 0) ∧ ((a0.getD (v1.getD (IntKind.i64.wrap ((v1.length : Int) - 1)).toNat 0).toNat []).getD v10.toNat 0) < a1.length then
     if ((a1.getD ((a0.getD (v1.getD (IntKind.i64.wrap ((v1.length : Int) - 1)).toNat 0).toNat []).getD v10.toNat 0).toNat 0) == (IntKind.i64.wrap ((IntKind.i64.wrap (a3 - (v1.length : Int))) - 1))) = true then
      if v1.length + ([((a0.getD (v1.getD (IntKind.i64.wrap ((v1.length : Int) - 1)).toNat 0).toNat []).getD v10.toNat 0)]).length ≤ 1073741824 then
       c14 (v1 ++ ([((a0.getD (v1.getD (IntKind.i64.wrap ((v1.length : Int) - 1)).toNat 0).toNat []).getD v10.toNat 0)]))
      else none
     else
      (Z6s K a0 v1 a1 a3 c14 k11) (IntKind.i64.wrap (v10 + 1))
    else none
   else none
  else
   c14 v1
def Z51 (K : Nat) (a3 : Int) (a0 : (List (List Int))) (a1 : (List Int)) (c5 : (List Int) → Option ((List Int))) : Nat → (List Int) → Option ((List Int))
 | 0, _ => none
 | k2 + 1, v1 =>
  if (decide ((v1.length : Int) < a3)) = true then
   if (0 : Int) ≤ (IntKind.i64.wrap ((v1.length : Int) - 1)) ∧ (IntKind.i64.wrap ((v1.length : Int) - 1)) < (v1.length : Nat) then
    if (IntKind.i64.wrap ((v1.length : Int) - 1)).toNat < v1.length then
     if (0 : Int) ≤ (v1.getD (IntKind.i64.wrap ((v1.length : Int) - 1)).toNat 0) ∧ (v1.getD (IntKind.i64.wrap ((v1.length : Int) - 1)).toNat 0) < a0.length then
      Z6s K a0 v1 a1 a3 (Z6u K (Z51 K a3 a0 a1 c5 k2)) K 0
     else none
    else none
   else none
  else
   c5 v1
def F115 (K : Nat) (a0 : (List (List Int))) (a1 : (List Int)) (a2 : Int) (a3 : Int) : Option ((List Int)) :=
 Z51 K a3 a0 a1 (Z7k K) K [a2]
theorem F115_ok (K : Nat) (a0 : (List (List Int))) (a1 : (List Int)) (a2 : Int) (a3 : Int) (r : (List Int)) (h : F115 K a0 a1 a2 a3 = some r) : ACall P 115 ⟨[(.sl 1 (a0.map Z1x) false), (.sl 1 (a1.map Z15) false), (.int .i64 a2), (.int .i64 a3)], [], (.sl 1 (r.map Z15) false), [], []⟩ := by
 refine Z1p Tryz.func115 Tryz.results115 rfl Tryz.ntmps115 rfl rfl rfl ?_
 intro E Q hP hN hro hret
 obtain ⟨P', nt', w0, F0, p0, S0, β0, ro0⟩ := E
 simp only at hP hN
 subst hP hN
 dsimp only [argT]
 unfold F115 at h
 refine Zg <| Za <| Z1 I (Zi (v := (.sl 1 [] false)) I I) I <| Ze <| Zf <| Zg <| Za <| Z1 I (Zh (v := (.int .i64 a2)) I I) I ?_
 refine Z1 I (Z1d (vs := [(.int .i64 a2)]) (enc := Z15) (l := [a2]) I el65 I I ⟨rfl, trivial⟩ I Z2y I I I I) I <| Z1 I (Zi (v := (.vs 13)) I I) I <| Ze <| Zf <| Zg <| AWp.ghost (st' := ⟨[(0, (.sl 1 (a0.map Z1x) false)), (1, (.sl 1 (a1.map Z15) false)), (3, (.int .i64 a3)), (9, (.vs 9))], [(9, (.vec 1 (List.map Z15 [a2])))]⟩) (fun a w h => (Z1c ⟨[(0, (.sl 1 (a0.map Z1x) false)), (1, (.sl 1 (a1.map Z15) false)), (3, (.int .i64 a3)), (9, (.vs 9))], [(9, (.vec 1 (List.map Z15 [a2])))]⟩ (Z42 (a := 13) (b := 9) I I a w (Z1c ⟨[(0, (.sl 1 (a0.map Z1x) false)), (1, (.sl 1 (a1.map Z15) false)), (3, (.int .i64 a3)), (9, (.vs 13))], [(13, (.vec 1 (List.map Z15 [a2])))]⟩ h ⟨rfl, rfl, rfl, rfl, trivial⟩ ⟨rfl, trivial⟩)) ⟨rfl, rfl, rfl, rfl, trivial⟩ ⟨rfl, trivial⟩)) <| Z1t (st' := ⟨[(0, (.sl 1 (a0.map Z1x) false)), (1, (.sl 1 (a1.map Z15) false)), (3, (.int .i64 a3)), (9, (.vs 9))], [(9, (.vec 1 (List.map Z15 [a2])))]⟩) ⟨rfl, rfl, rfl, rfl, trivial⟩ ⟨rfl, trivial⟩ ?_
 refine Z1h (V := (List Int)) (X := (List Int)) (lp := fun k v => Z51 K a3 a0 a1 (Z7k K) k v = some r) (sh := fun v => ⟨[(0, (.sl 1 (a0.map Z1x) false)), (1, (.sl 1 (a1.map Z15) false)), (3, (.int .i64 a3)), (9, (.vs 9))], [(9, (.vec 1 (List.map Z15 v)))]⟩) (x := fun v => Z7k K v = some r) (shx := fun v => ⟨[(9, (.vs 9))], [(9, (.vec 1 (List.map Z15 v)))]⟩) (k := K) (v := [a2]) h ?_ ?_
 ·intro v h
  revert h
  revert v
  intro v3 h
  try dsimp only at h ⊢
  unfold Z7k at h
  refine Zf <| Zg <| Za <| Z1 I (Zh (v := (.vs 9)) I I) I <| Z1 I (Zi (v := (.vs 9)) I I) I <| Ze <| Zf <| Z1a ?_
  refine At.ghost (st' := ⟨[(8, (.sl 1 (v3.map Z15) false))], []⟩) (fun a w h => (Z1c ⟨[(8, (.sl 1 (v3.map Z15) false))], []⟩ (Z27 (m := 9) (sz := 1) (es := (List.map Z15 v3)) a w (Z1c ⟨[(8, (.vs 9))], [(9, (.vec 1 (List.map Z15 v3)))]⟩ h ⟨rfl, trivial⟩ ⟨rfl, trivial⟩)) ⟨rfl, trivial⟩ trivial)) ?_
  have h := Option.some.inj h
  subst h
  refine (hret _ ?_).1
  exact ⟨[(.sl 1 (v3.map Z15) false)], ⟨rfl, trivial⟩, rfl, trivial⟩
 ·intro N k2 v h IH2 J2
  revert h
  revert v
  intro v1 h
  try dsimp only at h IH2 J2 ⊢
  cases k2 with
  | zero => cases h
  | succ k2 =>
   rw [Z51] at h
   refine Zg <| Zg <| Za <| Z1 I (Zh (v := (.vs 9)) I I) I <| Z1 I (Z3u (l := v1) (enc := Z15) I u65 I I) I <| Z1 I (Zh (v := (.int .i64 a3)) I I) I <| Z1 I (Z1w (k := .i64) (a := (v1.length : Int)) (b := a3) (c := (decide ((v1.length : Int) < a3))) I I I I) I <| Ze ?_
   refine Zf ?_
   have hif := Z1y h
   refine Z13 I (fun hc => ?_) (fun hc => ?_)
   ·have h := hif.1 hc
    refine Z16 <| Zf <| AWp.block <| Zg <| Za <| Z1 I (Zh (v := (.sl 1 (a0.map Z1x) false)) I I) I <| Z1 I (Zh (v := (.vs 9)) I I) I <| Z1 I (Zh (v := (.vs 9)) I I) I ?_
    refine Z1 I (Z3u (l := v1) (enc := Z15) I u65 I I) I <| Z1 I (Z1n (k := .i64) (a := (v1.length : Int)) (b := 1) (c := (IntKind.i64.wrap ((v1.length : Int) - 1))) I I I I) I ?_
    have ⟨hg7, h⟩ := Zv h
    refine Z1 I (Z2h (k := .i64) (v := (.vs 9)) (n := 9) (off := 0) (len := v1.length) (es := (List.map Z15 v1)) (j := (IntKind.i64.wrap ((v1.length : Int) - 1))) (m := (IntKind.i64.wrap ((v1.length : Int) - 1)).toNat) I s65 I I (Z2o _ _ _) I hg7 (Nat.zero_add _)) I ?_
    have ⟨hg8, h⟩ := Zv h
    refine Z1 I (Z4g (l := v1) (enc := Z15) (z := 0) (v := (.int .i64 (v1.getD (IntKind.i64.wrap ((v1.length : Int) - 1)).toNat 0))) I o3 I I hg8 I) I ?_
    have ⟨hg9, h⟩ := Zv h
    refine Z1 I (Z1s (k := .i64) (l := a0) (enc := Z1x) (z := []) (n := (v1.getD (IntKind.i64.wrap ((v1.length : Int) - 1)).toNat 0)) (cs := [(.sl 1 ((a0.getD (v1.getD (IntKind.i64.wrap ((v1.length : Int) - 1)).toNat 0).toNat []).map Z15) false)]) (full := false) I s168 I I hg9 I) I <| Z1 I (Z26 (cs := [(.sl 1 ((a0.getD (v1.getD (IntKind.i64.wrap ((v1.length : Int) - 1)).toNat 0).toNat []).map Z15) false)]) (v := (.sl 1 ((a0.getD (v1.getD (IntKind.i64.wrap ((v1.length : Int) - 1)).toNat 0).toNat []).map Z15) false)) I o65 I I) I <| Z1 I (Z24 (l := (a0.getD (v1.getD (IntKind.i64.wrap ((v1.length : Int) - 1)).toNat 0).toNat [])) (enc := Z15) I s65 I) I <| Z1 I (Zh (v := (.int .i64 0)) I I) I <| Ze <| Zf <| Z1t (st' := ⟨[(0, (.sl 1 (a0.map Z1x) false)), (1, (.sl 1 (a1.map Z15) false)), (3, (.int .i64 a3)), (9, (.vs 9)), (26, (.sl 1 ((a0.getD (v1.getD (IntKind.i64.wrap ((v1.length : Int) - 1)).toNat 0).toNat []).map Z15) false)), (27, (.int .i64 ((a0.getD (v1.getD (IntKind.i64.wrap ((v1.length : Int) - 1)).toNat 0).toNat []).length : Int))), (28, (.int .i64 0))], [(9, (.vec 1 (List.map Z15 v1)))]⟩) ⟨rfl, rfl, rfl, rfl, rfl, rfl, rfl, trivial⟩ ⟨rfl, trivial⟩ ?_
    refine Z1h (V := Int) (X := (List Int)) (lp := fun k v => Z6s K a0 v1 a1 a3 (Z6u K (Z51 K a3 a0 a1 (Z7k K) k2)) k v = some r) (sh := fun v => ⟨[(0, (.sl 1 (a0.map Z1x) false)), (1, (.sl 1 (a1.map Z15) false)), (3, (.int .i64 a3)), (9, (.vs 9)), (26, (.sl 1 ((a0.getD (v1.getD (IntKind.i64.wrap ((v1.length : Int) - 1)).toNat 0).toNat []).map Z15) false)), (27, (.int .i64 ((a0.getD (v1.getD (IntKind.i64.wrap ((v1.length : Int) - 1)).toNat 0).toNat []).length : Int))), (28, (.int .i64 v))], [(9, (.vec 1 (List.map Z15 v1)))]⟩) (x := fun v => Z6u K (Z51 K a3 a0 a1 (Z7k K) k2) v = some r) (shx := fun v => ⟨[(0, (.sl 1 (a0.map Z1x) false)), (1, (.sl 1 (a1.map Z15) false)), (3, (.int .i64 a3)), (9, (.vs 9))], [(9, (.vec 1 (List.map Z15 v)))]⟩) (k := K) (v := 0) h ?_ ?_
    ·intro v h
     revert h
     revert v
     intro v12 h
     try dsimp only at h ⊢
     unfold Z6u at h
     refine At.end ?_
     exact Zw (st' := ⟨[(0, (.sl 1 (a0.map Z1x) false)), (1, (.sl 1 (a1.map Z15) false)), (3, (.int .i64 a3)), (9, (.vs 9))], [(9, (.vec 1 (List.map Z15 v12)))]⟩) ⟨rfl, rfl, rfl, rfl, trivial⟩ ⟨rfl, trivial⟩ (IH2 _ v12 (Nat.lt_succ_self _) h)
    ·intro N k11 v h IH11 J11
     revert h
     revert v
     intro v10 h
     try dsimp only at h IH11 J11 ⊢
     cases k11 with
     | zero => cases h
     | succ k11 =>
      rw [Z6s] at h
      refine Zg <| Za <| Z1 I (Z1w (k := .i64) (a := v10) (b := ((a0.getD (v1.getD (IntKind.i64.wrap ((v1.length : Int) - 1)).toNat 0).toNat []).length : Int)) (c := (decide (v10 < ((a0.getD (v1.getD (IntKind.i64.wrap ((v1.length : Int) - 1)).toNat 0).toNat []).length : Int)))) I I I I) I <| Ze <| Zf <| Zg ?_
      have hif := Z1y h
      refine Z13 I (fun hc => ?_) (fun hc => ?_)
      ·have h := hif.1 hc
       refine Z16 <| Zf <| Zg <| AWp.block <| Zg <| Za ?_
       have ⟨hg16, h⟩ := Zv h
       refine Z1 I (Z1s (k := .i64) (l := (a0.getD (v1.getD (IntKind.i64.wrap ((v1.length : Int) - 1)).toNat 0).toNat [])) (enc := Z15) (z := 0) (n := v10) (cs := [(.int .i64 ((a0.getD (v1.getD (IntKind.i64.wrap ((v1.length : Int) - 1)).toNat 0).toNat []).getD v10.toNat 0))]) (full := false) I s65 I I hg16 I) I <| Z1 I (Z26 (cs := [(.int .i64 ((a0.getD (v1.getD (IntKind.i64.wrap ((v1.length : Int) - 1)).toNat 0).toNat []).getD v10.toNat 0))]) (v := (.int .i64 ((a0.getD (v1.getD (IntKind.i64.wrap ((v1.length : Int) - 1)).toNat 0).toNat []).getD v10.toNat 0))) I o3 I I) I <| Z1 I (Zi (v := (.int .i64 ((a0.getD (v1.getD (IntKind.i64.wrap ((v1.length : Int) - 1)).toNat 0).toNat []).getD v10.toNat 0))) I I) I <| Ze <| Zf <| Zg <| Za <| Z1 I (Zh (v := (.sl 1 (a1.map Z15) false)) I I) I ?_
       refine Z1 I (Zh (v := (.int .i64 ((a0.getD (v1.getD (IntKind.i64.wrap ((v1.length : Int) - 1)).toNat 0).toNat []).getD v10.toNat 0))) I I) I ?_
       have ⟨hg17, h⟩ := Zv h
       refine Z1 I (Z1s (k := .i64) (l := a1) (enc := Z15) (z := 0) (n := ((a0.getD (v1.getD (IntKind.i64.wrap ((v1.length : Int) - 1)).toNat 0).toNat []).getD v10.toNat 0)) (cs := [(.int .i64 (a1.getD ((a0.getD (v1.getD (IntKind.i64.wrap ((v1.length : Int) - 1)).toNat 0).toNat []).getD v10.toNat 0).toNat 0))]) (full := false) I s65 I I hg17 I) I <| Z1 I (Z26 (cs := [(.int .i64 (a1.getD ((a0.getD (v1.getD (IntKind.i64.wrap ((v1.length : Int) - 1)).toNat 0).toNat []).getD v10.toNat 0).toNat 0))]) (v := (.int .i64 (a1.getD ((a0.getD (v1.getD (IntKind.i64.wrap ((v1.length : Int) - 1)).toNat 0).toNat []).getD v10.toNat 0).toNat 0))) I o3 I I) I <| Z1 I (Zh (v := (.int .i64 a3)) I I) I <| Z1 I (Zh (v := (.vs 9)) I I) I <| Z1 I (Z3u (l := v1) (enc := Z15) I u65 I I) I <| Z1 I (Z1n (k := .i64) (a := a3) (b := (v1.length : Int)) (c := (IntKind.i64.wrap (a3 - (v1.length : Int)))) I I I I) I <| Z1 I (Z1n (k := .i64) (a := (IntKind.i64.wrap (a3 - (v1.length : Int)))) (b := 1) (c := (IntKind.i64.wrap ((IntKind.i64.wrap (a3 - (v1.length : Int))) - 1))) I I I I) I <| Z1 I (Z1w (k := .i64) (a := (a1.getD ((a0.getD (v1.getD (IntKind.i64.wrap ((v1.length : Int) - 1)).toNat 0).toNat []).getD v10.toNat 0).toNat 0)) (b := (IntKind.i64.wrap ((IntKind.i64.wrap (a3 - (v1.length : Int))) - 1))) (c := ((a1.getD ((a0.getD (v1.getD (IntKind.i64.wrap ((v1.length : Int) - 1)).toNat 0).toNat []).getD v10.toNat 0).toNat 0) == (IntKind.i64.wrap ((IntKind.i64.wrap (a3 - (v1.length : Int))) - 1)))) I I I I) I ?_
       refine Ze <| Zf ?_
       have hif := Z1y h
       refine Z13 I (fun hc => ?_) (fun hc => ?_)
       ·have h := hif.1 hc
        refine Zg <| Za <| Z1 I (Zh (v := (.vs 9)) I I) I <| Z1 I (Zh (v := (.int .i64 ((a0.getD (v1.getD (IntKind.i64.wrap ((v1.length : Int) - 1)).toNat 0).toNat []).getD v10.toNat 0))) I I) I <| Z1 I (Z1d (vs := [(.int .i64 ((a0.getD (v1.getD (IntKind.i64.wrap ((v1.length : Int) - 1)).toNat 0).toNat []).getD v10.toNat 0))]) (enc := Z15) (l := [((a0.getD (v1.getD (IntKind.i64.wrap ((v1.length : Int) - 1)).toNat 0).toNat []).getD v10.toNat 0)]) I el65 I I ⟨rfl, trivial⟩ I Z2y I I I I) I ?_
        have ⟨hg18, h⟩ := Zv h
        refine Z1 I (Z2g (m := 9) (enc := Z15) (l := v1) (l' := ([((a0.getD (v1.getD (IntKind.i64.wrap ((v1.length : Int) - 1)).toNat 0).toNat []).getD v10.toNat 0)])) (src := (.vs 44)) (rd := [(44, (.vec 1 (List.map Z15 ([((a0.getD (v1.getD (IntKind.i64.wrap ((v1.length : Int) - 1)).toNat 0).toNat []).getD v10.toNat 0)]))))]) I I el65 I u65 I I I I (oneRead I) Z2y hg18) I <| Z1 I (Zi (v := (.vs 9)) I I) I <| Ze <| Zf <| AWp.exit <| At.over I <| At.thru ?_
        exact Zw (st' := ⟨[(0, (.sl 1 (a0.map Z1x) false)), (1, (.sl 1 (a1.map Z15) false)), (3, (.int .i64 a3)), (9, (.vs 9))], [(9, (.vec 1 (List.map Z15 (v1 ++ ([((a0.getD (v1.getD (IntKind.i64.wrap ((v1.length : Int) - 1)).toNat 0).toNat []).getD v10.toNat 0)])))))]⟩) ⟨rfl, rfl, rfl, rfl, trivial⟩ ⟨rfl, trivial⟩ (J11 (v1 ++ ([((a0.getD (v1.getD (IntKind.i64.wrap ((v1.length : Int) - 1)).toNat 0).toNat []).getD v10.toNat 0)])) h)
       ·have h := hif.2 hc
        refine Z16 <| At.end <| Zf <| Za <| Z1 I (Z1n (k := .i64) (a := v10) (b := 1) (c := (IntKind.i64.wrap (v10 + 1))) I I I I) I <| Z1 I (Zh (v := (.int .i64 (IntKind.i64.wrap (v10 + 1)))) I I) I <| Ze ?_
        exact Zw (st' := ⟨[(0, (.sl 1 (a0.map Z1x) false)), (1, (.sl 1 (a1.map Z15) false)), (3, (.int .i64 a3)), (9, (.vs 9)), (26, (.sl 1 ((a0.getD (v1.getD (IntKind.i64.wrap ((v1.length : Int) - 1)).toNat 0).toNat []).map Z15) false)), (27, (.int .i64 ((a0.getD (v1.getD (IntKind.i64.wrap ((v1.length : Int) - 1)).toNat 0).toNat []).length : Int))), (28, (.int .i64 (IntKind.i64.wrap (v10 + 1))))], [(9, (.vec 1 (List.map Z15 v1)))]⟩) ⟨rfl, rfl, rfl, rfl, rfl, rfl, rfl, trivial⟩ ⟨rfl, trivial⟩ (IH11 _ (IntKind.i64.wrap (v10 + 1)) (Nat.lt_succ_self _) h)
      ·have h := hif.2 hc
       refine AWp.exit <| At.thru ?_
       exact Zw (st' := ⟨[(0, (.sl 1 (a0.map Z1x) false)), (1, (.sl 1 (a1.map Z15) false)), (3, (.int .i64 a3)), (9, (.vs 9))], [(9, (.vec 1 (List.map Z15 v1)))]⟩) ⟨rfl, rfl, rfl, rfl, trivial⟩ ⟨rfl, trivial⟩ (J11 v1 h)
   ·have h := hif.2 hc
    refine AWp.exit <| At.thru ?_
    exact Zw (st' := ⟨[(9, (.vs 9))], [(9, (.vec 1 (List.map Z15 v1)))]⟩) ⟨rfl, trivial⟩ ⟨rfl, trivial⟩ (J2 v1 h)
def F74 (K : Nat) (a0 : Z18) (a1 : Int) (a2 : Int) : Option ((List Int) × Int) :=
 (F111 K a0 a1).bind fun v2 =>
  if (!v2) = true then
   some ([], 10)
  else
   (F111 K a0 a2).bind fun v4 =>
    if (!v4) = true then
     some ([], 10)
    else
     (F114 K a0).bind fun v6 =>
      (F113 K v6).bind fun v8 =>
       (F112 K v8 [a2] (Int.negSucc 0)).bind fun v10 =>
        if (0 : Int) ≤ a1 ∧ a1 < v10.length then
         if (decide ((v10.getD a1.toNat 0) < 0)) = true then
          some ([], 22)
         else
          (F113 K a0).bind fun v13 =>
           if (0 : Int) ≤ a1 ∧ a1 < v10.length then
            (F115 K v13 v10 a1 (IntKind.i64.wrap ((v10.getD a1.toNat 0) + 1))).bind fun v16 =>
             some (v16, 0)
           else none
        else none
theorem F74_ok (K : Nat) (a0 : Z18) (a1 : Int) (a2 : Int) (r : (List Int) × Int) (h : F74 K a0 a1 a2 = some r) : ACall P 74 ⟨[(Zx a0), (.int .i64 a1), (.int .i64 a2)], [], (.tup [(.sl 1 (r.1.map Z15) false), (.int .i64 r.2)]), [], []⟩ := by
 refine Z1p Tryz.func74 Tryz.results74 rfl Tryz.ntmps74 rfl rfl rfl ?_
 intro E Q hP hN hro hret
 obtain ⟨P', nt', w0, F0, p0, S0, β0, ro0⟩ := E
 simp only at hP hN
 subst hP hN
 dsimp only [argT]
 unfold F74 at h
 refine Zg <| Za <| Z1 I (Z2l (v := (Zx a0)) (cs := (Zx a0).cells) I I I I I) I <| Z1 I (Zi (v := (.sl 1 [] false)) I I) I <| Z1 I (Zi (v := (.int .i64 0)) I I) I <| Ze <| Zf <| Zg ?_
 refine Zg <| Za <| Z1 I (Z1q (cs := (Zx a0).cells) (vs := (Zx a0).cells) I a83 I I I I) I <| Z1 I (Zh (v := (.int .i64 a1)) I I) I ?_
 have ⟨v2, hv2, h⟩ := Z1g h
 refine Z1 I (Z1i (ar := [(Zx a0), (.int .i64 a1)]) (caps := []) Tryz.call111 (F111_ok K a0 a1 v2 hv2) I I ⟨rfl, rfl, trivial⟩ I) I <| Z1 I (Z86 (b := v2) I I) I <| Z1 I (Zh (v := (.bool (!v2))) I I) I ?_
 have hif := Z1y h
 refine AOps.split (fun hc => ?_) (fun hc => ?_)
 ·have h := hif.1 hc
  refine Zt I I I I I I I <| Zt I I I I I I I <| Zt I I I I I I I <| Zt I I I I I I I <| Z1 I (Z2d (v := (.bool true)) I I I) I <| Ze <| Zf ?_
  refine Z13 (b := true) I (fun hc => ?_) (fun hc => ?_)
  rotate_left
  ·cases hc
  refine Zg <| Za <| Z1 I (Zi (v := (.sl 1 [] false)) I I) I <| Z1 I (Zi (v := (.int .i64 10)) I I) I <| Ze <| Zf <| Z1a <| Z1b ?_
  have h := Option.some.inj h
  subst h
  refine (hret _ ?_).1
  exact ⟨[(.sl 1 [] false), (.int .i64 10)], ⟨rfl, rfl, trivial⟩, rfl, trivial⟩
 ·have h := hif.2 hc
  refine Zy I I I I (Z1q (cs := (Zx a0).cells) (vs := (Zx a0).cells) I a83 I I I I) I <| Zy I I I I (Zh (v := (.int .i64 a2)) I I) I ?_
  have ⟨v4, hv4, h⟩ := Z1g h
  refine Zy I I I I (Z1i (ar := [(Zx a0), (.int .i64 a2)]) (caps := []) Tryz.call111 (F111_ok K a0 a2 v4 hv4) I I ⟨rfl, rfl, trivial⟩ I) I <| Zy I I I I (Z86 (b := v4) I I) I <| Z1 I (Z2a (v := (.bool (!v4))) I I I) I <| Ze <| Zf ?_
  have hif := Z1y h
  refine Z13 I (fun hc => ?_) (fun hc => ?_)
  ·have h := hif.1 hc
   refine Zg <| Za <| Z1 I (Zi (v := (.sl 1 [] false)) I I) I <| Z1 I (Zi (v := (.int .i64 10)) I I) I <| Ze <| Zf <| Z1a <| Z1b ?_
   have h := Option.some.inj h
   subst h
   refine (hret _ ?_).1
   exact ⟨[(.sl 1 [] false), (.int .i64 10)], ⟨rfl, rfl, trivial⟩, rfl, trivial⟩
  ·have h := hif.2 hc
   refine Z16 <| Zf <| Zg <| Za <| Z1 I (Z1q (cs := (Zx a0).cells) (vs := (Zx a0).cells) I a83 I I I I) I ?_
   have ⟨v6, hv6, h⟩ := Z1g h
   refine Z1 I (Z1i (ar := [(Zx a0)]) (caps := []) Tryz.call114 (F114_ok K a0 v6 hv6) I I ⟨rfl, trivial⟩ I) I ?_
   have ⟨v8, hv8, h⟩ := Z1g h
   refine Z1 I (Z1i (ar := [(Zx v6)]) (caps := []) Tryz.call113 (F113_ok K v6 v8 hv8) I I ⟨rfl, trivial⟩ I) I <| Z1 I (Zh (v := (.int .i64 a2)) I I) I <| Z1 I (Z1d (vs := [(.int .i64 a2)]) (enc := Z15) (l := [a2]) I el65 I I ⟨rfl, trivial⟩ I Z2y I I I I) I <| AOps.ghost (st' := ⟨[(1, (.int .i64 a1)), (3, (.ptr 3 0)), (21, (.sl 1 (v8.map Z1x) false)), (23, (.sl 1 ([a2].map Z15) false))], [(3, (.box (Zx a0).cells))]⟩) (fun a w h => (Z1c ⟨[(1, (.int .i64 a1)), (3, (.ptr 3 0)), (21, (.sl 1 (v8.map Z1x) false)), (23, (.sl 1 ([a2].map Z15) false))], [(3, (.box (Zx a0).cells))]⟩ (Z27 (m := 23) (sz := 1) (es := (List.map Z15 [a2])) a w (Z1c ⟨[(1, (.int .i64 a1)), (3, (.ptr 3 0)), (21, (.sl 1 (v8.map Z1x) false)), (23, (.vs 23))], [(23, (.vec 1 (List.map Z15 [a2]))), (3, (.box (Zx a0).cells))]⟩ h ⟨rfl, rfl, rfl, rfl, trivial⟩ ⟨rfl, rfl, trivial⟩)) ⟨rfl, rfl, rfl, rfl, trivial⟩ ⟨rfl, trivial⟩)) ?_
   have ⟨v10, hv10, h⟩ := Z1g h
   refine Z1 I (Z1i (ar := [(.sl 1 (v8.map Z1x) false), (.sl 1 ([a2].map Z15) false), (.int .i64 (Int.negSucc 0))]) (caps := []) Tryz.call112 (F112_ok K v8 [a2] (Int.negSucc 0) v10 hv10) I I ⟨rfl, rfl, rfl, trivial⟩ I) I <| Z1 I (Zi (v := (.sl 1 (v10.map Z15) false)) I I) I <| Ze <| Zf <| Zg <| Zg <| Za <| Z1 I (Zh (v := (.sl 1 (v10.map Z15) false)) I I) I ?_
   refine Z1 I (Zh (v := (.int .i64 a1)) I I) I ?_
   have ⟨hg11, h⟩ := Zv h
   refine Z1 I (Z1s (k := .i64) (l := v10) (enc := Z15) (z := 0) (n := a1) (cs := [(.int .i64 (v10.getD a1.toNat 0))]) (full := false) I s65 I I hg11 I) I <| Z1 I (Z26 (cs := [(.int .i64 (v10.getD a1.toNat 0))]) (v := (.int .i64 (v10.getD a1.toNat 0))) I o3 I I) I <| Z1 I (Z1w (k := .i64) (a := (v10.getD a1.toNat 0)) (b := 0) (c := (decide ((v10.getD a1.toNat 0) < 0))) I I I I) I <| Ze <| Zf ?_
   have hif := Z1y h
   refine Z13 I (fun hc => ?_) (fun hc => ?_)
   ·have h := hif.1 hc
    refine Zg <| Za <| Z1 I (Zi (v := (.sl 1 [] false)) I I) I <| Z1 I (Zi (v := (.int .i64 22)) I I) I <| Ze <| Zf <| Z1a <| Z1b ?_
    have h := Option.some.inj h
    subst h
    refine (hret _ ?_).1
    exact ⟨[(.sl 1 [] false), (.int .i64 22)], ⟨rfl, rfl, trivial⟩, rfl, trivial⟩
   ·have h := hif.2 hc
    refine Z16 <| Zf <| Zg <| AWp.regionD mixed <| Z9 0 I (Z1q (cs := (Zx a0).cells) (vs := (Zx a0).cells) I a83 I I I I) ?_
    have ⟨v13, hv13, h⟩ := Z1g h
    refine Z9 1 I (Z1i (ar := [(Zx a0)]) (caps := []) Tryz.call113 (F113_ok K a0 v13 hv13) I I ⟨rfl, trivial⟩ I) <| Z9 2 I (Zh (v := (.sl 1 (v10.map Z15) false)) I I) <| Z9 3 I (Zh (v := (.int .i64 a1)) I I) <| Z9 4 I (Zh (v := (.sl 1 (v10.map Z15) false)) I I) <| Z9 5 I (Zh (v := (.int .i64 a1)) I I) ?_
    have ⟨hg14, h⟩ := Zv h
    refine Z9 6 I (Z1s (k := .i64) (l := v10) (enc := Z15) (z := 0) (n := a1) (cs := [(.int .i64 (v10.getD a1.toNat 0))]) (full := false) I s65 I I hg14 I) <| Z9 7 I (Z26 (cs := [(.int .i64 (v10.getD a1.toNat 0))]) (v := (.int .i64 (v10.getD a1.toNat 0))) I o3 I I) <| Z9 8 I (Z1n (k := .i64) (a := (v10.getD a1.toNat 0)) (b := 1) (c := (IntKind.i64.wrap ((v10.getD a1.toNat 0) + 1))) I I I I) ?_
    have ⟨v16, hv16, h⟩ := Z1g h
    refine Z9 9 I (Z1i (ar := [(.sl 1 (v13.map Z1x) false), (.sl 1 (v10.map Z15) false), (.int .i64 a1), (.int .i64 (IntKind.i64.wrap ((v10.getD a1.toNat 0) + 1)))]) (caps := []) Tryz.call115 (F115_ok K v13 v10 a1 (IntKind.i64.wrap ((v10.getD a1.toNat 0) + 1)) v16 hv16) I I ⟨rfl, rfl, rfl, rfl, trivial⟩ I) <| Z9 10 I (Zi (v := (.sl 1 (v16.map Z15) false)) I I) <| Z9 11 I (Zi (v := (.int .i64 0)) I I) <| AOpsD.nil (by kernel_rfl) I <| Zf <| Z1a ?_
    have h := Option.some.inj h
    subst h
    refine (hret _ ?_).1
    exact ⟨[(.sl 1 (v16.map Z15) false), (.int .i64 0)], ⟨rfl, rfl, trivial⟩, rfl, trivial⟩
def F29 (K : Nat) (a0 : Zb) (a1 : Str) (a2 : Str) : Option ((List Str) × Int) :=
 (F58 K a0 a1).bind fun v2 =>
  (F58 K a0 a2).bind fun v4 =>
   if (!v2.2) = true then
    some ([], 10)
   else
    if (!v4.2) = true then
     some ([], 10)
    else
     (F33 K a0).bind fun v6 =>
      (F74 K v6 v2.1 v4.1).bind fun v8 =>
       if (v8.2 != 0) = true then
        some ([], v8.2)
       else
        (F75 K a0 v8.1).bind fun v10 =>
         some (v10, 0)
theorem F29_ok (K : Nat) (a0 : Zb) (a1 : Str) (a2 : Str) (r : (List Str) × Int) (h : F29 K a0 a1 a2 = some r) : ACall P 29 ⟨[(Z5 a0), (.str a1), (.str a2)], [], (.tup [(.sl 1 (r.1.map Z1f) false), (.int .i64 r.2)]), [], []⟩ := by
 refine Z1p Tryz.func29 Tryz.results29 rfl Tryz.ntmps29 rfl rfl rfl ?_
 intro E Q hP hN hro hret
 obtain ⟨P', nt', w0, F0, p0, S0, β0, ro0⟩ := E
 simp only at hP hN
 subst hP hN
 dsimp only [argT]
 unfold F29 at h
 refine Zg <| Za <| Z1 I (Z2l (v := (Z5 a0)) (cs := (Z5 a0).cells) I I I I I) I <| Z1 I (Zi (v := (.sl 1 [] false)) I I) I <| Z1 I (Zi (v := (.int .i64 0)) I I) I <| Ze <| Zf <| Zg ?_
 refine Za <| Z1 I (Z1q (cs := (Z5 a0).cells) (vs := (Z5 a0).cells) I a44 I I I I) I <| Z1 I (Zh (v := (.str a1)) I I) I ?_
 have ⟨v2, hv2, h⟩ := Z1g h
 refine Z1 I (Z1i (ar := [(Z5 a0), (.str a1)]) (caps := []) Tryz.call58 (F58_ok K a0 a1 v2 hv2) I I ⟨rfl, rfl, trivial⟩ I) I <| Z1 I (Zh (v := (.tup [(.int .i64 v2.1), (.bool v2.2)])) I I) I <| Z1 I (Z21 (vs := [(.int .i64 v2.1), (.bool v2.2)]) (v := (.int .i64 v2.1)) I I I) I <| Z1 I (Z21 (vs := [(.int .i64 v2.1), (.bool v2.2)]) (v := (.bool v2.2)) I I I) I <| Z1 I (Zi (v := (.int .i64 v2.1)) I I) I <| Z1 I (Zi (v := (.bool v2.2)) I I) I <| Ze <| Zf ?_
 refine Zg <| Za <| Z1 I (Z1q (cs := (Z5 a0).cells) (vs := (Z5 a0).cells) I a44 I I I I) I <| Z1 I (Zh (v := (.str a2)) I I) I ?_
 have ⟨v4, hv4, h⟩ := Z1g h
 refine Z1 I (Z1i (ar := [(Z5 a0), (.str a2)]) (caps := []) Tryz.call58 (F58_ok K a0 a2 v4 hv4) I I ⟨rfl, rfl, trivial⟩ I) I <| Z1 I (Zh (v := (.tup [(.int .i64 v4.1), (.bool v4.2)])) I I) I <| Z1 I (Z21 (vs := [(.int .i64 v4.1), (.bool v4.2)]) (v := (.int .i64 v4.1)) I I I) I <| Z1 I (Z21 (vs := [(.int .i64 v4.1), (.bool v4.2)]) (v := (.bool v4.2)) I I I) I <| Z1 I (Zi (v := (.int .i64 v4.1)) I I) I <| Z1 I (Zi (v := (.bool v4.2)) I I) I <| Ze <| Zf ?_
 refine Zg <| Zg <| Za <| Z1 I (Zh (v := (.bool v2.2)) I I) I <| Z1 I (Z86 (b := v2.2) I I) I <| Z1 I (Zh (v := (.bool (!v2.2))) I I) I ?_
 have hif := Z1y h
 refine AOps.split (fun hc => ?_) (fun hc => ?_)
 ·have h := hif.1 hc
  refine Zt I I I I I I I <| Zt I I I I I I I <| Z1 I (Z2d (v := (.bool true)) I I I) I <| Ze <| Zf ?_
  refine Z13 (b := true) I (fun hc => ?_) (fun hc => ?_)
  rotate_left
  ·cases hc
  refine Zg <| Za <| Z1 I (Zi (v := (.sl 1 [] false)) I I) I <| Z1 I (Zi (v := (.int .i64 10)) I I) I <| Ze <| Zf <| Z1a <| Z1b ?_
  have h := Option.some.inj h
  subst h
  refine (hret _ ?_).1
  exact ⟨[(.sl 1 [] false), (.int .i64 10)], ⟨rfl, rfl, trivial⟩, rfl, trivial⟩
 ·have h := hif.2 hc
  refine Zy I I I I (Zh (v := (.bool v4.2)) I I) I <| Zy I I I I (Z86 (b := v4.2) I I) I <| Z1 I (Z2a (v := (.bool (!v4.2))) I I I) I <| Ze <| Zf ?_
  have hif := Z1y h
  refine Z13 I (fun hc => ?_) (fun hc => ?_)
  ·have h := hif.1 hc
   refine Zg <| Za <| Z1 I (Zi (v := (.sl 1 [] false)) I I) I <| Z1 I (Zi (v := (.int .i64 10)) I I) I <| Ze <| Zf <| Z1a <| Z1b ?_
   have h := Option.some.inj h
   subst h
   refine (hret _ ?_).1
   exact ⟨[(.sl 1 [] false), (.int .i64 10)], ⟨rfl, rfl, trivial⟩, rfl, trivial⟩
  ·have h := hif.2 hc
   refine Z16 <| Zf <| Zg <| Za <| Z1 I (Z1q (cs := (Z5 a0).cells) (vs := (Z5 a0).cells) I a44 I I I I) I ?_
   have ⟨v6, hv6, h⟩ := Z1g h
   refine Z1 I (Z1i (ar := [(Z5 a0)]) (caps := []) Tryz.call33 (F33_ok K a0 v6 hv6) I I ⟨rfl, trivial⟩ I) I <| Z1 I (Zh (v := (.int .i64 v2.1)) I I) I <| Z1 I (Zh (v := (.int .i64 v4.1)) I I) I ?_
   have ⟨v8, hv8, h⟩ := Z1g h
   refine Z1 I (Z1i (ar := [(Zx v6), (.int .i64 v2.1), (.int .i64 v4.1)]) (caps := []) Tryz.call74 (F74_ok K v6 v2.1 v4.1 v8 hv8) I I ⟨rfl, rfl, rfl, trivial⟩ I) I <| Z1 I (Zh (v := (.tup [(.sl 1 (v8.1.map Z15) false), (.int .i64 v8.2)])) I I) I <| Z1 I (Z21 (vs := [(.sl 1 (v8.1.map Z15) false), (.int .i64 v8.2)]) (v := (.sl 1 (v8.1.map Z15) false)) I I I) I <| Z1 I (Z21 (vs := [(.sl 1 (v8.1.map Z15) false), (.int .i64 v8.2)]) (v := (.int .i64 v8.2)) I I I) I <| Z1 I (Zi (v := (.sl 1 (v8.1.map Z15) false)) I I) I <| Z1 I (Zi (v := (.int .i64 v8.2)) I I) I <| Ze <| Zf ?_
   refine Zg <| Zg <| Za <| Z1 I (Zh (v := (.int .i64 v8.2)) I I) I <| Z1 I (Z1w (k := .i64) (a := v8.2) (b := 0) (c := (v8.2 != 0)) I I I I) I <| Ze <| Zf ?_
   have hif := Z1y h
   refine Z13 I (fun hc => ?_) (fun hc => ?_)
   ·have h := hif.1 hc
    refine Zg <| Za <| Z1 I (Zh (v := (.int .i64 v8.2)) I I) I <| Z1 I (Zi (v := (.sl 1 [] false)) I I) I <| Z1 I (Zi (v := (.int .i64 v8.2)) I I) I <| Ze <| Zf <| Z1a ?_
    refine Z1b ?_
    have h := Option.some.inj h
    subst h
    refine (hret _ ?_).1
    exact ⟨[(.sl 1 [] false), (.int .i64 v8.2)], ⟨rfl, rfl, trivial⟩, rfl, trivial⟩
   ·have h := hif.2 hc
    refine Z16 <| Zf <| Zg <| Za <| Z1 I (Z1q (cs := (Z5 a0).cells) (vs := (Z5 a0).cells) I a44 I I I I) I <| Z1 I (Zh (v := (.sl 1 (v8.1.map Z15) false)) I I) I ?_
    have ⟨v10, hv10, h⟩ := Z1g h
    refine Z1 I (Z1i (ar := [(Z5 a0), (.sl 1 (v8.1.map Z15) false)]) (caps := []) Tryz.call75 (F75_ok K a0 v8.1 v10 hv10) I I ⟨rfl, rfl, trivial⟩ I) I <| Z1 I (Zi (v := (.sl 1 (v10.map Z1f) false)) I I) I <| Z1 I (Zi (v := (.int .i64 0)) I I) I <| Ze <| Zf <| Z1a ?_
    have h := Option.some.inj h
    subst h
    refine (hret _ ?_).1
    exact ⟨[(.sl 1 (v10.map Z1f) false), (.int .i64 0)], ⟨rfl, rfl, trivial⟩, rfl, trivial⟩
def F28 (K : Nat) (a0 : Zb) (a1 : Str) (a2 : Str) : Option (Int × Int) :=
 (F29 K a0 a1 a2).bind fun v2 =>
  some ((if 0 > (IntKind.i64.wrap ((v2.1.length : Int) - 1)) then 0 else (IntKind.i64.wrap ((v2.1.length : Int) - 1))), v2.2)
theorem F28_ok (K : Nat) (a0 : Zb) (a1 : Str) (a2 : Str) (r : Int × Int) (h : F28 K a0 a1 a2 = some r) : ACall P 28 ⟨[(Z5 a0), (.str a1), (.str a2)], [], (.tup [(.int .i64 r.1), (.int .i64 r.2)]), [], []⟩ := by
 refine Z1p Tryz.func28 Tryz.results28 rfl Tryz.ntmps28 rfl rfl rfl ?_
 intro E Q hP hN hro hret
 obtain ⟨P', nt', w0, F0, p0, S0, β0, ro0⟩ := E
 simp only at hP hN
 subst hP hN
 dsimp only [argT]
 unfold F28 at h
 refine Zg <| Za <| Z1 I (Z2l (v := (Z5 a0)) (cs := (Z5 a0).cells) I I I I I) I <| Z1 I (Zi (v := (.int .i64 0)) I I) I <| Z1 I (Zi (v := (.int .i64 0)) I I) I <| Ze <| Zf <| Zg ?_
 refine Za <| Z1 I (Z1q (cs := (Z5 a0).cells) (vs := (Z5 a0).cells) I a44 I I I I) I <| Z1 I (Zh (v := (.str a1)) I I) I <| Z1 I (Zh (v := (.str a2)) I I) I ?_
 have ⟨v2, hv2, h⟩ := Z1g h
 refine Z1 I (Z1i (ar := [(Z5 a0), (.str a1), (.str a2)]) (caps := []) Tryz.call29 (F29_ok K a0 a1 a2 v2 hv2) I I ⟨rfl, rfl, rfl, trivial⟩ I) I <| Z1 I (Zh (v := (.tup [(.sl 1 (v2.1.map Z1f) false), (.int .i64 v2.2)])) I I) I <| Z1 I (Z21 (vs := [(.sl 1 (v2.1.map Z1f) false), (.int .i64 v2.2)]) (v := (.sl 1 (v2.1.map Z1f) false)) I I I) I <| Z1 I (Z21 (vs := [(.sl 1 (v2.1.map Z1f) false), (.int .i64 v2.2)]) (v := (.int .i64 v2.2)) I I I) I <| Z1 I (Zi (v := (.sl 1 (v2.1.map Z1f) false)) I I) I <| Z1 I (Zi (v := (.int .i64 v2.2)) I I) I <| Ze <| Zf ?_
 refine Zg <| Za <| Z1 I (Zh (v := (.sl 1 (v2.1.map Z1f) false)) I I) I <| Z1 I (Z24 (l := v2.1) (enc := Z1f) I s73 I) I <| Z1 I (Z1n (k := .i64) (a := (v2.1.length : Int)) (b := 1) (c := (IntKind.i64.wrap ((v2.1.length : Int) - 1))) I I I I) I <| Z1 I (st_max (k := .i64) (a := (IntKind.i64.wrap ((v2.1.length : Int) - 1))) (b := 0) I I I) I <| Z1 I (Zh (v := (.int .i64 v2.2)) I I) I <| Z1 I (Zi (v := (.int .i64 (if 0 > (IntKind.i64.wrap ((v2.1.length : Int) - 1)) then 0 else (IntKind.i64.wrap ((v2.1.length : Int) - 1))))) I I) I ?_
 refine Z1 I (Zi (v := (.int .i64 v2.2)) I I) I <| Ze <| Zf <| Z1a ?_
 have h := Option.some.inj h
 subst h
 refine (hret _ ?_).1
 exact ⟨[(.int .i64 (if 0 > (IntKind.i64.wrap ((v2.1.length : Int) - 1)) then 0 else (IntKind.i64.wrap ((v2.1.length : Int) - 1)))), (.int .i64 v2.2)], ⟨rfl, rfl, trivial⟩, rfl, trivial⟩
def Zc3 (K : Nat) : Option (Bool) :=
 some false
def Z9p (K : Nat) (a1 : (List (List Str))) (a2 : Str) (c8 : Option (Bool)) : Nat → Int → Option (Bool)
 | 0, _ => none
 | k6 + 1, v5 =>
  if (decide (v5 < (a1.length : Int))) = true then
   if (0 : Int) ≤ v5 ∧ v5 < a1.length then
    if (0 : Int) ≤ v5 ∧ v5 < a1.length then
     if (0 : Int) ≤ (IntKind.i64.wrap (((a1.getD v5.toNat []).length : Int) - 1)) ∧ (IntKind.i64.wrap (((a1.getD v5.toNat []).length : Int) - 1)) < (a1.getD v5.toNat []).length then
      if (((a1.getD v5.toNat []).getD (IntKind.i64.wrap (((a1.getD v5.toNat []).length : Int) - 1)).toNat []) == a2) = true then
       some true
      else
       (Z9p K a1 a2 c8 k6) (IntKind.i64.wrap (v5 + 1))
     else none
    else none
   else none
  else
   c8
def Zbz (K : Nat) (a1 : (List (List Str))) (a2 : Str) : Option (Bool) :=
 Z9p K a1 a2 (Zc3 K) K 0
def Zb4 (K : Nat) (a0 : (List (List Str))) (a2 : Str) (c4 : Option (Bool)) : Nat → Int → Option (Bool)
 | 0, _ => none
 | k2 + 1, v1 =>
  if (decide (v1 < (a0.length : Int))) = true then
   if (0 : Int) ≤ v1 ∧ v1 < a0.length then
    (F38 K (a0.getD v1.toNat []) a2).bind fun v16 =>
     if v16 = true then
      some true
     else
      (Zb4 K a0 a2 c4 k2) (IntKind.i64.wrap (v1 + 1))
   else none
  else
   c4
def F76 (K : Nat) (a0 : (List (List Str))) (a1 : (List (List Str))) (a2 : Str) : Option (Bool) :=
 Zb4 K a0 a2 (Zbz K a1 a2) K 0
theorem F76_ok (K : Nat) (a0 : (List (List Str))) (a1 : (List (List Str))) (a2 : Str) (r : Bool) (h : F76 K a0 a1 a2 = some r) : ACall P 76 ⟨[(.sl 1 (a0.map Z1r) false), (.sl 1 (a1.map Z1r) false), (.str a2)], [], (.bool r), [], []⟩ := by
 refine Z1p Tryz.func76 Tryz.results76 rfl Tryz.ntmps76 rfl rfl rfl ?_
 intro E Q hP hN hro hret
 obtain ⟨P', nt', w0, F0, p0, S0, β0, ro0⟩ := E
 simp only at hP hN
 subst hP hN
 dsimp only [argT]
 unfold F76 at h
 refine Zg <| Za <| Z1 I (Zi (v := (.bool false)) I I) I <| Ze <| Zf <| Zg <| Zg <| Za ?_
 refine Z1 I (Zi (v := (.int .i64 0)) I I) I <| Ze <| Zf <| Z1t (st' := ⟨[(0, (.sl 1 (a0.map Z1r) false)), (1, (.sl 1 (a1.map Z1r) false)), (2, (.str a2)), (7, (.int .i64 0))], []⟩) ⟨rfl, rfl, rfl, rfl, trivial⟩ trivial ?_
 refine Z1h (V := Int) (X := Unit) (lp := fun k v => Zb4 K a0 a2 (Zbz K a1 a2) k v = some r) (sh := fun v => ⟨[(0, (.sl 1 (a0.map Z1r) false)), (1, (.sl 1 (a1.map Z1r) false)), (2, (.str a2)), (7, (.int .i64 v))], []⟩) (x := fun v => Zbz K a1 a2 = some r) (shx := fun v => ⟨[(1, (.sl 1 (a1.map Z1r) false)), (2, (.str a2))], []⟩) (k := K) (v := 0) h ?_ ?_
 ·intro v h
  try dsimp only at h ⊢
  unfold Zbz at h
  refine Zf <| Zg <| Zg <| Za <| Z1 I (Zi (v := (.int .i64 0)) I I) I <| Ze <| Zf <| Z1t (st' := ⟨[(1, (.sl 1 (a1.map Z1r) false)), (2, (.str a2)), (8, (.int .i64 0))], []⟩) ⟨rfl, rfl, rfl, trivial⟩ trivial ?_
  refine Z1h (V := Int) (X := Unit) (lp := fun k v => Z9p K a1 a2 (Zc3 K) k v = some r) (sh := fun v => ⟨[(1, (.sl 1 (a1.map Z1r) false)), (2, (.str a2)), (8, (.int .i64 v))], []⟩) (x := fun v => Zc3 K = some r) (shx := fun v => ⟨[], []⟩) (k := K) (v := 0) h ?_ ?_
  ·intro v h
   try dsimp only at h ⊢
   unfold Zc3 at h
   refine Zf <| Zg <| Za <| Z1 I (Zi (v := (.bool false)) I I) I <| Ze <| Zf <| Z1a ?_
   have h := Option.some.inj h
   subst h
   refine (hret _ ?_).1
   exact ⟨[(.bool false)], ⟨rfl, trivial⟩, rfl, trivial⟩
  ·intro N k6 v h IH6 J6
   revert h
   revert v
   intro v5 h
   try dsimp only at h IH6 J6 ⊢
   cases k6 with
   | zero => cases h
   | succ k6 =>
    rw [Z9p] at h
    refine Zg <| Zg <| Za <| Z1 I (Zh (v := (.int .i64 v5)) I I) I <| Z1 I (Zh (v := (.sl 1 (a1.map Z1r) false)) I I) I <| Z1 I (Z24 (l := a1) (enc := Z1r) I s100 I) I <| Z1 I (Z1w (k := .i64) (a := v5) (b := (a1.length : Int)) (c := (decide (v5 < (a1.length : Int)))) I I I I) I <| Ze ?_
    refine Zf ?_
    have hif := Z1y h
    refine Z13 I (fun hc => ?_) (fun hc => ?_)
    ·have h := hif.1 hc
     refine Z16 <| Zf <| Zg <| AWp.block <| Zg <| AWp.regionD mixed <| Z9 0 I (Zh (v := (.sl 1 (a1.map Z1r) false)) I I) <| Z9 1 I (Zh (v := (.int .i64 v5)) I I) ?_
     have ⟨hg10, h⟩ := Zv h
     refine Z9 2 I (Z1s (k := .i64) (l := a1) (enc := Z1r) (z := []) (n := v5) (cs := [(.sl 1 ((a1.getD v5.toNat []).map Z1f) false)]) (full := false) I s100 I I hg10 I) <| Z9 3 I (Z26 (cs := [(.sl 1 ((a1.getD v5.toNat []).map Z1f) false)]) (v := (.sl 1 ((a1.getD v5.toNat []).map Z1f) false)) I o73 I I) <| Z9 4 I (Zh (v := (.sl 1 (a1.map Z1r) false)) I I) <| Z9 5 I (Zh (v := (.int .i64 v5)) I I) ?_
     have ⟨hg11, h⟩ := Zv h
     refine Z9 6 I (Z1s (k := .i64) (l := a1) (enc := Z1r) (z := []) (n := v5) (cs := [(.sl 1 ((a1.getD v5.toNat []).map Z1f) false)]) (full := false) I s100 I I hg11 I) <| Z9 7 I (Z26 (cs := [(.sl 1 ((a1.getD v5.toNat []).map Z1f) false)]) (v := (.sl 1 ((a1.getD v5.toNat []).map Z1f) false)) I o73 I I) <| Z9 8 I (Z24 (l := (a1.getD v5.toNat [])) (enc := Z1f) I s73 I) <| Z9 9 I (Z1n (k := .i64) (a := ((a1.getD v5.toNat []).length : Int)) (b := 1) (c := (IntKind.i64.wrap (((a1.getD v5.toNat []).length : Int) - 1))) I I I I) ?_
     have ⟨hg12, h⟩ := Zv h
     refine Z9 10 I (Z1s (k := .i64) (l := (a1.getD v5.toNat [])) (enc := Z1f) (z := []) (n := (IntKind.i64.wrap (((a1.getD v5.toNat []).length : Int) - 1))) (cs := [(.str ((a1.getD v5.toNat []).getD (IntKind.i64.wrap (((a1.getD v5.toNat []).length : Int) - 1)).toNat []))]) (full := false) I s73 I I hg12 I) <| Z9 11 I (Z26 (cs := [(.str ((a1.getD v5.toNat []).getD (IntKind.i64.wrap (((a1.getD v5.toNat []).length : Int) - 1)).toNat []))]) (v := (.str ((a1.getD v5.toNat []).getD (IntKind.i64.wrap (((a1.getD v5.toNat []).length : Int) - 1)).toNat []))) I o9 I I) <| Z9 12 I (Zh (v := (.str a2)) I I) <| Z9 13 I (Z2z (a := ((a1.getD v5.toNat []).getD (IntKind.i64.wrap (((a1.getD v5.toNat []).length : Int) - 1)).toNat [])) (b := a2) (c := (((a1.getD v5.toNat []).getD (IntKind.i64.wrap (((a1.getD v5.toNat []).length : Int) - 1)).toNat []) == a2)) I I I I) <| AOpsD.nil (by kernel_rfl) I <| Zf ?_
     have hif := Z1y h
     refine Z13 I (fun hc => ?_) (fun hc => ?_)
     ·have h := hif.1 hc
      refine Zg <| Za <| Z1 I (Zi (v := (.bool true)) I I) I <| Ze <| Zf <| Z1a <| At.overR <| Z1b ?_
      refine Z1b (At.overR ?_)
      refine Z1b ?_
      have h := Option.some.inj h
      subst h
      refine (hret _ ?_).1
      exact ⟨[(.bool true)], ⟨rfl, trivial⟩, rfl, trivial⟩
     ·have h := hif.2 hc
      refine Z16 <| At.end <| Zf <| Za <| Z1 I (Zh (v := (.int .i64 v5)) I I) I <| Z1 I (Z1n (k := .i64) (a := v5) (b := 1) (c := (IntKind.i64.wrap (v5 + 1))) I I I I) I <| Z1 I (Zi (v := (.int .i64 (IntKind.i64.wrap (v5 + 1)))) I I) I <| Ze ?_
      exact Zw (st' := ⟨[(1, (.sl 1 (a1.map Z1r) false)), (2, (.str a2)), (8, (.int .i64 (IntKind.i64.wrap (v5 + 1))))], []⟩) ⟨rfl, rfl, rfl, trivial⟩ trivial (IH6 _ (IntKind.i64.wrap (v5 + 1)) (Nat.lt_succ_self _) h)
    ·have h := hif.2 hc
     refine AWp.exit <| At.thru ?_
     exact Zw (st' := ⟨[], []⟩) trivial trivial (J6 () h)
 ·intro N k2 v h IH2 J2
  revert h
  revert v
  intro v1 h
  try dsimp only at h IH2 J2 ⊢
  cases k2 with
  | zero => cases h
  | succ k2 =>
   rw [Zb4] at h
   refine Zg <| Zg <| Za <| Z1 I (Zh (v := (.int .i64 v1)) I I) I <| Z1 I (Zh (v := (.sl 1 (a0.map Z1r) false)) I I) I <| Z1 I (Z24 (l := a0) (enc := Z1r) I s100 I) I <| Z1 I (Z1w (k := .i64) (a := v1) (b := (a0.length : Int)) (c := (decide (v1 < (a0.length : Int)))) I I I I) I <| Ze ?_
   refine Zf ?_
   have hif := Z1y h
   refine Z13 I (fun hc => ?_) (fun hc => ?_)
   ·have h := hif.1 hc
    refine Z16 <| Zf <| Zg <| AWp.block <| Zg <| Za <| Z1 I (Zh (v := (.sl 1 (a0.map Z1r) false)) I I) I <| Z1 I (Zh (v := (.int .i64 v1)) I I) I ?_
    have ⟨hg14, h⟩ := Zv h
    refine Z1 I (Z1s (k := .i64) (l := a0) (enc := Z1r) (z := []) (n := v1) (cs := [(.sl 1 ((a0.getD v1.toNat []).map Z1f) false)]) (full := false) I s100 I I hg14 I) I <| Z1 I (Z26 (cs := [(.sl 1 ((a0.getD v1.toNat []).map Z1f) false)]) (v := (.sl 1 ((a0.getD v1.toNat []).map Z1f) false)) I o73 I I) I <| Z1 I (Zh (v := (.str a2)) I I) I ?_
    have ⟨v16, hv16, h⟩ := Z1g h
    refine Z1 I (Z1i (ar := [(.sl 1 ((a0.getD v1.toNat []).map Z1f) false), (.str a2)]) (caps := []) Tryz.call38 (F38_ok K (a0.getD v1.toNat []) a2 v16 hv16) I I ⟨rfl, rfl, trivial⟩ I) I <| Ze <| Zf ?_
    have hif := Z1y h
    refine Z13 I (fun hc => ?_) (fun hc => ?_)
    ·have h := hif.1 hc
     refine Zg <| Za <| Z1 I (Zi (v := (.bool true)) I I) I <| Ze <| Zf <| Z1a <| At.overR <| Z1b ?_
     refine Z1b (At.overR ?_)
     refine Z1b ?_
     have h := Option.some.inj h
     subst h
     refine (hret _ ?_).1
     exact ⟨[(.bool true)], ⟨rfl, trivial⟩, rfl, trivial⟩
    ·have h := hif.2 hc
     refine Z16 <| At.end <| Zf <| Za <| Z1 I (Zh (v := (.int .i64 v1)) I I) I <| Z1 I (Z1n (k := .i64) (a := v1) (b := 1) (c := (IntKind.i64.wrap (v1 + 1))) I I I I) I <| Z1 I (Zi (v := (.int .i64 (IntKind.i64.wrap (v1 + 1)))) I I) I <| Ze ?_
     exact Zw (st' := ⟨[(0, (.sl 1 (a0.map Z1r) false)), (1, (.sl 1 (a1.map Z1r) false)), (2, (.str a2)), (7, (.int .i64 (IntKind.i64.wrap (v1 + 1))))], []⟩) ⟨rfl, rfl, rfl, rfl, trivial⟩ trivial (IH2 _ (IntKind.i64.wrap (v1 + 1)) (Nat.lt_succ_self _) h)
   ·have h := hif.2 hc
    refine AWp.exit <| At.thru ?_
    exact Zw (st' := ⟨[(1, (.sl 1 (a1.map Z1r) false)), (2, (.str a2))], []⟩) ⟨rfl, rfl, trivial⟩ trivial (J2 () h)
def Z3r (K : Nat) : Option ((List Str) × Bool) :=
 some ([], false)
def Z3m (K : Nat) (b6 : Int → (List (List Str)) → Option ((List Str) × Bool)) (v1 : Int) (v10 : (List (List Str))) : Option ((List Str) × Bool) :=
 b6 (IntKind.i64.wrap (v1 + 1)) v10
def Z4y (K : Nat) (b13 : Int → (List (List Str)) → Option ((List Str) × Bool)) (v7 : Int) (v24 : (List (List Str))) : Option ((List Str) × Bool) :=
 b13 (IntKind.i64.wrap (v7 + 1)) v24
def Z79 (K : Nat) (b27 : Int → (List (List Str)) → Option ((List Str) × Bool)) (v21 : Int) (v28 : (List (List Str))) : Option ((List Str) × Bool) :=
 b27 (IntKind.i64.wrap (v21 + 1)) v28
def Zai (K : Nat) (b27 : Int → (List (List Str)) → Option ((List Str) × Bool)) (v21 : Int) (v34 : (List (List Str))) : Option ((List Str) × Bool) :=
 Z79 K b27 v21 v34
def Z39 (K : Nat) (a0 : Zb) (v2 : (List (List Str))) (v7 : Int) (c26 : (List (List Str)) → Option ((List Str) × Bool)) : Nat → Int → (List (List Str)) → Option ((List Str) × Bool)
 | 0, _, _ => none
 | k23 + 1, v21, v22 =>
  if (decide (v21 < (a0.Calls.length : Int))) = true then
   if (0 : Int) ≤ v21 ∧ v21 < a0.Calls.length then
    if ((a0.Calls.getD v21.toNat Z4).Caller == ((v2.getD v7.toNat []).getD (IntKind.i64.wrap (((v2.getD v7.toNat []).length : Int) - 1)).toNat [])) = true then
     if (0 : Int) ≤ v21 ∧ v21 < a0.Calls.length then
      (F76 K v2 v22 (a0.Calls.getD v21.toNat Z4).Callee).bind fun v33 =>
       if (!v33) = true then
        if (0 : Int) ≤ v7 ∧ v7 < (v2.length : Nat) then
         if v7.toNat < v2.length then
          if ([] : List Str).length + (v2.getD v7.toNat []).length ≤ 1073741824 then
           if (0 : Int) ≤ v21 ∧ v21 < a0.Calls.length then
            if (v2.getD v7.toNat []).length + [(a0.Calls.getD v21.toNat Z4).Callee].length ≤ 1073741824 then
             if v22.length + ([((v2.getD v7.toNat []) ++ [(a0.Calls.getD v21.toNat Z4).Callee])]).length ≤ 1073741824 then
              Zai K (Z39 K a0 v2 v7 c26 k23) v21 (v22 ++ ([((v2.getD v7.toNat []) ++ [(a0.Calls.getD v21.toNat Z4).Callee])]))
             else none
            else none
           else none
          else none
         else none
        else none
       else
        Zai K (Z39 K a0 v2 v7 c26 k23) v21 v22
     else none
    else
     Z79 K (Z39 K a0 v2 v7 c26 k23) v21 v22
   else none
  else
   c26 v22
def Z35 (K : Nat) (v2 : (List (List Str))) (a2 : Str) (a0 : Zb) (c12 : (List (List Str)) → Option ((List Str) × Bool)) : Nat → Int → (List (List Str)) → Option ((List Str) × Bool)
 | 0, _, _ => none
 | k9 + 1, v7, v8 =>
  if (decide (v7 < (v2.length : Int))) = true then
   if (0 : Int) ≤ v7 ∧ v7 < (v2.length : Nat) then
    if v7.toNat < v2.length then
     if (0 : Int) ≤ v7 ∧ v7 < (v2.length : Nat) then
      if v7.toNat < v2.length then
       if (0 : Int) ≤ (IntKind.i64.wrap (((v2.getD v7.toNat []).length : Int) - 1)) ∧ (IntKind.i64.wrap (((v2.getD v7.toNat []).length : Int) - 1)) < (v2.getD v7.toNat []).length then
        if (((v2.getD v7.toNat []).getD (IntKind.i64.wrap (((v2.getD v7.toNat []).length : Int) - 1)).toNat []) == a2) = true then
         if (0 : Int) ≤ v7 ∧ v7 < (v2.length : Nat) then
          if v7.toNat < v2.length then
           some ((v2.getD v7.toNat []), true)
          else none
         else none
        else
         Z39 K a0 v2 v7 (Z4y K (Z35 K v2 a2 a0 c12 k9) v7) K 0 v8
       else none
      else none
     else none
    else none
   else none
  else
   c12 v8
def Z3i (K : Nat) (a0 : Zb) (a2 : Str) (c5 : Option ((List Str) × Bool)) : Nat → Int → (List (List Str)) → Option ((List Str) × Bool)
 | 0, _, _ => none
 | k3 + 1, v1, v2 =>
  if (decide (v1 ≤ (a0.Services.length : Int))) = true then
   Z35 K v2 a2 a0 (Z3m K (Z3i K a0 a2 c5 k3) v1) K 0 []
  else
   c5
def F30 (K : Nat) (a0 : Zb) (a1 : Str) (a2 : Str) : Option ((List Str) × Bool) :=
 Z3i K a0 a2 (Z3r K) K 0 ([[a1]])
theorem F30_ok (K : Nat) (a0 : Zb) (a1 : Str) (a2 : Str) (r : (List Str) × Bool) (h : F30 K a0 a1 a2 = some r) : ACall P 30 ⟨[(Z5 a0), (.str a1), (.str a2)], [], (.tup [(.sl 1 (r.1.map Z1f) false), (.bool r.2)]), [], []⟩ := by
 refine Z1p Tryz.func30 Tryz.results30 rfl Tryz.ntmps30 rfl rfl rfl ?_
 intro E Q hP hN hro hret
 obtain ⟨P', nt', w0, F0, p0, S0, β0, ro0⟩ := E
 simp only at hP hN
 subst hP hN
 dsimp only [argT]
 unfold F30 at h
 refine Zg <| Za <| Z1 I (Z2l (v := (Z5 a0)) (cs := (Z5 a0).cells) I I I I I) I <| Z1 I (Zi (v := (.sl 1 [] false)) I I) I <| Z1 I (Zi (v := (.bool false)) I I) I <| Ze <| Zf <| Zg ?_
 refine Za <| Z1 I (Zh (v := (.str a1)) I I) I <| Z1 I (Z1d (vs := [(.str a1)]) (enc := Z1f) (l := [a1]) I el73 I I ⟨rfl, trivial⟩ I Z7i I I I I) I <| AOps.ghost (st' := ⟨[(2, (.str a2)), (3, (.ptr 3 0)), (15, (.sl 1 ([a1].map Z1f) false))], [(3, (.box (Z5 a0).cells))]⟩) (fun a w h => (Z1c ⟨[(2, (.str a2)), (3, (.ptr 3 0)), (15, (.sl 1 ([a1].map Z1f) false))], [(3, (.box (Z5 a0).cells))]⟩ (Z27 (m := 15) (sz := 1) (es := (List.map Z1f [a1])) a w (Z1c ⟨[(2, (.str a2)), (3, (.ptr 3 0)), (15, (.vs 15))], [(15, (.vec 1 (List.map Z1f [a1]))), (3, (.box (Z5 a0).cells))]⟩ h ⟨rfl, rfl, rfl, trivial⟩ ⟨rfl, rfl, trivial⟩)) ⟨rfl, rfl, rfl, trivial⟩ ⟨rfl, trivial⟩)) <| Z1 I (Z1d (vs := [(.sl 1 ([a1].map Z1f) false)]) (enc := Z1r) (l := [[a1]]) I el100 I I ⟨rfl, trivial⟩ I Za0 I I I I) I <| Z1 I (Zi (v := (.vs 16)) I I) I <| Ze <| Zf ?_
 refine Zg <| Zg <| Za <| Z1 I (Zi (v := (.int .i64 0)) I I) I <| Ze <| Zf <| AWp.ghost (st' := ⟨[(2, (.str a2)), (3, (.ptr 3 0)), (8, (.vs 8)), (9, (.int .i64 0))], [(3, (.box (Z5 a0).cells)), (8, (.vec 1 (List.map Z1r ([[a1]]))))]⟩) (fun a w h => (Z1c ⟨[(2, (.str a2)), (3, (.ptr 3 0)), (8, (.vs 8)), (9, (.int .i64 0))], [(3, (.box (Z5 a0).cells)), (8, (.vec 1 (List.map Z1r ([[a1]]))))]⟩ (Z42 (a := 16) (b := 8) I I a w (Z1c ⟨[(2, (.str a2)), (3, (.ptr 3 0)), (8, (.vs 16)), (9, (.int .i64 0))], [(3, (.box (Z5 a0).cells)), (16, (.vec 1 (List.map Z1r ([[a1]]))))]⟩ h ⟨rfl, rfl, rfl, rfl, trivial⟩ ⟨rfl, rfl, trivial⟩)) ⟨rfl, rfl, rfl, rfl, trivial⟩ ⟨rfl, rfl, trivial⟩)) <| Z1t (st' := ⟨[(2, (.str a2)), (3, (.ptr 3 0)), (8, (.vs 8)), (9, (.int .i64 0))], [(3, (.box (Z5 a0).cells)), (8, (.vec 1 (List.map Z1r ([[a1]]))))]⟩) ⟨rfl, rfl, rfl, rfl, trivial⟩ ⟨rfl, rfl, trivial⟩ ?_
 refine Z1h (V := Int × (List (List Str))) (X := Unit) (lp := fun k v => Z3i K a0 a2 (Z3r K) k v.1 v.2 = some r) (sh := fun v => ⟨[(2, (.str a2)), (3, (.ptr 3 0)), (8, (.vs 8)), (9, (.int .i64 v.1))], [(3, (.box (Z5 a0).cells)), (8, (.vec 1 (List.map Z1r v.2)))]⟩) (x := fun v => Z3r K = some r) (shx := fun v => ⟨[], []⟩) (k := K) (v := (0, [[a1]])) h ?_ ?_
 ·intro v h
  try dsimp only at h ⊢
  unfold Z3r at h
  refine Zf <| Zg <| Za <| Z1 I (Zi (v := (.sl 1 [] false)) I I) I <| Z1 I (Zi (v := (.bool false)) I I) I <| Ze <| Zf <| Z1a ?_
  have h := Option.some.inj h
  subst h
  refine (hret _ ?_).1
  exact ⟨[(.sl 1 [] false), (.bool false)], ⟨rfl, rfl, trivial⟩, rfl, trivial⟩
 ·intro N k3 v h IH3 J3
  obtain ⟨v1, v2⟩ := v
  try dsimp only at h IH3 J3 ⊢
  cases k3 with
  | zero => cases h
  | succ k3 =>
   rw [Z3i] at h
   refine Zg <| Zg <| Za <| Z1 I (Zh (v := (.int .i64 v1)) I I) I <| Z1 I (Zp (m := 3) (o := 0) I Z4a I I) I <| Z1 I (Zu (cs := (Z5 a0).cells) (v := (.sl 4 (a0.Services.map Z2) false)) I o41 I I I) I <| Z1 I (Z24 (l := a0.Services) (enc := Z2) I s41 I) I <| Z1 I (Z1w (k := .i64) (a := v1) (b := (a0.Services.length : Int)) (c := (decide (v1 ≤ (a0.Services.length : Int)))) I I I I) I ?_
   refine Ze <| Zf ?_
   have hif := Z1y h
   refine Z13 I (fun hc => ?_) (fun hc => ?_)
   ·have h := hif.1 hc
    refine Z16 <| Zf <| Zg <| AWp.block <| Zg <| Za <| Z1 I (Zi (v := (.sl 1 [] true)) I I) I <| Ze ?_
    refine Zf <| Zg <| Zg <| Za <| Z1 I (Zi (v := (.int .i64 0)) I I) I <| Ze <| Zf <| AWp.ghost (st' := ⟨[(2, (.str a2)), (3, (.ptr 3 0)), (8, (.vs 8)), (9, (.int .i64 v1)), (10, (.vs 10)), (11, (.int .i64 0))], [(3, (.box (Z5 a0).cells)), (8, (.vec 1 (List.map Z1r v2))), (10, (.vec 1 (List.map Z1r ([] : List (List Str)))))]⟩) (fun a w h => (Z1c ⟨[(2, (.str a2)), (3, (.ptr 3 0)), (8, (.vs 8)), (9, (.int .i64 v1)), (10, (.vs 10)), (11, (.int .i64 0))], [(3, (.box (Z5 a0).cells)), (8, (.vec 1 (List.map Z1r v2))), (10, (.vec 1 (List.map Z1r ([] : List (List Str)))))]⟩ (Z59 (k := 10) (m := 10) (sz := 1) I I a w (Z1c ⟨[(10, (.sl 1 [] true)), (2, (.str a2)), (3, (.ptr 3 0)), (8, (.vs 8)), (9, (.int .i64 v1)), (11, (.int .i64 0))], [(3, (.box (Z5 a0).cells)), (8, (.vec 1 (List.map Z1r v2)))]⟩ h ⟨rfl, rfl, rfl, rfl, rfl, rfl, trivial⟩ ⟨rfl, rfl, trivial⟩)) ⟨rfl, rfl, rfl, rfl, rfl, rfl, trivial⟩ ⟨rfl, rfl, rfl, trivial⟩)) ?_
    refine Z1t (st' := ⟨[(2, (.str a2)), (3, (.ptr 3 0)), (8, (.vs 8)), (9, (.int .i64 v1)), (10, (.vs 10)), (11, (.int .i64 0))], [(3, (.box (Z5 a0).cells)), (8, (.vec 1 (List.map Z1r v2))), (10, (.vec 1 (List.map Z1r [])))]⟩) ⟨rfl, rfl, rfl, rfl, rfl, rfl, trivial⟩ ⟨rfl, rfl, rfl, trivial⟩ ?_
    refine Z1h (V := Int × (List (List Str))) (X := (List (List Str))) (lp := fun k v => Z35 K v2 a2 a0 (Z3m K (Z3i K a0 a2 (Z3r K) k3) v1) k v.1 v.2 = some r) (sh := fun v => ⟨[(2, (.str a2)), (3, (.ptr 3 0)), (8, (.vs 8)), (9, (.int .i64 v1)), (10, (.vs 10)), (11, (.int .i64 v.1))], [(3, (.box (Z5 a0).cells)), (8, (.vec 1 (List.map Z1r v2))), (10, (.vec 1 (List.map Z1r v.2)))]⟩) (x := fun v => Z3m K (Z3i K a0 a2 (Z3r K) k3) v1 v = some r) (shx := fun v => ⟨[(2, (.str a2)), (3, (.ptr 3 0)), (9, (.int .i64 v1)), (10, (.vs 10))], [(3, (.box (Z5 a0).cells)), (10, (.vec 1 (List.map Z1r v)))]⟩) (k := K) (v := (0, [])) h ?_ ?_
    ·intro v h
     revert h
     revert v
     intro v10 h
     try dsimp only at h ⊢
     unfold Z3m at h
     refine Zf <| Za <| Z1 I (Zh (v := (.vs 10)) I I) I <| Z1 I (Zi (v := (.vs 10)) I I) I <| Ze <| At.end <| Zf <| Za ?_
     refine Z1 I (Zh (v := (.int .i64 v1)) I I) I <| Z1 I (Z1n (k := .i64) (a := v1) (b := 1) (c := (IntKind.i64.wrap (v1 + 1))) I I I I) I <| Z1 I (Zi (v := (.int .i64 (IntKind.i64.wrap (v1 + 1)))) I I) I <| Ze <| At.ghost (st' := ⟨[(2, (.str a2)), (3, (.ptr 3 0)), (8, (.vs 8)), (9, (.int .i64 (IntKind.i64.wrap (v1 + 1))))], [(3, (.box (Z5 a0).cells)), (8, (.vec 1 (List.map Z1r v10)))]⟩) (fun a w h => (Z1c ⟨[(2, (.str a2)), (3, (.ptr 3 0)), (8, (.vs 8)), (9, (.int .i64 (IntKind.i64.wrap (v1 + 1))))], [(3, (.box (Z5 a0).cells)), (8, (.vec 1 (List.map Z1r v10)))]⟩ (Z42 (a := 10) (b := 8) I I a w (Z1c ⟨[(2, (.str a2)), (3, (.ptr 3 0)), (8, (.vs 10)), (9, (.int .i64 (IntKind.i64.wrap (v1 + 1))))], [(3, (.box (Z5 a0).cells)), (10, (.vec 1 (List.map Z1r v10)))]⟩ h ⟨rfl, rfl, rfl, rfl, trivial⟩ ⟨rfl, rfl, trivial⟩)) ⟨rfl, rfl, rfl, rfl, trivial⟩ ⟨rfl, rfl, trivial⟩)) ?_
     exact Zw (st' := ⟨[(2, (.str a2)), (3, (.ptr 3 0)), (8, (.vs 8)), (9, (.int .i64 (IntKind.i64.wrap (v1 + 1))))], [(3, (.box (Z5 a0).cells)), (8, (.vec 1 (List.map Z1r v10)))]⟩) ⟨rfl, rfl, rfl, rfl, trivial⟩ ⟨rfl, rfl, trivial⟩ (IH3 _ ((IntKind.i64.wrap (v1 + 1)), v10) (Nat.lt_succ_self _) h)
    ·intro N k9 v h IH9 J9
     obtain ⟨v7, v8⟩ := v
     try dsimp only at h IH9 J9 ⊢
     cases k9 with
     | zero => cases h
     | succ k9 =>
      rw [Z35] at h
      refine Zg <| Zg <| Za <| Z1 I (Zh (v := (.int .i64 v7)) I I) I <| Z1 I (Zh (v := (.vs 8)) I I) I <| Z1 I (Z3u (l := v2) (enc := Z1r) I u100 I I) I <| Z1 I (Z1w (k := .i64) (a := v7) (b := (v2.length : Int)) (c := (decide (v7 < (v2.length : Int)))) I I I I) I <| Ze ?_
      refine Zf ?_
      have hif := Z1y h
      refine Z13 I (fun hc => ?_) (fun hc => ?_)
      ·have h := hif.1 hc
       refine Z16 <| Zf <| Zg <| AWp.block <| Zg <| AWp.regionD mixed <| Z9 0 I (Zh (v := (.vs 8)) I I) <| Z9 1 I (Zh (v := (.int .i64 v7)) I I) ?_
       have ⟨hg14, h⟩ := Zv h
       refine Z9 2 I (Z2h (k := .i64) (v := (.vs 8)) (n := 8) (off := 0) (len := v2.length) (es := (List.map Z1r v2)) (j := v7) (m := v7.toNat) I s100 I I (Z2o _ _ _) I hg14 (Nat.zero_add _)) ?_
       have ⟨hg15, h⟩ := Zv h
       refine Z9 3 I (Z4g (l := v2) (enc := Z1r) (z := []) (v := (.sl 1 ((v2.getD v7.toNat []).map Z1f) false)) I o73 I I hg15 I) <| Z9 4 I (Zh (v := (.vs 8)) I I) <| Z9 5 I (Zh (v := (.int .i64 v7)) I I) ?_
       have ⟨hg16, h⟩ := Zv h
       refine Z9 6 I (Z2h (k := .i64) (v := (.vs 8)) (n := 8) (off := 0) (len := v2.length) (es := (List.map Z1r v2)) (j := v7) (m := v7.toNat) I s100 I I (Z2o _ _ _) I hg16 (Nat.zero_add _)) ?_
       have ⟨hg17, h⟩ := Zv h
       refine Z9 7 I (Z4g (l := v2) (enc := Z1r) (z := []) (v := (.sl 1 ((v2.getD v7.toNat []).map Z1f) false)) I o73 I I hg17 I) <| Z9 8 I (Z24 (l := (v2.getD v7.toNat [])) (enc := Z1f) I s73 I) <| Z9 9 I (Z1n (k := .i64) (a := ((v2.getD v7.toNat []).length : Int)) (b := 1) (c := (IntKind.i64.wrap (((v2.getD v7.toNat []).length : Int) - 1))) I I I I) ?_
       have ⟨hg18, h⟩ := Zv h
       refine Z9 10 I (Z1s (k := .i64) (l := (v2.getD v7.toNat [])) (enc := Z1f) (z := []) (n := (IntKind.i64.wrap (((v2.getD v7.toNat []).length : Int) - 1))) (cs := [(.str ((v2.getD v7.toNat []).getD (IntKind.i64.wrap (((v2.getD v7.toNat []).length : Int) - 1)).toNat []))]) (full := false) I s73 I I hg18 I) <| Z9 11 I (Z26 (cs := [(.str ((v2.getD v7.toNat []).getD (IntKind.i64.wrap (((v2.getD v7.toNat []).length : Int) - 1)).toNat []))]) (v := (.str ((v2.getD v7.toNat []).getD (IntKind.i64.wrap (((v2.getD v7.toNat []).length : Int) - 1)).toNat []))) I o9 I I) <| Z9 12 I (Zi (v := (.str ((v2.getD v7.toNat []).getD (IntKind.i64.wrap (((v2.getD v7.toNat []).length : Int) - 1)).toNat []))) I I) <| AOpsD.nil (by kernel_rfl) I <| Zf <| Zg <| Zg <| Za ?_
       refine Z1 I (Zh (v := (.str ((v2.getD v7.toNat []).getD (IntKind.i64.wrap (((v2.getD v7.toNat []).length : Int) - 1)).toNat []))) I I) I <| Z1 I (Zh (v := (.str a2)) I I) I <| Z1 I (Z2z (a := ((v2.getD v7.toNat []).getD (IntKind.i64.wrap (((v2.getD v7.toNat []).length : Int) - 1)).toNat [])) (b := a2) (c := (((v2.getD v7.toNat []).getD (IntKind.i64.wrap (((v2.getD v7.toNat []).length : Int) - 1)).toNat []) == a2)) I I I I) I <| Ze <| Zf ?_
       have hif := Z1y h
       refine Z13 I (fun hc => ?_) (fun hc => ?_)
       ·have h := hif.1 hc
        refine Zg <| Za <| Z1 I (Zh (v := (.vs 8)) I I) I <| Z1 I (Zh (v := (.int .i64 v7)) I I) I ?_
        have ⟨hg19, h⟩ := Zv h
        refine Z1 I (Z2h (k := .i64) (v := (.vs 8)) (n := 8) (off := 0) (len := v2.length) (es := (List.map Z1r v2)) (j := v7) (m := v7.toNat) I s100 I I (Z2o _ _ _) I hg19 (Nat.zero_add _)) I ?_
        have ⟨hg20, h⟩ := Zv h
        refine Z1 I (Z4g (l := v2) (enc := Z1r) (z := []) (v := (.sl 1 ((v2.getD v7.toNat []).map Z1f) false)) I o73 I I hg20 I) I <| Z1 I (Zi (v := (.sl 1 ((v2.getD v7.toNat []).map Z1f) false)) I I) I <| Z1 I (Zi (v := (.bool true)) I I) I <| Ze <| Zf <| Z1a <| Z1b <| At.overR ?_
        refine Z1b ?_
        refine Z1b (At.overR ?_)
        refine Z1b <| At.overR <| Z1b ?_
        refine Z1b (At.overR ?_)
        refine Z1b ?_
        have h := Option.some.inj h
        subst h
        refine (hret _ ?_).1
        exact ⟨[(.sl 1 ((v2.getD v7.toNat []).map Z1f) false), (.bool true)], ⟨rfl, rfl, trivial⟩, rfl, trivial⟩
       ·have h := hif.2 hc
        refine Z16 <| Zf <| Zg <| Za <| Z1 I (Zi (v := (.int .i64 0)) I I) I <| Ze <| Zf <| Z1t (st' := ⟨[(2, (.str a2)), (3, (.ptr 3 0)), (8, (.vs 8)), (9, (.int .i64 v1)), (10, (.vs 10)), (11, (.int .i64 v7)), (12, (.str ((v2.getD v7.toNat []).getD (IntKind.i64.wrap (((v2.getD v7.toNat []).length : Int) - 1)).toNat []))), (13, (.int .i64 0))], [(3, (.box (Z5 a0).cells)), (8, (.vec 1 (List.map Z1r v2))), (10, (.vec 1 (List.map Z1r v8)))]⟩) ⟨rfl, rfl, rfl, rfl, rfl, rfl, rfl, rfl, trivial⟩ ⟨rfl, rfl, rfl, trivial⟩ ?_
        refine Z1h (V := Int × (List (List Str))) (X := (List (List Str))) (lp := fun k v => Z39 K a0 v2 v7 (Z4y K (Z35 K v2 a2 a0 (Z3m K (Z3i K a0 a2 (Z3r K) k3) v1) k9) v7) k v.1 v.2 = some r) (sh := fun v => ⟨[(2, (.str a2)), (3, (.ptr 3 0)), (8, (.vs 8)), (9, (.int .i64 v1)), (10, (.vs 10)), (11, (.int .i64 v7)), (12, (.str ((v2.getD v7.toNat []).getD (IntKind.i64.wrap (((v2.getD v7.toNat []).length : Int) - 1)).toNat []))), (13, (.int .i64 v.1))], [(3, (.box (Z5 a0).cells)), (8, (.vec 1 (List.map Z1r v2))), (10, (.vec 1 (List.map Z1r v.2)))]⟩) (x := fun v => Z4y K (Z35 K v2 a2 a0 (Z3m K (Z3i K a0 a2 (Z3r K) k3) v1) k9) v7 v = some r) (shx := fun v => ⟨[(2, (.str a2)), (3, (.ptr 3 0)), (8, (.vs 8)), (9, (.int .i64 v1)), (10, (.vs 10)), (11, (.int .i64 v7))], [(3, (.box (Z5 a0).cells)), (8, (.vec 1 (List.map Z1r v2))), (10, (.vec 1 (List.map Z1r v)))]⟩) (k := K) (v := (0, v8)) h ?_ ?_
        ·intro v h
         revert h
         revert v
         intro v24 h
         try dsimp only at h ⊢
         unfold Z4y at h
         refine At.end <| Zf <| Za <| Z1 I (Zh (v := (.int .i64 v7)) I I) I <| Z1 I (Z1n (k := .i64) (a := v7) (b := 1) (c := (IntKind.i64.wrap (v7 + 1))) I I I I) I <| Z1 I (Zi (v := (.int .i64 (IntKind.i64.wrap (v7 + 1)))) I I) I <| Ze ?_
         exact Zw (st' := ⟨[(2, (.str a2)), (3, (.ptr 3 0)), (8, (.vs 8)), (9, (.int .i64 v1)), (10, (.vs 10)), (11, (.int .i64 (IntKind.i64.wrap (v7 + 1))))], [(3, (.box (Z5 a0).cells)), (8, (.vec 1 (List.map Z1r v2))), (10, (.vec 1 (List.map Z1r v24)))]⟩) ⟨rfl, rfl, rfl, rfl, rfl, rfl, trivial⟩ ⟨rfl, rfl, rfl, trivial⟩ (IH9 _ ((IntKind.i64.wrap (v7 + 1)), v24) (Nat.lt_succ_self _) h)
        ·intro N k23 v h IH23 J23
         obtain ⟨v21, v22⟩ := v
         try dsimp only at h IH23 J23 ⊢
         cases k23 with
         | zero => cases h
         | succ k23 =>
          rw [Z39] at h
          refine Zg <| Zg <| Za <| Z1 I (Zh (v := (.int .i64 v21)) I I) I <| Z1 I (Zp (m := 3) (o := 0) I Z3y I I) I <| Z1 I (Zu (cs := (Z5 a0).cells) (v := (.sl 5 (a0.Calls.map Z3) false)) I o42 I I I) I <| Z1 I (Z24 (l := a0.Calls) (enc := Z3) I s42 I) I <| Z1 I (Z1w (k := .i64) (a := v21) (b := (a0.Calls.length : Int)) (c := (decide (v21 < (a0.Calls.length : Int)))) I I I I) I ?_
          refine Ze <| Zf ?_
          have hif := Z1y h
          refine Z13 I (fun hc => ?_) (fun hc => ?_)
          ·have h := hif.1 hc
           refine Z16 <| Zf <| Zg ?_
           refine AWp.blockJoin (V := (List (List Str))) (lp := fun v => Z79 K (Z39 K a0 v2 v7 (Z4y K (Z35 K v2 a2 a0 (Z3m K (Z3i K a0 a2 (Z3r K) k3) v1) k9) v7) k23) v21 v = some r) (sh := fun v => ⟨[(2, (.str a2)), (3, (.ptr 3 0)), (8, (.vs 8)), (9, (.int .i64 v1)), (10, (.vs 10)), (11, (.int .i64 v7)), (12, (.str ((v2.getD v7.toNat []).getD (IntKind.i64.wrap (((v2.getD v7.toNat []).length : Int) - 1)).toNat []))), (13, (.int .i64 v21))], [(3, (.box (Z5 a0).cells)), (8, (.vec 1 (List.map Z1r v2))), (10, (.vec 1 (List.map Z1r v)))]⟩) ?_ ?_
           ·intro v h
            revert h
            revert v
            intro v28 h
            try dsimp only at h ⊢
            unfold Z79 at h
            refine Zf <| Za <| Z1 I (Zh (v := (.int .i64 v21)) I I) I <| Z1 I (Z1n (k := .i64) (a := v21) (b := 1) (c := (IntKind.i64.wrap (v21 + 1))) I I I I) I <| Z1 I (Zi (v := (.int .i64 (IntKind.i64.wrap (v21 + 1)))) I I) I <| Ze ?_
            exact Zw (st' := ⟨[(2, (.str a2)), (3, (.ptr 3 0)), (8, (.vs 8)), (9, (.int .i64 v1)), (10, (.vs 10)), (11, (.int .i64 v7)), (12, (.str ((v2.getD v7.toNat []).getD (IntKind.i64.wrap (((v2.getD v7.toNat []).length : Int) - 1)).toNat []))), (13, (.int .i64 (IntKind.i64.wrap (v21 + 1))))], [(3, (.box (Z5 a0).cells)), (8, (.vec 1 (List.map Z1r v2))), (10, (.vec 1 (List.map Z1r v28)))]⟩) ⟨rfl, rfl, rfl, rfl, rfl, rfl, rfl, rfl, trivial⟩ ⟨rfl, rfl, rfl, trivial⟩ (IH23 _ ((IntKind.i64.wrap (v21 + 1)), v28) (Nat.lt_succ_self _) h)
           ·intro J29
            refine Zg <| Za <| Z1 I (Zp (m := 3) (o := 0) I Z3y I I) I <| Z1 I (Zu (cs := (Z5 a0).cells) (v := (.sl 5 (a0.Calls.map Z3) false)) I o42 I I I) I <| Z1 I (Zh (v := (.int .i64 v21)) I I) I ?_
            have ⟨hg30, h⟩ := Zv h
            refine Z1 I (Z1s (k := .i64) (l := a0.Calls) (enc := Z3) (z := Z4) (n := v21) (cs := (Z3 (a0.Calls.getD v21.toNat Z4)).cells) (full := false) I s42 I I hg30 I) I <| Z1 I (Z2r (cs := (Z3 (a0.Calls.getD v21.toNat Z4)).cells) (ds := (Z3 (a0.Calls.getD v21.toNat Z4)).cells) I Z8p I I I) I <| Z1 I (Z26 (cs := (Z3 (a0.Calls.getD v21.toNat Z4)).cells) (v := (.str (a0.Calls.getD v21.toNat Z4).Caller)) I o9 I I) I <| Z1 I (Zh (v := (.str ((v2.getD v7.toNat []).getD (IntKind.i64.wrap (((v2.getD v7.toNat []).length : Int) - 1)).toNat []))) I I) I <| Z1 I (Z2z (a := (a0.Calls.getD v21.toNat Z4).Caller) (b := ((v2.getD v7.toNat []).getD (IntKind.i64.wrap (((v2.getD v7.toNat []).length : Int) - 1)).toNat [])) (c := ((a0.Calls.getD v21.toNat Z4).Caller == ((v2.getD v7.toNat []).getD (IntKind.i64.wrap (((v2.getD v7.toNat []).length : Int) - 1)).toNat []))) I I I I) I <| Z1 I (Zh (v := (.bool ((a0.Calls.getD v21.toNat Z4).Caller == ((v2.getD v7.toNat []).getD (IntKind.i64.wrap (((v2.getD v7.toNat []).length : Int) - 1)).toNat [])))) I I) I ?_
            have hif := Z1y h
            refine AOps.split (fun hc => ?_) (fun hc => ?_)
            ·have h := hif.1 hc
             refine Zy I I I I (Zh (v := (.vs 8)) I I) I <| Zy I I I I (Zh (v := (.vs 10)) I I) I <| Zy I I I I (Zp (m := 3) (o := 0) I Z3y I I) I <| Zy I I I I (Zu (cs := (Z5 a0).cells) (v := (.sl 5 (a0.Calls.map Z3) false)) I o42 I I I) I <| Zy I I I I (Zh (v := (.int .i64 v21)) I I) I ?_
             have ⟨hg31, h⟩ := Zv h
             refine Zy I I I I (Z1s (k := .i64) (l := a0.Calls) (enc := Z3) (z := Z4) (n := v21) (cs := (Z3 (a0.Calls.getD v21.toNat Z4)).cells) (full := false) I s42 I I hg31 I) I <| Zy I I I I (Z2r (cs := (Z3 (a0.Calls.getD v21.toNat Z4)).cells) (ds := [(.str (a0.Calls.getD v21.toNat Z4).Callee), (.int .i64 (a0.Calls.getD v21.toNat Z4).Count), (.int .i64 (a0.Calls.getD v21.toNat Z4).Errors), (.int .i64 (a0.Calls.getD v21.toNat Z4).Time)]) I Z7o I I I) I <| Zy I I I I (Z26 (cs := [(.str (a0.Calls.getD v21.toNat Z4).Callee), (.int .i64 (a0.Calls.getD v21.toNat Z4).Count), (.int .i64 (a0.Calls.getD v21.toNat Z4).Errors), (.int .i64 (a0.Calls.getD v21.toNat Z4).Time)]) (v := (.str (a0.Calls.getD v21.toNat Z4).Callee)) I o9 I I) I ?_
             have ⟨v33, hv33, h⟩ := Z1g h
             refine Zy I I I I (Z6l (rd := [(8, (.vec 1 (List.map Z1r v2))), (10, (.vec 1 (List.map Z1r v22)))]) (ar := [(.vs 8), (.vs 10), (.str (a0.Calls.getD v21.toNat Z4).Callee)]) (caps := []) Tryz.call76 (F76_ok K v2 v22 (a0.Calls.getD v21.toNat Z4).Callee v33 hv33) I I ⟨rfl, rfl, rfl, trivial⟩ (Z5f ⟨rfl, rfl, trivial⟩) I I I) I <| Zy I I I I (Z86 (b := v33) I I) I <| Z1 I (Z2d (v := (.bool (!v33))) I I I) I <| Ze <| Zf ?_
             refine AWp.join (V := (List (List Str))) (lp := fun v => Zai K (Z39 K a0 v2 v7 (Z4y K (Z35 K v2 a2 a0 (Z3m K (Z3i K a0 a2 (Z3r K) k3) v1) k9) v7) k23) v21 v = some r) (sh := fun v => ⟨[(2, (.str a2)), (3, (.ptr 3 0)), (8, (.vs 8)), (9, (.int .i64 v1)), (10, (.vs 10)), (11, (.int .i64 v7)), (12, (.str ((v2.getD v7.toNat []).getD (IntKind.i64.wrap (((v2.getD v7.toNat []).length : Int) - 1)).toNat []))), (13, (.int .i64 v21))], [(3, (.box (Z5 a0).cells)), (8, (.vec 1 (List.map Z1r v2))), (10, (.vec 1 (List.map Z1r v)))]⟩) ?_ ?_
             ·intro v h
              revert h
              revert v
              intro v34 h
              try dsimp only at h ⊢
              unfold Zai at h
              refine At.end ?_
              exact Zw (st' := ⟨[(2, (.str a2)), (3, (.ptr 3 0)), (8, (.vs 8)), (9, (.int .i64 v1)), (10, (.vs 10)), (11, (.int .i64 v7)), (12, (.str ((v2.getD v7.toNat []).getD (IntKind.i64.wrap (((v2.getD v7.toNat []).length : Int) - 1)).toNat []))), (13, (.int .i64 v21))], [(3, (.box (Z5 a0).cells)), (8, (.vec 1 (List.map Z1r v2))), (10, (.vec 1 (List.map Z1r v34)))]⟩) ⟨rfl, rfl, rfl, rfl, rfl, rfl, rfl, rfl, trivial⟩ ⟨rfl, rfl, rfl, trivial⟩ (J29 v34 h)
             ·intro J35
              have hif := Z1y h
              refine Z13 I (fun hc => ?_) (fun hc => ?_)
              ·have h := hif.1 hc
               refine AWp.regionD mixed <| Z9 0 I (Zh (v := (.vs 10)) I I) <| Z9 1 I (Z1d (vs := []) (enc := Z1f) (l := ([] : List Str)) I el73 I I trivial I Z7i I I I I) <| Z9 2 I (Zh (v := (.vs 8)) I I) <| Z9 3 I (Zh (v := (.int .i64 v7)) I I) ?_
               have ⟨hg36, h⟩ := Zv h
               refine Z9 4 I (Z2h (k := .i64) (v := (.vs 8)) (n := 8) (off := 0) (len := v2.length) (es := (List.map Z1r v2)) (j := v7) (m := v7.toNat) I s100 I I (Z2o _ _ _) I hg36 (Nat.zero_add _)) ?_
               have ⟨hg37, h⟩ := Zv h
               refine Z9 5 I (Z4g (l := v2) (enc := Z1r) (z := []) (v := (.sl 1 ((v2.getD v7.toNat []).map Z1f) false)) I o73 I I hg37 I) ?_
               have ⟨hg38, h⟩ := Zv h
               refine Z9 6 I (Z2g (m := 77) (enc := Z1f) (l := ([] : List Str)) (l' := (v2.getD v7.toNat [])) (src := (.sl 1 ((v2.getD v7.toNat []).map Z1f) false)) (rd := []) I I el73 I u73 I I I ⟨rfl, rfl, rfl⟩ noReads Z7i hg38) <| Z9 7 I (Zp (m := 3) (o := 0) I Z3y I I) <| Z9 8 I (Zu (cs := (Z5 a0).cells) (v := (.sl 5 (a0.Calls.map Z3) false)) I o42 I I I) <| Z9 9 I (Zh (v := (.int .i64 v21)) I I) ?_
               have ⟨hg39, h⟩ := Zv h
               refine Z9 10 I (Z1s (k := .i64) (l := a0.Calls) (enc := Z3) (z := Z4) (n := v21) (cs := (Z3 (a0.Calls.getD v21.toNat Z4)).cells) (full := false) I s42 I I hg39 I) <| Z9 11 I (Z2r (cs := (Z3 (a0.Calls.getD v21.toNat Z4)).cells) (ds := [(.str (a0.Calls.getD v21.toNat Z4).Callee), (.int .i64 (a0.Calls.getD v21.toNat Z4).Count), (.int .i64 (a0.Calls.getD v21.toNat Z4).Errors), (.int .i64 (a0.Calls.getD v21.toNat Z4).Time)]) I Z7o I I I) <| Z9 12 I (Z26 (cs := [(.str (a0.Calls.getD v21.toNat Z4).Callee), (.int .i64 (a0.Calls.getD v21.toNat Z4).Count), (.int .i64 (a0.Calls.getD v21.toNat Z4).Errors), (.int .i64 (a0.Calls.getD v21.toNat Z4).Time)]) (v := (.str (a0.Calls.getD v21.toNat Z4).Callee)) I o9 I I) <| Z9 13 I (Z1d (vs := [(.str (a0.Calls.getD v21.toNat Z4).Callee)]) (enc := Z1f) (l := [(a0.Calls.getD v21.toNat Z4).Callee]) I el73 I I ⟨rfl, trivial⟩ I Z7i I I I I) ?_
               have ⟨hg40, h⟩ := Zv h
               refine Z9 14 I (st_appendZ (m := 77) (enc := Z1f) (l := (v2.getD v7.toNat [])) (l' := [(a0.Calls.getD v21.toNat Z4).Callee]) (src := (.vs 89)) (rd := [(89, (.vec 1 (List.map Z1f [(a0.Calls.getD v21.toNat Z4).Callee])))]) I I el73 I u73 I I I I (oneRead I) Z7i hg40) <| Z9 15 I (Z1d (vs := [(.sl 1 (((v2.getD v7.toNat []) ++ [(a0.Calls.getD v21.toNat Z4).Callee]).map Z1f) false)]) (enc := Z1r) (l := [((v2.getD v7.toNat []) ++ [(a0.Calls.getD v21.toNat Z4).Callee])]) I el100 I I ⟨rfl, trivial⟩ I Za0 I I I I) ?_
               have ⟨hg41, h⟩ := Zv h
               refine Z9 16 I (Z2g (m := 10) (enc := Z1r) (l := v22) (l' := ([((v2.getD v7.toNat []) ++ [(a0.Calls.getD v21.toNat Z4).Callee])])) (src := (.vs 91)) (rd := [(91, (.vec 1 (List.map Z1r ([((v2.getD v7.toNat []) ++ [(a0.Calls.getD v21.toNat Z4).Callee])]))))]) I I el100 I u100 I I I I (oneRead I) Za0 hg41) <| Z9 17 I (Zi (v := (.vs 10)) I I) <| AOpsD.nil (by kernel_rfl) I ?_
               exact Zw (st' := ⟨[(2, (.str a2)), (3, (.ptr 3 0)), (8, (.vs 8)), (9, (.int .i64 v1)), (10, (.vs 10)), (11, (.int .i64 v7)), (12, (.str ((v2.getD v7.toNat []).getD (IntKind.i64.wrap (((v2.getD v7.toNat []).length : Int) - 1)).toNat []))), (13, (.int .i64 v21))], [(3, (.box (Z5 a0).cells)), (8, (.vec 1 (List.map Z1r v2))), (10, (.vec 1 (List.map Z1r (v22 ++ ([((v2.getD v7.toNat []) ++ [(a0.Calls.getD v21.toNat Z4).Callee])])))))]⟩) ⟨rfl, rfl, rfl, rfl, rfl, rfl, rfl, rfl, trivial⟩ ⟨rfl, rfl, rfl, trivial⟩ (J35 (v22 ++ ([((v2.getD v7.toNat []) ++ [(a0.Calls.getD v21.toNat Z4).Callee])])) h)
              ·have h := hif.2 hc
               refine Z16 ?_
               exact Zw (st' := ⟨[(2, (.str a2)), (3, (.ptr 3 0)), (8, (.vs 8)), (9, (.int .i64 v1)), (10, (.vs 10)), (11, (.int .i64 v7)), (12, (.str ((v2.getD v7.toNat []).getD (IntKind.i64.wrap (((v2.getD v7.toNat []).length : Int) - 1)).toNat []))), (13, (.int .i64 v21))], [(3, (.box (Z5 a0).cells)), (8, (.vec 1 (List.map Z1r v2))), (10, (.vec 1 (List.map Z1r v22)))]⟩) ⟨rfl, rfl, rfl, rfl, rfl, rfl, rfl, rfl, trivial⟩ ⟨rfl, rfl, rfl, trivial⟩ (J35 v22 h)
            ·have h := hif.2 hc
             refine Zt I I I I I I I <| Zt I I I I I I I <| Zt I I I I I I I <| Zt I I I I I I I <| Zt I I I I I I I <| Zt I I I I I I I <| Zt I I I I I I I <| Zt I I I I I I I ?_
             refine Zt I I I I I I I <| Zt I I I I I I I <| Z1 I (Z2a (v := (.bool false)) I I I) I <| Ze <| Zf ?_
             refine Z13 (b := false) I (fun hc => ?_) (fun hc => ?_)
             ·cases hc
             refine Z16 <| At.end ?_
             exact Zw (st' := ⟨[(2, (.str a2)), (3, (.ptr 3 0)), (8, (.vs 8)), (9, (.int .i64 v1)), (10, (.vs 10)), (11, (.int .i64 v7)), (12, (.str ((v2.getD v7.toNat []).getD (IntKind.i64.wrap (((v2.getD v7.toNat []).length : Int) - 1)).toNat []))), (13, (.int .i64 v21))], [(3, (.box (Z5 a0).cells)), (8, (.vec 1 (List.map Z1r v2))), (10, (.vec 1 (List.map Z1r v22)))]⟩) ⟨rfl, rfl, rfl, rfl, rfl, rfl, rfl, rfl, trivial⟩ ⟨rfl, rfl, rfl, trivial⟩ (J29 v22 h)
          ·have h := hif.2 hc
           refine AWp.exit <| At.thru ?_
           exact Zw (st' := ⟨[(2, (.str a2)), (3, (.ptr 3 0)), (8, (.vs 8)), (9, (.int .i64 v1)), (10, (.vs 10)), (11, (.int .i64 v7))], [(3, (.box (Z5 a0).cells)), (8, (.vec 1 (List.map Z1r v2))), (10, (.vec 1 (List.map Z1r v22)))]⟩) ⟨rfl, rfl, rfl, rfl, rfl, rfl, trivial⟩ ⟨rfl, rfl, rfl, trivial⟩ (J23 v22 h)
      ·have h := hif.2 hc
       refine AWp.exit <| At.thru ?_
       exact Zw (st' := ⟨[(2, (.str a2)), (3, (.ptr 3 0)), (9, (.int .i64 v1)), (10, (.vs 10))], [(3, (.box (Z5 a0).cells)), (10, (.vec 1 (List.map Z1r v8)))]⟩) ⟨rfl, rfl, rfl, rfl, trivial⟩ ⟨rfl, rfl, trivial⟩ (J9 v8 h)
   ·have h := hif.2 hc
    refine AWp.exit <| At.thru ?_
    exact Zw (st' := ⟨[], []⟩) trivial trivial (J3 () h)
def Zau (K : Nat) (v13 : Bool) : Option (Bool) :=
 some v13
def Za6 (K : Nat) (v15 : Bool) : Option (Bool) :=
 some v15
def Z96 (K : Nat) (v6 : Int × Int) (v8 : (List Str) × Int) (v10 : (List Str) × Bool) (v11 : Int) : Option (Bool) :=
 if (v11 != 0) = true then
  if (v6.1 == 0) = true then
   if ((v8.1.length : Int) == 0) = true then
    if (v6.2 == v11) = true then
     Zau K (v8.2 == v11)
    else
     Zau K false
   else
    Zau K false
  else
   Zau K false
 else
  if (v6.1 == (IntKind.i64.wrap ((v10.1.length : Int) - 1))) = true then
   (F32 K v8.1 v10.1).bind fun v18 =>
    if v18 = true then
     if (v6.2 == 0) = true then
      Za6 K (v8.2 == 0)
     else
      Za6 K false
    else
     Za6 K false
  else
   Za6 K false
def Z60 (K : Nat) (v6 : Int × Int) (v8 : (List Str) × Int) (v10 : (List Str) × Bool) (v23 : Int) : Option (Bool) :=
 Z96 K v6 v8 v10 v23
noncomputable def F7 (K : Nat) (a0 : (List Z1l)) (a1 : Int) (a2 : Int) : Option (Bool) :=
 (F11 K).bind fun v2 =>
  if (!v2) = true then
   some false
  else
   (F22 K a0).bind fun v4 =>
    (F28 K v4 (List.map (fun n : Int => UInt8.ofNat n.toNat) [(IntKind.u8.wrap (97 + (a1.tmod 7)))]) (List.map (fun n : Int => UInt8.ofNat n.toNat) [(IntKind.u8.wrap (97 + (a2.tmod 7)))])).bind fun v6 =>
     (F29 K v4 (List.map (fun n : Int => UInt8.ofNat n.toNat) [(IntKind.u8.wrap (97 + (a1.tmod 7)))]) (List.map (fun n : Int => UInt8.ofNat n.toNat) [(IntKind.u8.wrap (97 + (a2.tmod 7)))])).bind fun v8 =>
      (F30 K v4 (List.map (fun n : Int => UInt8.ofNat n.toNat) [(IntKind.u8.wrap (97 + (a1.tmod 7)))]) (List.map (fun n : Int => UInt8.ofNat n.toNat) [(IntKind.u8.wrap (97 + (a2.tmod 7)))])).bind fun v10 =>
       (F31 K v4 (List.map (fun n : Int => UInt8.ofNat n.toNat) [(IntKind.u8.wrap (97 + (a1.tmod 7)))])).bind fun v20 =>
        if (v20.Spans == 0) = true then
         Z96 K v6 v8 v10 10
        else
         (F31 K v4 (List.map (fun n : Int => UInt8.ofNat n.toNat) [(IntKind.u8.wrap (97 + (a2.tmod 7)))])).bind fun v22 =>
          if (v22.Spans == 0) = true then
           Z60 K v6 v8 v10 10
          else
           if (!v10.2) = true then
            Z60 K v6 v8 v10 22
           else
            Z60 K v6 v8 v10 0
theorem F7_ok (K : Nat) (a0 : (List Z1l)) (a1 : Int) (a2 : Int) (r : Bool) (h : F7 K a0 a1 a2 = some r) : ACall P 7 ⟨[(.sl 3 (a0.map Z11) false), (.int .u8 a1), (.int .u8 a2)], [], (.bool r), [], []⟩ := by
 refine Z1p Tryz.func7 Tryz.results7 rfl Tryz.ntmps7 rfl rfl rfl ?_
 intro E Q hP hN hro hret
 obtain ⟨P', nt', w0, F0, p0, S0, β0, ro0⟩ := E
 simp only at hP hN
 subst hP hN
 dsimp only [argT]
 unfold F7 at h
 refine Zg <| Za <| Z1 I (Zi (v := (.bool false)) I I) I <| Ze <| Zf <| Zg <| Zg <| Za ?_
 have ⟨v2, hv2, h⟩ := Z1g h
 refine Z1 I (Z1i (ar := []) (caps := []) Tryz.call11 (F11_ok K v2 hv2) I I trivial I) I <| Z1 I (Z86 (b := v2) I I) I <| Ze <| Zf ?_
 have hif := Z1y h
 refine Z13 I (fun hc => ?_) (fun hc => ?_)
 ·have h := hif.1 hc
  refine Zg <| Za <| Z1 I (Zi (v := (.bool false)) I I) I <| Ze <| Zf <| Z1a <| Z1b ?_
  have h := Option.some.inj h
  subst h
  refine (hret _ ?_).1
  exact ⟨[(.bool false)], ⟨rfl, trivial⟩, rfl, trivial⟩
 ·have h := hif.2 hc
  refine Z16 <| Zf <| Zg <| Za <| Z1 I (Zh (v := (.sl 3 (a0.map Z11) false)) I I) I ?_
  have ⟨v4, hv4, h⟩ := Z1g h
  refine Z1 I (Z1i (ar := [(.sl 3 (a0.map Z11) false)]) (caps := []) Tryz.call22 (F22_ok K a0 v4 hv4) I I ⟨rfl, trivial⟩ I) I <| Z1 I (Z22 (cs := [(.sl 4 [] false), (.sl 5 [] false)]) I z44 I I I) I <| Z1 I (Z1j (cs := [(.sl 4 [] false), (.sl 5 [] false)]) (vs := (Z5 v4).cells) (ds := (Z5 v4).cells) (v := (Z5 v4)) sz44 I I I I I I I I) I <| Ze <| Zf <| Zg <| AWp.regionD mixed <| Z9 0 I (Zh (v := (.int .u8 a1)) I I) ?_
  refine Z9 1 I (Zcf (k := .u8) (a := a1) (b := 7) (c := (a1.tmod 7)) I I I I (by decide)) <| Z9 2 I (Z1n (k := .u8) (a := 97) (b := (a1.tmod 7)) (c := (IntKind.u8.wrap (97 + (a1.tmod 7)))) I I I I) <| Z9 3 I (Z1d (vs := [(.int .u8 (IntKind.u8.wrap (97 + (a1.tmod 7))))]) (enc := e_u8) (l := [(IntKind.u8.wrap (97 + (a1.tmod 7)))]) I el70 I I ⟨rfl, trivial⟩ I els_u8 I I I I) <| Z9 4 I (Z89 (enc := e_u8) (l := [(IntKind.u8.wrap (97 + (a1.tmod 7)))]) I u70 u5 u9 I I (fun _ => I)) <| Z9 5 I (Zh (v := (.int .u8 a2)) I I) <| Z9 6 I (Zcf (k := .u8) (a := a2) (b := 7) (c := (a2.tmod 7)) I I I I (by decide)) <| Z9 7 I (Z1n (k := .u8) (a := 97) (b := (a2.tmod 7)) (c := (IntKind.u8.wrap (97 + (a2.tmod 7)))) I I I I) <| Z9 8 I (Z1d (vs := [(.int .u8 (IntKind.u8.wrap (97 + (a2.tmod 7))))]) (enc := e_u8) (l := [(IntKind.u8.wrap (97 + (a2.tmod 7)))]) I el70 I I ⟨rfl, trivial⟩ I els_u8 I I I I) ?_
  refine Z9 9 I (Z89 (enc := e_u8) (l := [(IntKind.u8.wrap (97 + (a2.tmod 7)))]) I u70 u5 u9 I I (fun _ => I)) <| Z9 10 I (Zi (v := (.str (List.map (fun n : Int => UInt8.ofNat n.toNat) [(IntKind.u8.wrap (97 + (a1.tmod 7)))]))) I I) <| Z9 11 I (Zi (v := (.str (List.map (fun n : Int => UInt8.ofNat n.toNat) [(IntKind.u8.wrap (97 + (a2.tmod 7)))]))) I I) <| AOpsD.nil (by kernel_rfl) I <| Zf <| Zg <| Za <| Z1 I (Z1q (cs := (Z5 v4).cells) (vs := (Z5 v4).cells) I a44 I I I I) I ?_
  refine Z1 I (Zh (v := (.str (List.map (fun n : Int => UInt8.ofNat n.toNat) [(IntKind.u8.wrap (97 + (a1.tmod 7)))]))) I I) I <| Z1 I (Zh (v := (.str (List.map (fun n : Int => UInt8.ofNat n.toNat) [(IntKind.u8.wrap (97 + (a2.tmod 7)))]))) I I) I ?_
  have ⟨v6, hv6, h⟩ := Z1g h
  refine Z1 I (Z1i (ar := [(Z5 v4), (.str (List.map (fun n : Int => UInt8.ofNat n.toNat) [(IntKind.u8.wrap (97 + (a1.tmod 7)))])), (.str (List.map (fun n : Int => UInt8.ofNat n.toNat) [(IntKind.u8.wrap (97 + (a2.tmod 7)))]))]) (caps := []) Tryz.call28 (F28_ok K v4 (List.map (fun n : Int => UInt8.ofNat n.toNat) [(IntKind.u8.wrap (97 + (a1.tmod 7)))]) (List.map (fun n : Int => UInt8.ofNat n.toNat) [(IntKind.u8.wrap (97 + (a2.tmod 7)))]) v6 hv6) I I ⟨rfl, rfl, rfl, trivial⟩ I) I <| Z1 I (Zh (v := (.tup [(.int .i64 v6.1), (.int .i64 v6.2)])) I I) I <| Z1 I (Z21 (vs := [(.int .i64 v6.1), (.int .i64 v6.2)]) (v := (.int .i64 v6.1)) I I I) I <| Z1 I (Z21 (vs := [(.int .i64 v6.1), (.int .i64 v6.2)]) (v := (.int .i64 v6.2)) I I I) I <| Z1 I (Zi (v := (.int .i64 v6.1)) I I) I <| Z1 I (Zi (v := (.int .i64 v6.2)) I I) I <| Ze <| Zf ?_
  refine Zg <| Za <| Z1 I (Z1q (cs := (Z5 v4).cells) (vs := (Z5 v4).cells) I a44 I I I I) I <| Z1 I (Zh (v := (.str (List.map (fun n : Int => UInt8.ofNat n.toNat) [(IntKind.u8.wrap (97 + (a1.tmod 7)))]))) I I) I <| Z1 I (Zh (v := (.str (List.map (fun n : Int => UInt8.ofNat n.toNat) [(IntKind.u8.wrap (97 + (a2.tmod 7)))]))) I I) I ?_
  have ⟨v8, hv8, h⟩ := Z1g h
  refine Z1 I (Z1i (ar := [(Z5 v4), (.str (List.map (fun n : Int => UInt8.ofNat n.toNat) [(IntKind.u8.wrap (97 + (a1.tmod 7)))])), (.str (List.map (fun n : Int => UInt8.ofNat n.toNat) [(IntKind.u8.wrap (97 + (a2.tmod 7)))]))]) (caps := []) Tryz.call29 (F29_ok K v4 (List.map (fun n : Int => UInt8.ofNat n.toNat) [(IntKind.u8.wrap (97 + (a1.tmod 7)))]) (List.map (fun n : Int => UInt8.ofNat n.toNat) [(IntKind.u8.wrap (97 + (a2.tmod 7)))]) v8 hv8) I I ⟨rfl, rfl, rfl, trivial⟩ I) I <| Z1 I (Zh (v := (.tup [(.sl 1 (v8.1.map Z1f) false), (.int .i64 v8.2)])) I I) I <| Z1 I (Z21 (vs := [(.sl 1 (v8.1.map Z1f) false), (.int .i64 v8.2)]) (v := (.sl 1 (v8.1.map Z1f) false)) I I I) I <| Z1 I (Z21 (vs := [(.sl 1 (v8.1.map Z1f) false), (.int .i64 v8.2)]) (v := (.int .i64 v8.2)) I I I) I <| Z1 I (Zi (v := (.sl 1 (v8.1.map Z1f) false)) I I) I <| Z1 I (Zi (v := (.int .i64 v8.2)) I I) I <| Ze <| Zf ?_
  refine Zg <| Za <| Z1 I (Zi (v := (.int .i64 0)) I I) I <| Ze <| Zf <| Zg <| Za <| Z1 I (Z1q (cs := (Z5 v4).cells) (vs := (Z5 v4).cells) I a44 I I I I) I ?_
  refine Z1 I (Zh (v := (.str (List.map (fun n : Int => UInt8.ofNat n.toNat) [(IntKind.u8.wrap (97 + (a1.tmod 7)))]))) I I) I <| Z1 I (Zh (v := (.str (List.map (fun n : Int => UInt8.ofNat n.toNat) [(IntKind.u8.wrap (97 + (a2.tmod 7)))]))) I I) I ?_
  have ⟨v10, hv10, h⟩ := Z1g h
  refine Z1 I (Z1i (ar := [(Z5 v4), (.str (List.map (fun n : Int => UInt8.ofNat n.toNat) [(IntKind.u8.wrap (97 + (a1.tmod 7)))])), (.str (List.map (fun n : Int => UInt8.ofNat n.toNat) [(IntKind.u8.wrap (97 + (a2.tmod 7)))]))]) (caps := []) Tryz.call30 (F30_ok K v4 (List.map (fun n : Int => UInt8.ofNat n.toNat) [(IntKind.u8.wrap (97 + (a1.tmod 7)))]) (List.map (fun n : Int => UInt8.ofNat n.toNat) [(IntKind.u8.wrap (97 + (a2.tmod 7)))]) v10 hv10) I I ⟨rfl, rfl, rfl, trivial⟩ I) I <| Z1 I (Zh (v := (.tup [(.sl 1 (v10.1.map Z1f) false), (.bool v10.2)])) I I) I <| Z1 I (Z21 (vs := [(.sl 1 (v10.1.map Z1f) false), (.bool v10.2)]) (v := (.sl 1 (v10.1.map Z1f) false)) I I I) I <| Z1 I (Z21 (vs := [(.sl 1 (v10.1.map Z1f) false), (.bool v10.2)]) (v := (.bool v10.2)) I I I) I <| Z1 I (Zi (v := (.sl 1 (v10.1.map Z1f) false)) I I) I <| Z1 I (Zi (v := (.bool v10.2)) I I) I <| Ze <| Zf ?_
  refine Zg ?_
  refine AWp.blockJoin (V := Int) (lp := fun v => Z96 K v6 v8 v10 v = some r) (sh := fun v => ⟨[(10, (.int .i64 v6.1)), (11, (.int .i64 v6.2)), (12, (.sl 1 (v8.1.map Z1f) false)), (13, (.int .i64 v8.2)), (14, (.int .i64 v)), (15, (.sl 1 (v10.1.map Z1f) false))], []⟩) ?_ ?_
  ·intro v h
   revert h
   revert v
   intro v11 h
   try dsimp only at h ⊢
   unfold Z96 at h
   refine Zf <| Zg <| Zg <| Za <| Z1 I (Zh (v := (.int .i64 v11)) I I) I <| Z1 I (Z1w (k := .i64) (a := v11) (b := 0) (c := (v11 != 0)) I I I I) I <| Ze <| Zf ?_
   have hif := Z1y h
   refine Z13 I (fun hc => ?_) (fun hc => ?_)
   ·have h := hif.1 hc
    refine Zg ?_
    refine AWp.join (V := Bool) (lp := fun v => Zau K v = some r) (sh := fun v => ⟨[(6, (.bool v))], []⟩) ?_ ?_
    ·intro v h
     revert h
     revert v
     intro v13 h
     try dsimp only at h ⊢
     unfold Zau at h
     refine Zf <| Z1a <| Z1b ?_
     have h := Option.some.inj h
     subst h
     refine (hret _ ?_).1
     exact ⟨[(.bool v13)], ⟨rfl, trivial⟩, rfl, trivial⟩
    ·intro J14
     refine Za <| Z1 I (Zh (v := (.int .i64 v6.1)) I I) I <| Z1 I (Z1w (k := .i64) (a := v6.1) (b := 0) (c := (v6.1 == 0)) I I I I) I <| Z1 I (Zh (v := (.bool (v6.1 == 0))) I I) I ?_
     have hif := Z1y h
     refine AOps.split (fun hc => ?_) (fun hc => ?_)
     ·have h := hif.1 hc
      refine Zy I I I I (Zh (v := (.sl 1 (v8.1.map Z1f) false)) I I) I <| Zy I I I I (Z24 (l := v8.1) (enc := Z1f) I s73 I) I <| Zy I I I I (Z1w (k := .i64) (a := (v8.1.length : Int)) (b := 0) (c := ((v8.1.length : Int) == 0)) I I I I) I <| Z1 I (Z2d (v := (.bool ((v8.1.length : Int) == 0))) I I I) I <| Z1 I (Zh (v := (.bool ((v8.1.length : Int) == 0))) I I) I ?_
      have hif := Z1y h
      refine AOps.split (fun hc => ?_) (fun hc => ?_)
      ·have h := hif.1 hc
       refine Zy I I I I (Zh (v := (.int .i64 v6.2)) I I) I <| Zy I I I I (Zh (v := (.int .i64 v11)) I I) I <| Zy I I I I (Z1w (k := .i64) (a := v6.2) (b := v11) (c := (v6.2 == v11)) I I I I) I <| Z1 I (Z2d (v := (.bool (v6.2 == v11))) I I I) I <| Z1 I (Zh (v := (.bool (v6.2 == v11))) I I) I ?_
       have hif := Z1y h
       refine AOps.split (fun hc => ?_) (fun hc => ?_)
       ·have h := hif.1 hc
        refine Zy I I I I (Zh (v := (.int .i64 v8.2)) I I) I <| Zy I I I I (Zh (v := (.int .i64 v11)) I I) I <| Zy I I I I (Z1w (k := .i64) (a := v8.2) (b := v11) (c := (v8.2 == v11)) I I I I) I <| Z1 I (Z2d (v := (.bool (v8.2 == v11))) I I I) I <| Z1 I (Zi (v := (.bool (v8.2 == v11))) I I) I <| Ze ?_
        exact Zw (st' := ⟨[(6, (.bool (v8.2 == v11)))], []⟩) ⟨rfl, trivial⟩ trivial (J14 (v8.2 == v11) h)
       ·have h := hif.2 hc
        refine Zt I I I I I I I <| Zt I I I I I I I <| Zt I I I I I I I <| Z1 I (Z2a (v := (.bool false)) I I I) I <| Z1 I (Zi (v := (.bool false)) I I) I <| Ze ?_
        exact Zw (st' := ⟨[(6, (.bool false))], []⟩) ⟨rfl, trivial⟩ trivial (J14 false h)
      ·have h := hif.2 hc
       refine Zt I I I I I I I <| Zt I I I I I I I <| Zt I I I I I I I <| Z1 I (Z2a (v := (.bool false)) I I I) I <| Z1 I (Zh (v := (.bool false)) I I) I <| Zt I I I I I I I <| Zt I I I I I I I <| Zt I I I I I I I ?_
       refine Z1 I (Z2a (v := (.bool false)) I I I) I <| Z1 I (Zi (v := (.bool false)) I I) I <| Ze ?_
       exact Zw (st' := ⟨[(6, (.bool false))], []⟩) ⟨rfl, trivial⟩ trivial (J14 false h)
     ·have h := hif.2 hc
      refine Zt I I I I I I I <| Zt I I I I I I I <| Zt I I I I I I I <| Z1 I (Z2a (v := (.bool false)) I I I) I <| Z1 I (Zh (v := (.bool false)) I I) I <| Zt I I I I I I I <| Zt I I I I I I I <| Zt I I I I I I I ?_
      refine Z1 I (Z2a (v := (.bool false)) I I I) I <| Z1 I (Zh (v := (.bool false)) I I) I <| Zt I I I I I I I <| Zt I I I I I I I <| Zt I I I I I I I <| Z1 I (Z2a (v := (.bool false)) I I I) I <| Z1 I (Zi (v := (.bool false)) I I) I <| Ze ?_
      exact Zw (st' := ⟨[(6, (.bool false))], []⟩) ⟨rfl, trivial⟩ trivial (J14 false h)
   ·have h := hif.2 hc
    refine Z16 <| Zf <| Zg ?_
    refine AWp.join (V := Bool) (lp := fun v => Za6 K v = some r) (sh := fun v => ⟨[(6, (.bool v))], []⟩) ?_ ?_
    ·intro v h
     revert h
     revert v
     intro v15 h
     try dsimp only at h ⊢
     unfold Za6 at h
     refine Zf <| Z1a ?_
     have h := Option.some.inj h
     subst h
     refine (hret _ ?_).1
     exact ⟨[(.bool v15)], ⟨rfl, trivial⟩, rfl, trivial⟩
    ·intro J16
     refine Za <| Z1 I (Zh (v := (.int .i64 v6.1)) I I) I <| Z1 I (Zh (v := (.sl 1 (v10.1.map Z1f) false)) I I) I <| Z1 I (Z24 (l := v10.1) (enc := Z1f) I s73 I) I <| Z1 I (Z1n (k := .i64) (a := (v10.1.length : Int)) (b := 1) (c := (IntKind.i64.wrap ((v10.1.length : Int) - 1))) I I I I) I <| Z1 I (Z1w (k := .i64) (a := v6.1) (b := (IntKind.i64.wrap ((v10.1.length : Int) - 1))) (c := (v6.1 == (IntKind.i64.wrap ((v10.1.length : Int) - 1)))) I I I I) I <| Z1 I (Zh (v := (.bool (v6.1 == (IntKind.i64.wrap ((v10.1.length : Int) - 1))))) I I) I ?_
     have hif := Z1y h
     refine AOps.split (fun hc => ?_) (fun hc => ?_)
     ·have h := hif.1 hc
      refine Zy I I I I (Zh (v := (.sl 1 (v8.1.map Z1f) false)) I I) I <| Zy I I I I (Zh (v := (.sl 1 (v10.1.map Z1f) false)) I I) I ?_
      have ⟨v18, hv18, h⟩ := Z1g h
      refine Zy I I I I (Z1i (ar := [(.sl 1 (v8.1.map Z1f) false), (.sl 1 (v10.1.map Z1f) false)]) (caps := []) Tryz.call32 (F32_ok K v8.1 v10.1 v18 hv18) I I ⟨rfl, rfl, trivial⟩ I) I <| Z1 I (Z2d (v := (.bool v18)) I I I) I <| Z1 I (Zh (v := (.bool v18)) I I) I ?_
      have hif := Z1y h
      refine AOps.split (fun hc => ?_) (fun hc => ?_)
      ·have h := hif.1 hc
       refine Zy I I I I (Zh (v := (.int .i64 v6.2)) I I) I <| Zy I I I I (Z1w (k := .i64) (a := v6.2) (b := 0) (c := (v6.2 == 0)) I I I I) I <| Z1 I (Z2d (v := (.bool (v6.2 == 0))) I I I) I <| Z1 I (Zh (v := (.bool (v6.2 == 0))) I I) I ?_
       have hif := Z1y h
       refine AOps.split (fun hc => ?_) (fun hc => ?_)
       ·have h := hif.1 hc
        refine Zy I I I I (Zh (v := (.int .i64 v8.2)) I I) I <| Zy I I I I (Z1w (k := .i64) (a := v8.2) (b := 0) (c := (v8.2 == 0)) I I I I) I <| Z1 I (Z2d (v := (.bool (v8.2 == 0))) I I I) I <| Z1 I (Zi (v := (.bool (v8.2 == 0))) I I) I <| Ze ?_
        exact Zw (st' := ⟨[(6, (.bool (v8.2 == 0)))], []⟩) ⟨rfl, trivial⟩ trivial (J16 (v8.2 == 0) h)
       ·have h := hif.2 hc
        refine Zt I I I I I I I <| Zt I I I I I I I <| Z1 I (Z2a (v := (.bool false)) I I I) I <| Z1 I (Zi (v := (.bool false)) I I) I <| Ze ?_
        exact Zw (st' := ⟨[(6, (.bool false))], []⟩) ⟨rfl, trivial⟩ trivial (J16 false h)
      ·have h := hif.2 hc
       refine Zt I I I I I I I <| Zt I I I I I I I <| Z1 I (Z2a (v := (.bool false)) I I I) I <| Z1 I (Zh (v := (.bool false)) I I) I <| Zt I I I I I I I <| Zt I I I I I I I <| Z1 I (Z2a (v := (.bool false)) I I I) I <| Z1 I (Zi (v := (.bool false)) I I) I ?_
       refine Ze ?_
       exact Zw (st' := ⟨[(6, (.bool false))], []⟩) ⟨rfl, trivial⟩ trivial (J16 false h)
     ·have h := hif.2 hc
      refine Zt I I I I I I I <| Zt I I I I I I I <| Zt I I I I I I I <| Z1 I (Z2a (v := (.bool false)) I I I) I <| Z1 I (Zh (v := (.bool false)) I I) I <| Zt I I I I I I I <| Zt I I I I I I I <| Z1 I (Z2a (v := (.bool false)) I I I) I ?_
      refine Z1 I (Zh (v := (.bool false)) I I) I <| Zt I I I I I I I <| Zt I I I I I I I <| Z1 I (Z2a (v := (.bool false)) I I I) I <| Z1 I (Zi (v := (.bool false)) I I) I <| Ze ?_
      exact Zw (st' := ⟨[(6, (.bool false))], []⟩) ⟨rfl, trivial⟩ trivial (J16 false h)
  ·intro J12
   refine Zg <| Za <| Z1 I (Z1q (cs := (Z5 v4).cells) (vs := (Z5 v4).cells) I a44 I I I I) I <| Z1 I (Zh (v := (.str (List.map (fun n : Int => UInt8.ofNat n.toNat) [(IntKind.u8.wrap (97 + (a1.tmod 7)))]))) I I) I ?_
   have ⟨v20, hv20, h⟩ := Z1g h
   refine Z1 I (Z1i (ar := [(Z5 v4), (.str (List.map (fun n : Int => UInt8.ofNat n.toNat) [(IntKind.u8.wrap (97 + (a1.tmod 7)))]))]) (caps := []) Tryz.call31 (F31_ok K v4 (List.map (fun n : Int => UInt8.ofNat n.toNat) [(IntKind.u8.wrap (97 + (a1.tmod 7)))]) v20 hv20) I I ⟨rfl, rfl, trivial⟩ I) I <| Z1 I (st_field (cs := (Z2 v20).cells) (v := (.int .i64 v20.Spans)) I ft68_1 o3 I I) I <| Z1 I (Z1w (k := .i64) (a := v20.Spans) (b := 0) (c := (v20.Spans == 0)) I I I I) I <| Z1 I (Zh (v := (.bool (v20.Spans == 0))) I I) I ?_
   have hif := Z1y h
   refine AOps.split (fun hc => ?_) (fun hc => ?_)
   ·have h := hif.1 hc
    refine Zt I I I I I I I <| Zt I I I I I I I <| Zt I I I I I I I <| Zt I I I I I I I <| Zt I I I I I I I <| Z1 I (Z2d (v := (.bool true)) I I I) I <| Z1 I (Zi (v := (.bool true)) I I) I <| Ze ?_
    refine Zf ?_
    refine Z13 (b := true) I (fun hc => ?_) (fun hc => ?_)
    rotate_left
    ·cases hc
    refine Za <| Z1 I (Zi (v := (.int .i64 10)) I I) I <| Ze <| At.end ?_
    exact Zw (st' := ⟨[(10, (.int .i64 v6.1)), (11, (.int .i64 v6.2)), (12, (.sl 1 (v8.1.map Z1f) false)), (13, (.int .i64 v8.2)), (14, (.int .i64 10)), (15, (.sl 1 (v10.1.map Z1f) false))], []⟩) ⟨rfl, rfl, rfl, rfl, rfl, rfl, trivial⟩ trivial (J12 10 h)
   ·have h := hif.2 hc
    refine Zy I I I I (Z1q (cs := (Z5 v4).cells) (vs := (Z5 v4).cells) I a44 I I I I) I <| Zy I I I I (Zh (v := (.str (List.map (fun n : Int => UInt8.ofNat n.toNat) [(IntKind.u8.wrap (97 + (a2.tmod 7)))]))) I I) I ?_
    have ⟨v22, hv22, h⟩ := Z1g h
    refine Zy I I I I (Z1i (ar := [(Z5 v4), (.str (List.map (fun n : Int => UInt8.ofNat n.toNat) [(IntKind.u8.wrap (97 + (a2.tmod 7)))]))]) (caps := []) Tryz.call31 (F31_ok K v4 (List.map (fun n : Int => UInt8.ofNat n.toNat) [(IntKind.u8.wrap (97 + (a2.tmod 7)))]) v22 hv22) I I ⟨rfl, rfl, trivial⟩ I) I <| Zy I I I I (st_field (cs := (Z2 v22).cells) (v := (.int .i64 v22.Spans)) I ft68_1 o3 I I) I <| Zy I I I I (Z1w (k := .i64) (a := v22.Spans) (b := 0) (c := (v22.Spans == 0)) I I I I) I <| Z1 I (Z2a (v := (.bool (v22.Spans == 0))) I I I) I <| Z1 I (Zi (v := (.bool (v22.Spans == 0))) I I) I <| Ze <| Zf ?_
    refine AWp.join (V := Int) (lp := fun v => Z60 K v6 v8 v10 v = some r) (sh := fun v => ⟨[(10, (.int .i64 v6.1)), (11, (.int .i64 v6.2)), (12, (.sl 1 (v8.1.map Z1f) false)), (13, (.int .i64 v8.2)), (14, (.int .i64 v)), (15, (.sl 1 (v10.1.map Z1f) false))], []⟩) ?_ ?_
    ·intro v h
     revert h
     revert v
     intro v23 h
     try dsimp only at h ⊢
     unfold Z60 at h
     refine At.end ?_
     exact Zw (st' := ⟨[(10, (.int .i64 v6.1)), (11, (.int .i64 v6.2)), (12, (.sl 1 (v8.1.map Z1f) false)), (13, (.int .i64 v8.2)), (14, (.int .i64 v23)), (15, (.sl 1 (v10.1.map Z1f) false))], []⟩) ⟨rfl, rfl, rfl, rfl, rfl, rfl, trivial⟩ trivial (J12 v23 h)
    ·intro J24
     have hif := Z1y h
     refine Z13 I (fun hc => ?_) (fun hc => ?_)
     ·have h := hif.1 hc
      refine Za <| Z1 I (Zi (v := (.int .i64 10)) I I) I <| Ze ?_
      exact Zw (st' := ⟨[(10, (.int .i64 v6.1)), (11, (.int .i64 v6.2)), (12, (.sl 1 (v8.1.map Z1f) false)), (13, (.int .i64 v8.2)), (14, (.int .i64 10)), (15, (.sl 1 (v10.1.map Z1f) false))], []⟩) ⟨rfl, rfl, rfl, rfl, rfl, rfl, trivial⟩ trivial (J24 10 h)
     ·have h := hif.2 hc
      refine Zg <| Za <| Z1 I (Zh (v := (.bool v10.2)) I I) I <| Z1 I (Z86 (b := v10.2) I I) I <| Z1 I (Zi (v := (.bool (!v10.2))) I I) I <| Ze <| Zf ?_
      have hif := Z1y h
      refine Z13 I (fun hc => ?_) (fun hc => ?_)
      ·have h := hif.1 hc
       refine Za <| Z1 I (Zi (v := (.int .i64 22)) I I) I <| Ze ?_
       exact Zw (st' := ⟨[(10, (.int .i64 v6.1)), (11, (.int .i64 v6.2)), (12, (.sl 1 (v8.1.map Z1f) false)), (13, (.int .i64 v8.2)), (14, (.int .i64 22)), (15, (.sl 1 (v10.1.map Z1f) false))], []⟩) ⟨rfl, rfl, rfl, rfl, rfl, rfl, trivial⟩ trivial (J24 22 h)
      ·have h := hif.2 hc
       refine Z16 ?_
       exact Zw (st' := ⟨[(10, (.int .i64 v6.1)), (11, (.int .i64 v6.2)), (12, (.sl 1 (v8.1.map Z1f) false)), (13, (.int .i64 v8.2)), (14, (.int .i64 0)), (15, (.sl 1 (v10.1.map Z1f) false))], []⟩) ⟨rfl, rfl, rfl, rfl, rfl, rfl, trivial⟩ trivial (J24 0 h)
end Go.AM.TopZ
