/- What these functions compute, each with its walk: F27. -/
import Derived.Test.YtcfcnnkaiboddaaGraT
namespace Go.AM.Gra
open Go Go.AM Go.Proofs
set_option maxRecDepth 100000
set_option maxHeartbeats 2000000
def F27_c3 (K : Nat) : Option (Bool) :=
 some true
def F27_l2 (K : Nat) (a0 : Zd) (a1 : Zd) (c4 : Option (Bool)) : Nat → Int → Option (Bool)
 | 0, _ => none
 | k2 + 1, v1 =>
  if (decide (v1 < (a0.Edges.length : Int))) = true then
   if (0 : Int) ≤ v1 ∧ v1 < a0.Edges.length then
    if (0 : Int) ≤ v1 ∧ v1 < a1.Edges.length then
     if (!(((a0.Edges.getD v1.toNat Z2).From == (a1.Edges.getD v1.toNat Z2).From) && (((a0.Edges.getD v1.toNat Z2).To == (a1.Edges.getD v1.toNat Z2).To) && true))) = true then
      some false
     else
      (F27_l2 K a0 a1 c4 k2) (IntKind.i64.wrap (v1 + 1))
    else none
   else none
  else
   c4
def F27 (K : Nat) (a0 : Zd) (a1 : Zd) : Option (Bool) :=
 if (a0.Count != a1.Count) = true then
  some false
 else
  if ((a0.Edges.length : Int) != (a1.Edges.length : Int)) = true then
   some false
  else
   F27_l2 K a0 a1 (F27_c3 K) K 0
theorem F27_ok (K : Nat) (a0 : Zd) (a1 : Zd) (r : Bool) (h : F27 K a0 a1 = some r) : ACall P 27 ⟨[(Z3 a0), (Z3 a1)], [], (.bool r), [], []⟩ := by
 refine acall_of Try.func27 Try.results27 rfl Try.ntmps27 rfl rfl rfl ?_
 intro E Q hP hN hro hret
 obtain ⟨P', nt', w0, F0, p0, S0, β0, ro0⟩ := E
 simp only at hP hN
 subst hP hN
 dsimp only [argT]
 unfold F27 at h
 refine Ze <| Z5 <| Z1 I (st_box (v := (Z3 a0)) (cs := (Z3 a0).cells) I I I I I) I <| Z1 I (st_box (v := (Z3 a1)) (cs := (Z3 a1).cells) I I I I I) I <| Z1 I (Zh (v := (.bool false)) I I) I <| Z8 <| Za <| Ze ?_
 refine Ze <| Z5 <| Z1 I (Zy (m := 2) (o := 0) I f35_0 I I) I <| Z1 I (Zw (cs := (Z3 a0).cells) (v := (.int .i64 a0.Count)) I o3 I I I) I <| Z1 I (Zy (m := 3) (o := 0) I f35_0 I I) I <| Z1 I (Zw (cs := (Z3 a1).cells) (v := (.int .i64 a1.Count)) I o3 I I I) I <| Z1 I (st_cmp (k := .i64) (a := a0.Count) (b := a1.Count) (c := (a0.Count != a1.Count)) I I I I) I <| Z1 I (Z6 (v := (.bool (a0.Count != a1.Count))) I I) I ?_
 have hif := of_if h
 refine AOps.split (fun hc => ?_) (fun hc => ?_)
 ·have h := hif.1 hc
  refine Z7 I I I I I I I <| Z7 I I I I I I I <| Z7 I I I I I I I <| Z7 I I I I I I I <| Z7 I I I I I I I <| Z7 I I I I I I I <| Z7 I I I I I I I <| Z1 I (st_pickT (v := (.bool true)) I I I) I ?_
  refine Z8 <| Za ?_
  refine Zp (b := true) I (fun hc => ?_) (fun hc => ?_)
  rotate_left
  ·cases hc
  refine Ze <| Z5 <| Z1 I (Zh (v := (.bool false)) I I) I <| Z8 <| Za <| AWp.ret <| At.thruR ?_
  have h := Option.some.inj h
  subst h
  refine (hret _ ?_).1
  exact ⟨[(.bool false)], ⟨rfl, trivial⟩, rfl, trivial⟩
 ·have h := hif.2 hc
  refine Zk I I I I (Zy (m := 2) (o := 0) I f35_1 I I) I <| Zk I I I I (Zw (cs := (Z3 a0).cells) (v := (.sl 2 (a0.Edges.map Z4) false)) I o33 I I I) I <| Zk I I I I (stx_len (l := a0.Edges) (enc := Z4) I s33 I) I <| Zk I I I I (Zy (m := 3) (o := 0) I f35_1 I I) I <| Zk I I I I (Zw (cs := (Z3 a1).cells) (v := (.sl 2 (a1.Edges.map Z4) false)) I o33 I I I) I <| Zk I I I I (stx_len (l := a1.Edges) (enc := Z4) I s33 I) I <| Zk I I I I (st_cmp (k := .i64) (a := (a0.Edges.length : Int)) (b := (a1.Edges.length : Int)) (c := ((a0.Edges.length : Int) != (a1.Edges.length : Int))) I I I I) I <| Z1 I (Zx (v := (.bool ((a0.Edges.length : Int) != (a1.Edges.length : Int)))) I I I) I ?_
  refine Z8 <| Za ?_
  have hif := of_if h
  refine Zp I (fun hc => ?_) (fun hc => ?_)
  ·have h := hif.1 hc
   refine Ze <| Z5 <| Z1 I (Zh (v := (.bool false)) I I) I <| Z8 <| Za <| AWp.ret <| At.thruR ?_
   have h := Option.some.inj h
   subst h
   refine (hret _ ?_).1
   exact ⟨[(.bool false)], ⟨rfl, trivial⟩, rfl, trivial⟩
  ·have h := hif.2 hc
   refine Zs <| Za <| Ze <| Ze <| Z5 <| Z1 I (Zh (v := (.int .i64 0)) I I) I <| Z8 <| Za ?_
   refine Z10 (st' := ⟨[(2, (.ptr 2 0)), (3, (.ptr 3 0)), (5, (.int .i64 0))], [(2, (.box (Z3 a0).cells)), (3, (.box (Z3 a1).cells))]⟩) ⟨rfl, rfl, rfl, trivial⟩ ⟨rfl, rfl, trivial⟩ ?_
   refine Zq (V := Int) (X := Unit) (lp := fun k v => F27_l2 K a0 a1 (F27_c3 K) k v = some r) (sh := fun v => ⟨[(2, (.ptr 2 0)), (3, (.ptr 3 0)), (5, (.int .i64 v))], [(2, (.box (Z3 a0).cells)), (3, (.box (Z3 a1).cells))]⟩) (x := fun v => F27_c3 K = some r) (shx := fun v => ⟨[], []⟩) (k := K) (v := 0) h ?_ ?_
   ·intro v h
    try dsimp only at h ⊢
    unfold F27_c3 at h
    refine Za <| Ze <| Z5 <| Z1 I (Zh (v := (.bool true)) I I) I <| Z8 <| Za <| AWp.ret ?_
    have h := Option.some.inj h
    subst h
    refine (hret _ ?_).1
    exact ⟨[(.bool true)], ⟨rfl, trivial⟩, rfl, trivial⟩
   ·intro N k2 v h IH2 J2
    revert h
    revert v
    intro v1 h
    try dsimp only at h IH2 J2 ⊢
    cases k2 with
    | zero => cases h
    | succ k2 =>
     rw [F27_l2] at h
     refine Ze <| Ze <| Z5 <| Z1 I (Z6 (v := (.int .i64 v1)) I I) I <| Z1 I (Zy (m := 2) (o := 0) I f35_1 I I) I <| Z1 I (Zw (cs := (Z3 a0).cells) (v := (.sl 2 (a0.Edges.map Z4) false)) I o33 I I I) I <| Z1 I (stx_len (l := a0.Edges) (enc := Z4) I s33 I) I <| Z1 I (st_cmp (k := .i64) (a := v1) (b := (a0.Edges.length : Int)) (c := (decide (v1 < (a0.Edges.length : Int)))) I I I I) I ?_
     refine Z8 <| Za ?_
     have hif := of_if h
     refine Zp I (fun hc => ?_) (fun hc => ?_)
     ·have h := hif.1 hc
      refine Zs <| Za <| Ze <| AWp.block <| Ze <| AWp.regionD mixed <| Zf 0 I (Zy (m := 2) (o := 0) I f35_1 I I) <| Zf 1 I (Zw (cs := (Z3 a0).cells) (v := (.sl 2 (a0.Edges.map Z4) false)) I o33 I I I) ?_
      refine Zf 2 I (Z6 (v := (.int .i64 v1)) I I) ?_
      have ⟨hg6, h⟩ := Zi h
      refine Zf 3 I (st_index (k := .i64) (l := a0.Edges) (enc := Z4) (z := Z2) (n := v1) (cs := (Z4 (a0.Edges.getD v1.toNat Z2)).cells) (full := false) I s33 I I hg6 I) <| Zf 4 I (st_loadIA (cs := (Z4 (a0.Edges.getD v1.toNat Z2)).cells) (vs := (Z4 (a0.Edges.getD v1.toNat Z2)).cells) I a64 I I I) <| Zf 5 I (Zy (m := 3) (o := 0) I f35_1 I I) <| Zf 6 I (Zw (cs := (Z3 a1).cells) (v := (.sl 2 (a1.Edges.map Z4) false)) I o33 I I I) <| Zf 7 I (Z6 (v := (.int .i64 v1)) I I) ?_
      have ⟨hg7, h⟩ := Zi h
      refine Zf 8 I (st_index (k := .i64) (l := a1.Edges) (enc := Z4) (z := Z2) (n := v1) (cs := (Z4 (a1.Edges.getD v1.toNat Z2)).cells) (full := false) I s33 I I hg7 I) <| Zf 9 I (st_loadIA (cs := (Z4 (a1.Edges.getD v1.toNat Z2)).cells) (vs := (Z4 (a1.Edges.getD v1.toNat Z2)).cells) I a64 I I I) <| Zf 10 I (st_cmpA (xs := (Z4 (a0.Edges.getD v1.toNat Z2)).cells) (ys := (Z4 (a1.Edges.getD v1.toNat Z2)).cells) (b := (((a0.Edges.getD v1.toNat Z2).From == (a1.Edges.getD v1.toNat Z2).From) && (((a0.Edges.getD v1.toNat Z2).To == (a1.Edges.getD v1.toNat Z2).To) && true))) (c := (!(((a0.Edges.getD v1.toNat Z2).From == (a1.Edges.getD v1.toNat Z2).From) && (((a0.Edges.getD v1.toNat Z2).To == (a1.Edges.getD v1.toNat Z2).To) && true)))) I eq64 I I I I) <| AOpsD.nil (by kernel_rfl) I <| Za ?_
      have hif := of_if h
      refine Zp I (fun hc => ?_) (fun hc => ?_)
      ·have h := hif.1 hc
       refine Ze <| Z5 <| Z1 I (Zh (v := (.bool false)) I I) I <| Z8 <| Za <| AWp.ret <| At.overR <| At.thruR ?_
       refine At.thruR (At.overR ?_)
       refine At.thruR ?_
       have h := Option.some.inj h
       subst h
       refine (hret _ ?_).1
       exact ⟨[(.bool false)], ⟨rfl, trivial⟩, rfl, trivial⟩
      ·have h := hif.2 hc
       refine Zs <| At.end <| Za <| Z5 <| Z1 I (Z6 (v := (.int .i64 v1)) I I) I <| Z1 I (Zz (k := .i64) (a := v1) (b := 1) (c := (IntKind.i64.wrap (v1 + 1))) I I I I) I <| Z1 I (Zh (v := (.int .i64 (IntKind.i64.wrap (v1 + 1)))) I I) I <| Z8 ?_
       exact Zj (st' := ⟨[(2, (.ptr 2 0)), (3, (.ptr 3 0)), (5, (.int .i64 (IntKind.i64.wrap (v1 + 1))))], [(2, (.box (Z3 a0).cells)), (3, (.box (Z3 a1).cells))]⟩) ⟨rfl, rfl, rfl, trivial⟩ ⟨rfl, rfl, trivial⟩ (IH2 _ (IntKind.i64.wrap (v1 + 1)) (Nat.lt_succ_self _) h)
     ·have h := hif.2 hc
      refine AWp.exit <| At.thru ?_
      exact Zj (st' := ⟨[], []⟩) trivial trivial (J2 () h)
end Go.AM.Gra
