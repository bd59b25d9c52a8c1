/- What these functions compute, each with its walk: F27. -/
import Derived.Test.YtcfcnnkaiboddaaGraT
namespace Go.AM.Gra
open Go Go.AM Go.Proofs
set_option maxRecDepth 100000
set_option maxHeartbeats 2000000
def F27_c3 (K : Nat) : Option (Bool) :=
 some true
def F27_l2 (K : Nat) (a0 : Zb) (a1 : Zb) (c4 : Option (Bool)) : Nat → Int → Option (Bool)
 | 0, _ => none
 | k2 + 1, v1 =>
  if (decide (v1 < (a0.Edges.length : Int))) = true then
   if (0 : Int) ≤ v1 ∧ v1 < a0.Edges.length then
    if (0 : Int) ≤ v1 ∧ v1 < a1.Edges.length then
     if (!(((a0.Edges.getD v1.toNat Z3).From == (a1.Edges.getD v1.toNat Z3).From) && (((a0.Edges.getD v1.toNat Z3).To == (a1.Edges.getD v1.toNat Z3).To) && true))) = true then
      some false
     else
      (F27_l2 K a0 a1 c4 k2) (IntKind.i64.wrap (v1 + 1))
    else none
   else none
  else
   c4
def F27 (K : Nat) (a0 : Zb) (a1 : Zb) : Option (Bool) :=
 if (a0.Count != a1.Count) = true then
  some false
 else
  if ((a0.Edges.length : Int) != (a1.Edges.length : Int)) = true then
   some false
  else
   F27_l2 K a0 a1 (F27_c3 K) K 0
theorem F27_ok (K : Nat) (a0 : Zb) (a1 : Zb) (r : Bool) (h : F27 K a0 a1 = some r) : ACall P 27 ⟨[(Z4 a0), (Z4 a1)], [], (.bool r), [], []⟩ := by
 refine acall_of Try.func27 Try.results27 rfl Try.ntmps27 rfl rfl rfl ?_
 intro E Q hP hN hro hret
 obtain ⟨P', nt', w0, F0, p0, S0, β0, ro0⟩ := E
 simp only at hP hN
 subst hP hN
 dsimp only [argT]
 unfold F27 at h
 refine Z9 <| Z5 <| Z1 I (st_box (v := (Z4 a0)) (cs := (Z4 a0).cells) I I I I I) I <| Z1 I (st_box (v := (Z4 a1)) (cs := (Z4 a1).cells) I I I I I) I <| Z1 I (Zf (v := (.bool false)) I I) I <| Z6 <| Z7 <| Z9 ?_
 refine Z9 <| Z5 <| Z1 I (Zt (m := 2) (o := 0) I f35_0 I I) I <| Z1 I (Zs (cs := (Z4 a0).cells) (v := (.int .i64 a0.Count)) I o3 I I I) I <| Z1 I (Zt (m := 3) (o := 0) I f35_0 I I) I <| Z1 I (Zs (cs := (Z4 a1).cells) (v := (.int .i64 a1.Count)) I o3 I I I) I <| Z1 I (st_cmp (k := .i64) (a := a0.Count) (b := a1.Count) (c := (a0.Count != a1.Count)) I I I I) I <| Z1 I (Z8 (v := (.bool (a0.Count != a1.Count))) I I) I ?_
 have hif := of_if h
 refine AOps.split (fun hc => ?_) (fun hc => ?_)
 ·have h := hif.1 hc
  refine Zd I I I I I I I <| Zd I I I I I I I <| Zd I I I I I I I <| Zd I I I I I I I <| Zd I I I I I I I <| Zd I I I I I I I <| Zd I I I I I I I <| Z1 I (st_pickT (v := (.bool true)) I I I) I ?_
  refine Z6 <| Z7 ?_
  refine Zo (b := true) I (fun hc => ?_) (fun hc => ?_)
  rotate_left
  ·cases hc
  refine Z9 <| Z5 <| Z1 I (Zf (v := (.bool false)) I I) I <| Z6 <| Z7 <| AWp.ret <| At.thruR ?_
  have h := Option.some.inj h
  subst h
  refine (hret _ ?_).1
  exact ⟨[(.bool false)], ⟨rfl, trivial⟩, rfl, trivial⟩
 ·have h := hif.2 hc
  refine Zl I I I I (Zt (m := 2) (o := 0) I f35_1 I I) I <| Zl I I I I (Zs (cs := (Z4 a0).cells) (v := (.sl 2 (a0.Edges.map Z2) false)) I o33 I I I) I <| Zl I I I I (stx_len (l := a0.Edges) (enc := Z2) I s33 I) I <| Zl I I I I (Zt (m := 3) (o := 0) I f35_1 I I) I <| Zl I I I I (Zs (cs := (Z4 a1).cells) (v := (.sl 2 (a1.Edges.map Z2) false)) I o33 I I I) I <| Zl I I I I (stx_len (l := a1.Edges) (enc := Z2) I s33 I) I <| Zl I I I I (st_cmp (k := .i64) (a := (a0.Edges.length : Int)) (b := (a1.Edges.length : Int)) (c := ((a0.Edges.length : Int) != (a1.Edges.length : Int))) I I I I) I <| Z1 I (Zy (v := (.bool ((a0.Edges.length : Int) != (a1.Edges.length : Int)))) I I I) I ?_
  refine Z6 <| Z7 ?_
  have hif := of_if h
  refine Zo I (fun hc => ?_) (fun hc => ?_)
  ·have h := hif.1 hc
   refine Z9 <| Z5 <| Z1 I (Zf (v := (.bool false)) I I) I <| Z6 <| Z7 <| AWp.ret <| At.thruR ?_
   have h := Option.some.inj h
   subst h
   refine (hret _ ?_).1
   exact ⟨[(.bool false)], ⟨rfl, trivial⟩, rfl, trivial⟩
  ·have h := hif.2 hc
   refine Zr <| Z7 <| Z9 <| Z9 <| Z5 <| Z1 I (Zf (v := (.int .i64 0)) I I) I <| Z6 <| Z7 ?_
   refine Zv (st' := ⟨[(2, (.ptr 2 0)), (3, (.ptr 3 0)), (5, (.int .i64 0))], [(2, (.box (Z4 a0).cells)), (3, (.box (Z4 a1).cells))]⟩) ⟨rfl, rfl, rfl, trivial⟩ ⟨rfl, rfl, trivial⟩ ?_
   refine Zp (V := Int) (X := Unit) (lp := fun k v => F27_l2 K a0 a1 (F27_c3 K) k v = some r) (sh := fun v => ⟨[(2, (.ptr 2 0)), (3, (.ptr 3 0)), (5, (.int .i64 v))], [(2, (.box (Z4 a0).cells)), (3, (.box (Z4 a1).cells))]⟩) (x := fun v => F27_c3 K = some r) (shx := fun v => ⟨[], []⟩) (k := K) (v := 0) h ?_ ?_
   ·intro v h
    try dsimp only at h ⊢
    unfold F27_c3 at h
    refine Z7 <| Z9 <| Z5 <| Z1 I (Zf (v := (.bool true)) I I) I <| Z6 <| Z7 <| AWp.ret ?_
    have h := Option.some.inj h
    subst h
    refine (hret _ ?_).1
    exact ⟨[(.bool true)], ⟨rfl, trivial⟩, rfl, trivial⟩
   ·intro N k2 v h IH2 J2
    revert h
    revert v
    intro v1 h
    try dsimp only at h IH2 J2 ⊢
    cases k2 with
    | zero => cases h
    | succ k2 =>
     rw [F27_l2] at h
     refine Z9 <| Z9 <| Z5 <| Z1 I (Z8 (v := (.int .i64 v1)) I I) I <| Z1 I (Zt (m := 2) (o := 0) I f35_1 I I) I <| Z1 I (Zs (cs := (Z4 a0).cells) (v := (.sl 2 (a0.Edges.map Z2) false)) I o33 I I I) I <| Z1 I (stx_len (l := a0.Edges) (enc := Z2) I s33 I) I <| Z1 I (st_cmp (k := .i64) (a := v1) (b := (a0.Edges.length : Int)) (c := (decide (v1 < (a0.Edges.length : Int)))) I I I I) I ?_
     refine Z6 <| Z7 ?_
     have hif := of_if h
     refine Zo I (fun hc => ?_) (fun hc => ?_)
     ·have h := hif.1 hc
      refine Zr <| Z7 <| Z9 <| AWp.block <| Z9 <| AWp.regionD mixed <| Ze 0 I (Zt (m := 2) (o := 0) I f35_1 I I) <| Ze 1 I (Zs (cs := (Z4 a0).cells) (v := (.sl 2 (a0.Edges.map Z2) false)) I o33 I I I) ?_
      refine Ze 2 I (Z8 (v := (.int .i64 v1)) I I) ?_
      have ⟨hg6, h⟩ := Zg h
      refine Ze 3 I (st_index (k := .i64) (l := a0.Edges) (enc := Z2) (z := Z3) (n := v1) (cs := (Z2 (a0.Edges.getD v1.toNat Z3)).cells) (full := false) I s33 I I hg6 I) <| Ze 4 I (st_loadIA (cs := (Z2 (a0.Edges.getD v1.toNat Z3)).cells) (vs := (Z2 (a0.Edges.getD v1.toNat Z3)).cells) I a64 I I I) <| Ze 5 I (Zt (m := 3) (o := 0) I f35_1 I I) <| Ze 6 I (Zs (cs := (Z4 a1).cells) (v := (.sl 2 (a1.Edges.map Z2) false)) I o33 I I I) <| Ze 7 I (Z8 (v := (.int .i64 v1)) I I) ?_
      have ⟨hg7, h⟩ := Zg h
      refine Ze 8 I (st_index (k := .i64) (l := a1.Edges) (enc := Z2) (z := Z3) (n := v1) (cs := (Z2 (a1.Edges.getD v1.toNat Z3)).cells) (full := false) I s33 I I hg7 I) <| Ze 9 I (st_loadIA (cs := (Z2 (a1.Edges.getD v1.toNat Z3)).cells) (vs := (Z2 (a1.Edges.getD v1.toNat Z3)).cells) I a64 I I I) <| Ze 10 I (st_cmpA (xs := (Z2 (a0.Edges.getD v1.toNat Z3)).cells) (ys := (Z2 (a1.Edges.getD v1.toNat Z3)).cells) (b := (((a0.Edges.getD v1.toNat Z3).From == (a1.Edges.getD v1.toNat Z3).From) && (((a0.Edges.getD v1.toNat Z3).To == (a1.Edges.getD v1.toNat Z3).To) && true))) (c := (!(((a0.Edges.getD v1.toNat Z3).From == (a1.Edges.getD v1.toNat Z3).From) && (((a0.Edges.getD v1.toNat Z3).To == (a1.Edges.getD v1.toNat Z3).To) && true)))) I eq64 I I I I) <| AOpsD.nil (by kernel_rfl) I <| Z7 ?_
      have hif := of_if h
      refine Zo I (fun hc => ?_) (fun hc => ?_)
      ·have h := hif.1 hc
       refine Z9 <| Z5 <| Z1 I (Zf (v := (.bool false)) I I) I <| Z6 <| Z7 <| AWp.ret <| At.overR <| At.thruR ?_
       refine At.thruR (At.overR ?_)
       refine At.thruR ?_
       have h := Option.some.inj h
       subst h
       refine (hret _ ?_).1
       exact ⟨[(.bool false)], ⟨rfl, trivial⟩, rfl, trivial⟩
      ·have h := hif.2 hc
       refine Zr <| At.end <| Z7 <| Z5 <| Z1 I (Z8 (v := (.int .i64 v1)) I I) I <| Z1 I (Zw (k := .i64) (a := v1) (b := 1) (c := (IntKind.i64.wrap (v1 + 1))) I I I I) I <| Z1 I (Zf (v := (.int .i64 (IntKind.i64.wrap (v1 + 1)))) I I) I <| Z6 ?_
       exact Zj (st' := ⟨[(2, (.ptr 2 0)), (3, (.ptr 3 0)), (5, (.int .i64 (IntKind.i64.wrap (v1 + 1))))], [(2, (.box (Z4 a0).cells)), (3, (.box (Z4 a1).cells))]⟩) ⟨rfl, rfl, rfl, trivial⟩ ⟨rfl, rfl, trivial⟩ (IH2 _ (IntKind.i64.wrap (v1 + 1)) (Nat.lt_succ_self _) h)
     ·have h := hif.2 hc
      refine AWp.exit <| At.thru ?_
      exact Zj (st' := ⟨[], []⟩) trivial trivial (J2 () h)
end Go.AM.Gra
