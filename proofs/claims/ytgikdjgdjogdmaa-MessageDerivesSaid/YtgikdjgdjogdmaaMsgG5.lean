/- What these functions compute, each with its walk: F38. -/
import Derived.Test.YtgikdjgdjogdmaaMsgT
namespace Go.AM.Msg
open Go Go.AM Go.Proofs
set_option maxRecDepth 100000
set_option maxHeartbeats 2000000
def F38_c3 (K : Nat) : Option (Zd × Bool) :=
 some (Z1, false)
def F38_j6 (K : Nat) (b5 : Int → Option (Zd × Bool)) (v1 : Int) : Option (Zd × Bool) :=
 b5 (IntKind.i64.wrap (v1 + 1))
def F38_l2 (K : Nat) (a0 : (List Zd)) (a1 : Zr) (c4 : Option (Zd × Bool)) : Nat → Int → Option (Zd × Bool)
 | 0, _ => none
 | k2 + 1, v1 =>
  if (decide (v1 < (a0.length : Int))) = true then
   if (0 : Int) ≤ v1 ∧ v1 < a0.length then
    if ((a0.getD v1.toNat Z1).Trace == a1.Trace) = true then
     if (0 : Int) ≤ v1 ∧ v1 < a0.length then
      if ((a0.getD v1.toNat Z1).Id == a1.Id) = true then
       if (0 : Int) ≤ v1 ∧ v1 < a0.length then
        some ((a0.getD v1.toNat Z1), true)
       else none
      else
       F38_j6 K (F38_l2 K a0 a1 c4 k2) v1
     else none
    else
     F38_j6 K (F38_l2 K a0 a1 c4 k2) v1
   else none
  else
   c4
def F38 (K : Nat) (a0 : (List Zd)) (a1 : Zr) : Option (Zd × Bool) :=
 F38_l2 K a0 a1 (F38_c3 K) K 0
theorem F38_ok (K : Nat) (a0 : (List Zd)) (a1 : Zr) (r : Zd × Bool) (h : F38 K a0 a1 = some r) : ACall P 38 ⟨[(.sl 14 (a0.map Z3) false), (Zk a1)], [], (.tup [(Z3 r.1), (.bool r.2)]), [], []⟩ := by
 refine Z1t Try.func38 Try.results38 rfl Try.ntmps38 rfl rfl rfl ?_
 intro E Q hP hN hro hret
 obtain ⟨P', nt', w0, F0, p0, S0, β0, ro0⟩ := E
 simp only at hP hN
 subst hP hN
 dsimp only [argT]
 unfold F38 at h
 refine Zh <| Zc <| Z2 I (st_box (v := (Zk a1)) (cs := (Zk a1).cells) I I I I I) I <| Z2 I (st_alloc (cs := [(.int .i64 0), (.int .i64 0), (.int .i64 0), (.int .i64 0), (.int .i64 0), (.int .i64 0), (.str []), (.str []), (.str []), (.int .i64 0), (.int .i64 0), (.bool false), (.sl 4 [] false), (.sl 2 [] false)]) I z38 I I I) I <| Z2 I (Zj (v := (.bool false)) I I) I <| Zf <| Zg <| Zh ?_
 refine Zh <| Zc <| Z2 I (Zj (v := (.int .i64 0)) I I) I <| Zf <| Zg <| Z1x (st' := ⟨[(0, (.sl 14 (a0.map Z3) false)), (3, (.ptr 3 0)), (4, (.ptr 4 0)), (6, (.int .i64 0))], [(3, (.box (Zk a1).cells)), (4, (.box [(.int .i64 0), (.int .i64 0), (.int .i64 0), (.int .i64 0), (.int .i64 0), (.int .i64 0), (.str []), (.str []), (.str []), (.int .i64 0), (.int .i64 0), (.bool false), (.sl 4 [] false), (.sl 2 [] false)]))]⟩) ⟨rfl, rfl, rfl, rfl, trivial⟩ ⟨rfl, rfl, trivial⟩ ?_
 refine Z1j (V := Int) (X := Unit) (lp := fun k v => F38_l2 K a0 a1 (F38_c3 K) k v = some r) (sh := fun v => ⟨[(0, (.sl 14 (a0.map Z3) false)), (3, (.ptr 3 0)), (4, (.ptr 4 0)), (6, (.int .i64 v))], [(3, (.box (Zk a1).cells)), (4, (.box [(.int .i64 0), (.int .i64 0), (.int .i64 0), (.int .i64 0), (.int .i64 0), (.int .i64 0), (.str []), (.str []), (.str []), (.int .i64 0), (.int .i64 0), (.bool false), (.sl 4 [] false), (.sl 2 [] false)]))]⟩) (x := fun v => F38_c3 K = some r) (shx := fun v => ⟨[(4, (.ptr 4 0))], [(4, (.box [(.int .i64 0), (.int .i64 0), (.int .i64 0), (.int .i64 0), (.int .i64 0), (.int .i64 0), (.str []), (.str []), (.str []), (.int .i64 0), (.int .i64 0), (.bool false), (.sl 4 [] false), (.sl 2 [] false)]))]⟩) (k := K) (v := 0) h ?_ ?_
 ·intro v h
  try dsimp only at h ⊢
  unfold F38_c3 at h
  refine Zg <| Zh <| Zc <| Z2 I (stx_build (vs := []) (cs := [(.int .i64 0), (.int .i64 0), (.int .i64 0), (.int .i64 0), (.int .i64 0), (.int .i64 0), (.str []), (.str []), (.str []), (.int .i64 0), (.int .i64 0), (.bool false), (.sl 4 [] false), (.sl 2 [] false)]) I st38 trivial I) I <| Z2 I (Z1m (cs := [(.int .i64 0), (.int .i64 0), (.int .i64 0), (.int .i64 0), (.int .i64 0), (.int .i64 0), (.str []), (.str []), (.str []), (.int .i64 0), (.int .i64 0), (.bool false), (.sl 4 [] false), (.sl 2 [] false)]) (vs := [(.int .i64 0), (.int .i64 0), (.int .i64 0), (.int .i64 0), (.int .i64 0), (.int .i64 0), (.str []), (.str []), (.str []), (.int .i64 0), (.int .i64 0), (.bool false), (.sl 4 [] false), (.sl 2 [] false)]) (ds := [(.int .i64 0), (.int .i64 0), (.int .i64 0), (.int .i64 0), (.int .i64 0), (.int .i64 0), (.str []), (.str []), (.str []), (.int .i64 0), (.int .i64 0), (.bool false), (.sl 4 [] false), (.sl 2 [] false)]) (v := (.ag [(.int .i64 0), (.int .i64 0), (.int .i64 0), (.int .i64 0), (.int .i64 0), (.int .i64 0), (.str []), (.str []), (.str []), (.int .i64 0), (.int .i64 0), (.bool false), (.sl 4 [] false), (.sl 2 [] false)])) sz38 I I I I I I I I) I <| Z2 I (Zj (v := (.bool false)) I I) I <| Zf <| Zg ?_
  refine Z1e ?_
  have h := Option.some.inj h
  subst h
  refine (hret _ ?_).1
  exact ⟨[(.ag [(.int .i64 0), (.int .i64 0), (.int .i64 0), (.int .i64 0), (.int .i64 0), (.int .i64 0), (.str []), (.str []), (.str []), (.int .i64 0), (.int .i64 0), (.bool false), (.sl 4 [] false), (.sl 2 [] false)]), (.bool false)], ⟨⟨4, _, rfl, rfl, .inr ⟨_, a38, rfl, rfl⟩⟩, rfl, trivial⟩, rfl, trivial⟩
 ·intro N k2 v h IH2 J2
  revert h
  revert v
  intro v1 h
  try dsimp only at h IH2 J2 ⊢
  cases k2 with
  | zero => cases h
  | succ k2 =>
   rw [F38_l2] at h
   refine Zh <| Zh <| Zc <| Z2 I (Zi (v := (.int .i64 v1)) I I) I <| Z2 I (Zi (v := (.sl 14 (a0.map Z3) false)) I I) I <| Z2 I (stx_len (l := a0) (enc := Z3) I s33 I) I <| Z2 I (Z1o (k := .i64) (a := v1) (b := (a0.length : Int)) (c := (decide (v1 < (a0.length : Int)))) I I I I) I <| Zf ?_
   refine Zg ?_
   have hif := Z1u h
   refine Z16 I (fun hc => ?_) (fun hc => ?_)
   ·have h := hif.1 hc
    refine Z18 <| Zg <| Zh ?_
    refine AWp.blockJoin (V := Unit) (lp := fun v => F38_j6 K (F38_l2 K a0 a1 (F38_c3 K) k2) v1 = some r) (sh := fun v => ⟨[(0, (.sl 14 (a0.map Z3) false)), (3, (.ptr 3 0)), (4, (.ptr 4 0)), (6, (.int .i64 v1))], [(3, (.box (Zk a1).cells)), (4, (.box [(.int .i64 0), (.int .i64 0), (.int .i64 0), (.int .i64 0), (.int .i64 0), (.int .i64 0), (.str []), (.str []), (.str []), (.int .i64 0), (.int .i64 0), (.bool false), (.sl 4 [] false), (.sl 2 [] false)]))]⟩) ?_ ?_
    ·intro v h
     try dsimp only at h ⊢
     unfold F38_j6 at h
     refine Zg <| Zc <| Z2 I (Zi (v := (.int .i64 v1)) I I) I <| Z2 I (Z1h (k := .i64) (a := v1) (b := 1) (c := (IntKind.i64.wrap (v1 + 1))) I I I I) I <| Z2 I (Zj (v := (.int .i64 (IntKind.i64.wrap (v1 + 1)))) I I) I <| Zf ?_
     exact Zw (st' := ⟨[(0, (.sl 14 (a0.map Z3) false)), (3, (.ptr 3 0)), (4, (.ptr 4 0)), (6, (.int .i64 (IntKind.i64.wrap (v1 + 1))))], [(3, (.box (Zk a1).cells)), (4, (.box [(.int .i64 0), (.int .i64 0), (.int .i64 0), (.int .i64 0), (.int .i64 0), (.int .i64 0), (.str []), (.str []), (.str []), (.int .i64 0), (.int .i64 0), (.bool false), (.sl 4 [] false), (.sl 2 [] false)]))]⟩) ⟨rfl, rfl, rfl, rfl, trivial⟩ ⟨rfl, rfl, trivial⟩ (IH2 _ (IntKind.i64.wrap (v1 + 1)) (Nat.lt_succ_self _) h)
    ·intro J6
     refine Zh <| Z1s mixed <| Z7 0 I (Zi (v := (.sl 14 (a0.map Z3) false)) I I) <| Z7 1 I (Zi (v := (.int .i64 v1)) I I) ?_
     have ⟨hg7, h⟩ := Z10 h
     refine Z7 2 I (Z1r (k := .i64) (l := a0) (enc := Z3) (z := Z1) (n := v1) (cs := (Z3 (a0.getD v1.toNat Z1)).cells) (full := false) I s33 I I hg7 I) <| Z7 3 I (st_fieldI (cs := (Z3 (a0.getD v1.toNat Z1)).cells) (ds := (Z3 (a0.getD v1.toNat Z1)).cells) I f38_0 I I I) <| Z7 4 I (st_loadI (cs := (Z3 (a0.getD v1.toNat Z1)).cells) (v := (.int .i64 (a0.getD v1.toNat Z1).Trace)) I o3 I I) <| Z7 5 I (Zq (m := 3) (o := 0) I f23_0 I I) <| Z7 6 I (Z11 (cs := (Zk a1).cells) (v := (.int .i64 a1.Trace)) I o3 I I I) <| Z7 7 I (Z1o (k := .i64) (a := (a0.getD v1.toNat Z1).Trace) (b := a1.Trace) (c := ((a0.getD v1.toNat Z1).Trace == a1.Trace)) I I I I) <| Z7 8 I (Zi (v := (.bool ((a0.getD v1.toNat Z1).Trace == a1.Trace))) I I) ?_
     have hif := Z1u h
     refine AOpsD.split (fun hc => ?_) (fun hc => ?_)
     ·have h := hif.1 hc
      refine Z12 9 I I I I (Zi (v := (.sl 14 (a0.map Z3) false)) I I) <| Z12 10 I I I I (Zi (v := (.int .i64 v1)) I I) ?_
      have ⟨hg8, h⟩ := Z10 h
      refine Z12 11 I I I I (Z1r (k := .i64) (l := a0) (enc := Z3) (z := Z1) (n := v1) (cs := (Z3 (a0.getD v1.toNat Z1)).cells) (full := false) I s33 I I hg8 I) <| Z12 12 I I I I (st_fieldI (cs := (Z3 (a0.getD v1.toNat Z1)).cells) (ds := [(.int .i64 (a0.getD v1.toNat Z1).Id), (.int .i64 (a0.getD v1.toNat Z1).Parent), (.int .i64 (a0.getD v1.toNat Z1).Revision), (.int .i64 (a0.getD v1.toNat Z1).Clock), (.int .i64 (a0.getD v1.toNat Z1).Kind), (.str (a0.getD v1.toNat Z1).Service), (.str (a0.getD v1.toNat Z1).Version), (.str (a0.getD v1.toNat Z1).Operation), (.int .i64 (a0.getD v1.toNat Z1).Start), (.int .i64 (a0.getD v1.toNat Z1).End), (.bool (a0.getD v1.toNat Z1).Error), (.sl 4 ((a0.getD v1.toNat Z1).Attrs.map Zv) false), (.sl 2 ((a0.getD v1.toNat Z1).Links.map Zk) false)]) I f38_1 I I I) <| Z12 13 I I I I (st_loadI (cs := [(.int .i64 (a0.getD v1.toNat Z1).Id), (.int .i64 (a0.getD v1.toNat Z1).Parent), (.int .i64 (a0.getD v1.toNat Z1).Revision), (.int .i64 (a0.getD v1.toNat Z1).Clock), (.int .i64 (a0.getD v1.toNat Z1).Kind), (.str (a0.getD v1.toNat Z1).Service), (.str (a0.getD v1.toNat Z1).Version), (.str (a0.getD v1.toNat Z1).Operation), (.int .i64 (a0.getD v1.toNat Z1).Start), (.int .i64 (a0.getD v1.toNat Z1).End), (.bool (a0.getD v1.toNat Z1).Error), (.sl 4 ((a0.getD v1.toNat Z1).Attrs.map Zv) false), (.sl 2 ((a0.getD v1.toNat Z1).Links.map Zk) false)]) (v := (.int .i64 (a0.getD v1.toNat Z1).Id)) I o3 I I) <| Z12 14 I I I I (Zq (m := 3) (o := 0) I f23_1 I I) <| Z12 15 I I I I (Z11 (cs := (Zk a1).cells) (v := (.int .i64 a1.Id)) I o3 I I I) <| Z12 16 I I I I (Z1o (k := .i64) (a := (a0.getD v1.toNat Z1).Id) (b := a1.Id) (c := ((a0.getD v1.toNat Z1).Id == a1.Id)) I I I I) <| Z7 17 I (st_pickT (v := (.bool ((a0.getD v1.toNat Z1).Id == a1.Id))) I I I) <| Z1v (by kernel_rfl) I ?_
      refine Zg ?_
      have hif := Z1u h
      refine Z16 I (fun hc => ?_) (fun hc => ?_)
      ·have h := hif.1 hc
       refine Zh <| Zc <| Z2 I (Zi (v := (.sl 14 (a0.map Z3) false)) I I) I <| Z2 I (Zi (v := (.int .i64 v1)) I I) I ?_
       have ⟨hg9, h⟩ := Z10 h
       refine Z2 I (Z1r (k := .i64) (l := a0) (enc := Z3) (z := Z1) (n := v1) (cs := (Z3 (a0.getD v1.toNat Z1)).cells) (full := false) I s33 I I hg9 I) I <| Z2 I (st_loadIA (cs := (Z3 (a0.getD v1.toNat Z1)).cells) (vs := (Z3 (a0.getD v1.toNat Z1)).cells) I a38 I I I) I <| Z2 I (Z1m (cs := [(.int .i64 0), (.int .i64 0), (.int .i64 0), (.int .i64 0), (.int .i64 0), (.int .i64 0), (.str []), (.str []), (.str []), (.int .i64 0), (.int .i64 0), (.bool false), (.sl 4 [] false), (.sl 2 [] false)]) (vs := (Z3 (a0.getD v1.toNat Z1)).cells) (ds := (Z3 (a0.getD v1.toNat Z1)).cells) (v := (Z3 (a0.getD v1.toNat Z1))) sz38 I I I I I I I I) I <| Z2 I (Zj (v := (.bool true)) I I) I <| Zf <| Zg <| Z1e <| At.overR ?_
       refine Z1i ?_
       refine Z1i (At.overR ?_)
       refine Z1i ?_
       have h := Option.some.inj h
       subst h
       refine (hret _ ?_).1
       exact ⟨[(Z3 (a0.getD v1.toNat Z1)), (.bool true)], ⟨⟨4, _, rfl, rfl, .inr ⟨_, a38, rfl, rfl⟩⟩, rfl, trivial⟩, rfl, trivial⟩
      ·have h := hif.2 hc
       refine Z18 <| At.end ?_
       exact Zw (st' := ⟨[(0, (.sl 14 (a0.map Z3) false)), (3, (.ptr 3 0)), (4, (.ptr 4 0)), (6, (.int .i64 v1))], [(3, (.box (Zk a1).cells)), (4, (.box [(.int .i64 0), (.int .i64 0), (.int .i64 0), (.int .i64 0), (.int .i64 0), (.int .i64 0), (.str []), (.str []), (.str []), (.int .i64 0), (.int .i64 0), (.bool false), (.sl 4 [] false), (.sl 2 [] false)]))]⟩) ⟨rfl, rfl, rfl, rfl, trivial⟩ ⟨rfl, rfl, trivial⟩ (J6 () h)
     ·have h := hif.2 hc
      refine Zx 9 I I I I I I I <| Zx 10 I I I I I I I <| Zx 11 I I I I I I I <| Zx 12 I I I I I I I <| Zx 13 I I I I I I I <| Zx 14 I I I I I I I <| Zx 15 I I I I I I I <| Zx 16 I I I I I I I ?_
      refine Z7 17 I (Z1p (v := (.bool false)) I I I) <| Z1v (by kernel_rfl) I <| Zg ?_
      refine Z16 (b := false) I (fun hc => ?_) (fun hc => ?_)
      ·cases hc
      refine Z18 <| At.end ?_
      exact Zw (st' := ⟨[(0, (.sl 14 (a0.map Z3) false)), (3, (.ptr 3 0)), (4, (.ptr 4 0)), (6, (.int .i64 v1))], [(3, (.box (Zk a1).cells)), (4, (.box [(.int .i64 0), (.int .i64 0), (.int .i64 0), (.int .i64 0), (.int .i64 0), (.int .i64 0), (.str []), (.str []), (.str []), (.int .i64 0), (.int .i64 0), (.bool false), (.sl 4 [] false), (.sl 2 [] false)]))]⟩) ⟨rfl, rfl, rfl, rfl, trivial⟩ ⟨rfl, rfl, trivial⟩ (J6 () h)
   ·have h := hif.2 hc
    refine AWp.exit <| At.thru ?_
    exact Zw (st' := ⟨[(4, (.ptr 4 0))], [(4, (.box [(.int .i64 0), (.int .i64 0), (.int .i64 0), (.int .i64 0), (.int .i64 0), (.int .i64 0), (.str []), (.str []), (.str []), (.int .i64 0), (.int .i64 0), (.bool false), (.sl 4 [] false), (.sl 2 [] false)]))]⟩) ⟨rfl, trivial⟩ ⟨rfl, trivial⟩ (J2 () h)
end Go.AM.Msg
