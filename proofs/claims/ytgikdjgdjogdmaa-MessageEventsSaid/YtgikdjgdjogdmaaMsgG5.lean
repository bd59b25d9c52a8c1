/- What these functions compute, each with its walk: F38. -/
import Derived.Test.YtgikdjgdjogdmaaMsgT
namespace Go.AM.Msg
open Go Go.AM Go.Proofs
set_option maxRecDepth 100000
set_option maxHeartbeats 2000000
def F38_c3 (K : Nat) : Option (Ze × Bool) :=
 some (Z1, false)
def F38_j6 (K : Nat) (b5 : Int → Option (Ze × Bool)) (v1 : Int) : Option (Ze × Bool) :=
 b5 (IntKind.i64.wrap (v1 + 1))
def F38_l2 (K : Nat) (a0 : (List Ze)) (a1 : Zp) (c4 : Option (Ze × Bool)) : Nat → Int → Option (Ze × Bool)
 | 0, _ => none
 | k2 + 1, v1 =>
  if (decide (v1 < (a0.length : Int))) = true then
   if (0 : Int) ≤ v1 ∧ v1 < a0.length then
    if ((a0.getD v1.toNat Z1).Trace == a1.Trace) = true then
     if (0 : Int) ≤ v1 ∧ v1 < a0.length then
      if ((a0.getD v1.toNat Z1).Id == a1.Id) = true then
       if (0 : Int) ≤ v1 ∧ v1 < a0.length then
        some ((a0.getD v1.toNat Z1), true)
       else none
      else
       F38_j6 K (F38_l2 K a0 a1 c4 k2) v1
     else none
    else
     F38_j6 K (F38_l2 K a0 a1 c4 k2) v1
   else none
  else
   c4
def F38 (K : Nat) (a0 : (List Ze)) (a1 : Zp) : Option (Ze × Bool) :=
 F38_l2 K a0 a1 (F38_c3 K) K 0
theorem F38_ok (K : Nat) (a0 : (List Ze)) (a1 : Zp) (r : Ze × Bool) (h : F38 K a0 a1 = some r) : ACall P 38 ⟨[(.sl 14 (a0.map Z4) false), (Zk a1)], [], (.tup [(Z4 r.1), (.bool r.2)]), [], []⟩ := by
 refine acall_of Try.func38 Try.results38 rfl Try.ntmps38 rfl rfl rfl ?_
 intro E Q hP hN hro hret
 obtain ⟨P', nt', w0, F0, p0, S0, β0, ro0⟩ := E
 simp only at hP hN
 subst hP hN
 dsimp only [argT]
 unfold F38 at h
 refine Zj <| Zc <| Z2 I (st_box (v := (Zk a1)) (cs := (Zk a1).cells) I I I I I) I <| Z2 I (st_alloc (cs := [(.int .i64 0), (.int .i64 0), (.int .i64 0), (.int .i64 0), (.int .i64 0), (.int .i64 0), (.str []), (.str []), (.str []), (.int .i64 0), (.int .i64 0), (.bool false), (.sl 4 [] false), (.sl 2 [] false)]) I z38 I I I) I <| Z2 I (Zl (v := (.bool false)) I I) I <| Zf <| Zh <| Zj ?_
 refine Zj <| Zc <| Z2 I (Zl (v := (.int .i64 0)) I I) I <| Zf <| Zh <| AWp.weaken (st' := ⟨[(0, (.sl 14 (a0.map Z4) false)), (3, (.ptr 3 0)), (4, (.ptr 4 0)), (6, (.int .i64 0))], [(3, (.box (Zk a1).cells)), (4, (.box [(.int .i64 0), (.int .i64 0), (.int .i64 0), (.int .i64 0), (.int .i64 0), (.int .i64 0), (.str []), (.str []), (.str []), (.int .i64 0), (.int .i64 0), (.bool false), (.sl 4 [] false), (.sl 2 [] false)]))]⟩) ⟨rfl, rfl, rfl, rfl, trivial⟩ ⟨rfl, rfl, trivial⟩ ?_
 refine AWp.loopBlock (V := Int) (X := Unit) (lp := fun k v => F38_l2 K a0 a1 (F38_c3 K) k v = some r) (sh := fun v => ⟨[(0, (.sl 14 (a0.map Z4) false)), (3, (.ptr 3 0)), (4, (.ptr 4 0)), (6, (.int .i64 v))], [(3, (.box (Zk a1).cells)), (4, (.box [(.int .i64 0), (.int .i64 0), (.int .i64 0), (.int .i64 0), (.int .i64 0), (.int .i64 0), (.str []), (.str []), (.str []), (.int .i64 0), (.int .i64 0), (.bool false), (.sl 4 [] false), (.sl 2 [] false)]))]⟩) (x := fun v => F38_c3 K = some r) (shx := fun v => ⟨[(4, (.ptr 4 0))], [(4, (.box [(.int .i64 0), (.int .i64 0), (.int .i64 0), (.int .i64 0), (.int .i64 0), (.int .i64 0), (.str []), (.str []), (.str []), (.int .i64 0), (.int .i64 0), (.bool false), (.sl 4 [] false), (.sl 2 [] false)]))]⟩) (k := K) (v := 0) h ?_ ?_
 ·intro v h
  try dsimp only at h ⊢
  unfold F38_c3 at h
  refine Zh <| Zj <| Zc <| Z2 I (stx_build (vs := []) (cs := [(.int .i64 0), (.int .i64 0), (.int .i64 0), (.int .i64 0), (.int .i64 0), (.int .i64 0), (.str []), (.str []), (.str []), (.int .i64 0), (.int .i64 0), (.bool false), (.sl 4 [] false), (.sl 2 [] false)]) I st38 trivial I) I <| Z2 I (Z1g (cs := [(.int .i64 0), (.int .i64 0), (.int .i64 0), (.int .i64 0), (.int .i64 0), (.int .i64 0), (.str []), (.str []), (.str []), (.int .i64 0), (.int .i64 0), (.bool false), (.sl 4 [] false), (.sl 2 [] false)]) (vs := [(.int .i64 0), (.int .i64 0), (.int .i64 0), (.int .i64 0), (.int .i64 0), (.int .i64 0), (.str []), (.str []), (.str []), (.int .i64 0), (.int .i64 0), (.bool false), (.sl 4 [] false), (.sl 2 [] false)]) (ds := [(.int .i64 0), (.int .i64 0), (.int .i64 0), (.int .i64 0), (.int .i64 0), (.int .i64 0), (.str []), (.str []), (.str []), (.int .i64 0), (.int .i64 0), (.bool false), (.sl 4 [] false), (.sl 2 [] false)]) (v := (.ag [(.int .i64 0), (.int .i64 0), (.int .i64 0), (.int .i64 0), (.int .i64 0), (.int .i64 0), (.str []), (.str []), (.str []), (.int .i64 0), (.int .i64 0), (.bool false), (.sl 4 [] false), (.sl 2 [] false)])) sz38 I I I I I I I I) I <| Z2 I (Zl (v := (.bool false)) I I) I <| Zf <| Zh ?_
  refine Z1d ?_
  have h := Option.some.inj h
  subst h
  refine (hret _ ?_).1
  exact ⟨[(.ag [(.int .i64 0), (.int .i64 0), (.int .i64 0), (.int .i64 0), (.int .i64 0), (.int .i64 0), (.str []), (.str []), (.str []), (.int .i64 0), (.int .i64 0), (.bool false), (.sl 4 [] false), (.sl 2 [] false)]), (.bool false)], ⟨⟨4, _, rfl, rfl, .inr ⟨_, a38, rfl, rfl⟩⟩, rfl, trivial⟩, rfl, trivial⟩
 ·intro N k2 v h IH2 J2
  revert h
  revert v
  intro v1 h
  try dsimp only at h IH2 J2 ⊢
  cases k2 with
  | zero => cases h
  | succ k2 =>
   rw [F38_l2] at h
   refine Zj <| Zj <| Zc <| Z2 I (Zg (v := (.int .i64 v1)) I I) I <| Z2 I (Zg (v := (.sl 14 (a0.map Z4) false)) I I) I <| Z2 I (stx_len (l := a0) (enc := Z4) I s33 I) I <| Z2 I (st_cmp (k := .i64) (a := v1) (b := (a0.length : Int)) (c := (decide (v1 < (a0.length : Int)))) I I I I) I <| Zf ?_
   refine Zh ?_
   have hif := of_if h
   refine Z16 I (fun hc => ?_) (fun hc => ?_)
   ·have h := hif.1 hc
    refine Z19 <| Zh <| Zj ?_
    refine AWp.blockJoin (V := Unit) (lp := fun v => F38_j6 K (F38_l2 K a0 a1 (F38_c3 K) k2) v1 = some r) (sh := fun v => ⟨[(0, (.sl 14 (a0.map Z4) false)), (3, (.ptr 3 0)), (4, (.ptr 4 0)), (6, (.int .i64 v1))], [(3, (.box (Zk a1).cells)), (4, (.box [(.int .i64 0), (.int .i64 0), (.int .i64 0), (.int .i64 0), (.int .i64 0), (.int .i64 0), (.str []), (.str []), (.str []), (.int .i64 0), (.int .i64 0), (.bool false), (.sl 4 [] false), (.sl 2 [] false)]))]⟩) ?_ ?_
    ·intro v h
     try dsimp only at h ⊢
     unfold F38_j6 at h
     refine Zh <| Zc <| Z2 I (Zg (v := (.int .i64 v1)) I I) I <| Z2 I (Z1k (k := .i64) (a := v1) (b := 1) (c := (IntKind.i64.wrap (v1 + 1))) I I I I) I <| Z2 I (Zl (v := (.int .i64 (IntKind.i64.wrap (v1 + 1)))) I I) I <| Zf ?_
     exact Zx (st' := ⟨[(0, (.sl 14 (a0.map Z4) false)), (3, (.ptr 3 0)), (4, (.ptr 4 0)), (6, (.int .i64 (IntKind.i64.wrap (v1 + 1))))], [(3, (.box (Zk a1).cells)), (4, (.box [(.int .i64 0), (.int .i64 0), (.int .i64 0), (.int .i64 0), (.int .i64 0), (.int .i64 0), (.str []), (.str []), (.str []), (.int .i64 0), (.int .i64 0), (.bool false), (.sl 4 [] false), (.sl 2 [] false)]))]⟩) ⟨rfl, rfl, rfl, rfl, trivial⟩ ⟨rfl, rfl, trivial⟩ (IH2 _ (IntKind.i64.wrap (v1 + 1)) (Nat.lt_succ_self _) h)
    ·intro J6
     refine Zj <| AWp.regionD mixed <| Z8 0 I (Zg (v := (.sl 14 (a0.map Z4) false)) I I) <| Z8 1 I (Zg (v := (.int .i64 v1)) I I) ?_
     have ⟨hg7, h⟩ := Zz h
     refine Z8 2 I (st_index (k := .i64) (l := a0) (enc := Z4) (z := Z1) (n := v1) (cs := (Z4 (a0.getD v1.toNat Z1)).cells) (full := false) I s33 I I hg7 I) <| Z8 3 I (st_fieldI (cs := (Z4 (a0.getD v1.toNat Z1)).cells) (ds := (Z4 (a0.getD v1.toNat Z1)).cells) I f38_0 I I I) <| Z8 4 I (st_loadI (cs := (Z4 (a0.getD v1.toNat Z1)).cells) (v := (.int .i64 (a0.getD v1.toNat Z1).Trace)) I o3 I I) <| Z8 5 I (Zq (m := 3) (o := 0) I f23_0 I I) <| Z8 6 I (Zy (cs := (Zk a1).cells) (v := (.int .i64 a1.Trace)) I o3 I I I) <| Z8 7 I (st_cmp (k := .i64) (a := (a0.getD v1.toNat Z1).Trace) (b := a1.Trace) (c := ((a0.getD v1.toNat Z1).Trace == a1.Trace)) I I I I) <| Z8 8 I (Zg (v := (.bool ((a0.getD v1.toNat Z1).Trace == a1.Trace))) I I) ?_
     have hif := of_if h
     refine AOpsD.split (fun hc => ?_) (fun hc => ?_)
     ·have h := hif.1 hc
      refine Zs 9 I I I I (Zg (v := (.sl 14 (a0.map Z4) false)) I I) <| Zs 10 I I I I (Zg (v := (.int .i64 v1)) I I) ?_
      have ⟨hg8, h⟩ := Zz h
      refine Zs 11 I I I I (st_index (k := .i64) (l := a0) (enc := Z4) (z := Z1) (n := v1) (cs := (Z4 (a0.getD v1.toNat Z1)).cells) (full := false) I s33 I I hg8 I) <| Zs 12 I I I I (st_fieldI (cs := (Z4 (a0.getD v1.toNat Z1)).cells) (ds := [(.int .i64 (a0.getD v1.toNat Z1).Id), (.int .i64 (a0.getD v1.toNat Z1).Parent), (.int .i64 (a0.getD v1.toNat Z1).Revision), (.int .i64 (a0.getD v1.toNat Z1).Clock), (.int .i64 (a0.getD v1.toNat Z1).Kind), (.str (a0.getD v1.toNat Z1).Service), (.str (a0.getD v1.toNat Z1).Version), (.str (a0.getD v1.toNat Z1).Operation), (.int .i64 (a0.getD v1.toNat Z1).Start), (.int .i64 (a0.getD v1.toNat Z1).End), (.bool (a0.getD v1.toNat Z1).Error), (.sl 4 ((a0.getD v1.toNat Z1).Attrs.map Zt) false), (.sl 2 ((a0.getD v1.toNat Z1).Links.map Zk) false)]) I f38_1 I I I) <| Zs 13 I I I I (st_loadI (cs := [(.int .i64 (a0.getD v1.toNat Z1).Id), (.int .i64 (a0.getD v1.toNat Z1).Parent), (.int .i64 (a0.getD v1.toNat Z1).Revision), (.int .i64 (a0.getD v1.toNat Z1).Clock), (.int .i64 (a0.getD v1.toNat Z1).Kind), (.str (a0.getD v1.toNat Z1).Service), (.str (a0.getD v1.toNat Z1).Version), (.str (a0.getD v1.toNat Z1).Operation), (.int .i64 (a0.getD v1.toNat Z1).Start), (.int .i64 (a0.getD v1.toNat Z1).End), (.bool (a0.getD v1.toNat Z1).Error), (.sl 4 ((a0.getD v1.toNat Z1).Attrs.map Zt) false), (.sl 2 ((a0.getD v1.toNat Z1).Links.map Zk) false)]) (v := (.int .i64 (a0.getD v1.toNat Z1).Id)) I o3 I I) <| Zs 14 I I I I (Zq (m := 3) (o := 0) I f23_1 I I) <| Zs 15 I I I I (Zy (cs := (Zk a1).cells) (v := (.int .i64 a1.Id)) I o3 I I I) <| Zs 16 I I I I (st_cmp (k := .i64) (a := (a0.getD v1.toNat Z1).Id) (b := a1.Id) (c := ((a0.getD v1.toNat Z1).Id == a1.Id)) I I I I) <| Z8 17 I (Z18 (v := (.bool ((a0.getD v1.toNat Z1).Id == a1.Id))) I I I) <| AOpsD.nil (by kernel_rfl) I ?_
      refine Zh ?_
      have hif := of_if h
      refine Z16 I (fun hc => ?_) (fun hc => ?_)
      ·have h := hif.1 hc
       refine Zj <| Zc <| Z2 I (Zg (v := (.sl 14 (a0.map Z4) false)) I I) I <| Z2 I (Zg (v := (.int .i64 v1)) I I) I ?_
       have ⟨hg9, h⟩ := Zz h
       refine Z2 I (st_index (k := .i64) (l := a0) (enc := Z4) (z := Z1) (n := v1) (cs := (Z4 (a0.getD v1.toNat Z1)).cells) (full := false) I s33 I I hg9 I) I <| Z2 I (st_loadIA (cs := (Z4 (a0.getD v1.toNat Z1)).cells) (vs := (Z4 (a0.getD v1.toNat Z1)).cells) I a38 I I I) I <| Z2 I (Z1g (cs := [(.int .i64 0), (.int .i64 0), (.int .i64 0), (.int .i64 0), (.int .i64 0), (.int .i64 0), (.str []), (.str []), (.str []), (.int .i64 0), (.int .i64 0), (.bool false), (.sl 4 [] false), (.sl 2 [] false)]) (vs := (Z4 (a0.getD v1.toNat Z1)).cells) (ds := (Z4 (a0.getD v1.toNat Z1)).cells) (v := (Z4 (a0.getD v1.toNat Z1))) sz38 I I I I I I I I) I <| Z2 I (Zl (v := (.bool true)) I I) I <| Zf <| Zh <| Z1d <| At.overR ?_
       refine Z1h ?_
       refine Z1h (At.overR ?_)
       refine Z1h ?_
       have h := Option.some.inj h
       subst h
       refine (hret _ ?_).1
       exact ⟨[(Z4 (a0.getD v1.toNat Z1)), (.bool true)], ⟨⟨4, _, rfl, rfl, .inr ⟨_, a38, rfl, rfl⟩⟩, rfl, trivial⟩, rfl, trivial⟩
      ·have h := hif.2 hc
       refine Z19 <| At.end ?_
       exact Zx (st' := ⟨[(0, (.sl 14 (a0.map Z4) false)), (3, (.ptr 3 0)), (4, (.ptr 4 0)), (6, (.int .i64 v1))], [(3, (.box (Zk a1).cells)), (4, (.box [(.int .i64 0), (.int .i64 0), (.int .i64 0), (.int .i64 0), (.int .i64 0), (.int .i64 0), (.str []), (.str []), (.str []), (.int .i64 0), (.int .i64 0), (.bool false), (.sl 4 [] false), (.sl 2 [] false)]))]⟩) ⟨rfl, rfl, rfl, rfl, trivial⟩ ⟨rfl, rfl, trivial⟩ (J6 () h)
     ·have h := hif.2 hc
      refine Z7 9 I I I I I I I <| Z7 10 I I I I I I I <| Z7 11 I I I I I I I <| Z7 12 I I I I I I I <| Z7 13 I I I I I I I <| Z7 14 I I I I I I I <| Z7 15 I I I I I I I <| Z7 16 I I I I I I I ?_
      refine Z8 17 I (Z1l (v := (.bool false)) I I I) <| AOpsD.nil (by kernel_rfl) I <| Zh ?_
      refine Z16 (b := false) I (fun hc => ?_) (fun hc => ?_)
      ·cases hc
      refine Z19 <| At.end ?_
      exact Zx (st' := ⟨[(0, (.sl 14 (a0.map Z4) false)), (3, (.ptr 3 0)), (4, (.ptr 4 0)), (6, (.int .i64 v1))], [(3, (.box (Zk a1).cells)), (4, (.box [(.int .i64 0), (.int .i64 0), (.int .i64 0), (.int .i64 0), (.int .i64 0), (.int .i64 0), (.str []), (.str []), (.str []), (.int .i64 0), (.int .i64 0), (.bool false), (.sl 4 [] false), (.sl 2 [] false)]))]⟩) ⟨rfl, rfl, rfl, rfl, trivial⟩ ⟨rfl, rfl, trivial⟩ (J6 () h)
   ·have h := hif.2 hc
    refine AWp.exit <| At.thru ?_
    exact Zx (st' := ⟨[(4, (.ptr 4 0))], [(4, (.box [(.int .i64 0), (.int .i64 0), (.int .i64 0), (.int .i64 0), (.int .i64 0), (.int .i64 0), (.str []), (.str []), (.str []), (.int .i64 0), (.int .i64 0), (.bool false), (.sl 4 [] false), (.sl 2 [] false)]))]⟩) ⟨rfl, trivial⟩ ⟨rfl, trivial⟩ (J2 () h)
end Go.AM.Msg
