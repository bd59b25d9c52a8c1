/- What these functions compute, each with its walk: F64, F69, F63, F43, F44, F12. -/
import Derived.Test.YtcfcnnkaiboddaaGraT
import Derived.Test.YtcfcnnkaiboddaaGraG0
import Derived.Test.YtcfcnnkaiboddaaGraG1
import Derived.Test.YtcfcnnkaiboddaaGraG2
import Derived.Test.YtcfcnnkaiboddaaGraG3
import Derived.Test.YtcfcnnkaiboddaaGraG4
import Derived.Test.YtcfcnnkaiboddaaGraG6
import Derived.Test.YtcfcnnkaiboddaaGraG9
import Derived.Test.YtcfcnnkaiboddaaGraG12
namespace Go.AM.Gra
open Go Go.AM Go.Proofs
set_option maxRecDepth 100000
set_option maxHeartbeats 2000000
def F64 (K : Nat) (a0 : Int) (a1 : (List (List Bool))) (a2 : Za) : Option (Bool) :=
 if (0 : Int) ≤ a0 ∧ a0 < a1.length then
  if (0 : Int) ≤ a2.To ∧ a2.To < (a1.getD a0.toNat []).length then
   some ((a1.getD a0.toNat []).getD a2.To.toNat false)
  else none
 else none
theorem F64_ok (K : Nat) (a0 : Int) (a1 : (List (List Bool))) (a2 : Za) (r : Bool) (h : F64 K a0 a1 a2 = some r) : ACall P 64 ⟨[(.int .i64 a0), (.ip [(.sl 1 (a1.map Zh) false)]), (.ip (Z2 a2).cells)], [], (.bool r), [], []⟩ := by
 refine acall_of Try.func64 Try.results64 rfl Try.ntmps64 rfl rfl rfl ?_
 intro E Q hP hN hro hret
 obtain ⟨P', nt', w0, F0, p0, S0, β0, ro0⟩ := E
 simp only at hP hN
 subst hP hN
 dsimp only [argT]
 unfold F64 at h
 refine Z9 <| Z5 <| Z1 I (Zf (v := (.bool false)) I I) I <| Z6 <| Z7 <| Z9 <| AWp.regionD mixed <| Ze 0 I (st_loadI (cs := [(.sl 1 (a1.map Zh) false)]) (v := (.sl 1 (a1.map Zh) false)) I o26 I I) ?_
 refine Ze 1 I (Z8 (v := (.int .i64 a0)) I I) ?_
 have ⟨hg1, h⟩ := Zg h
 refine Ze 2 I (st_index (k := .i64) (l := a1) (enc := Zh) (z := []) (n := a0) (cs := [(.sl 1 ((a1.getD a0.toNat []).map Zk) false)]) (full := false) I s26 I I hg1 I) <| Ze 3 I (st_loadI (cs := [(.sl 1 ((a1.getD a0.toNat []).map Zk) false)]) (v := (.sl 1 ((a1.getD a0.toNat []).map Zk) false)) I o49 I I) <| Ze 4 I (st_fieldI (cs := (Z2 a2).cells) (ds := [(.int .i64 a2.To)]) I f64_1 I I I) <| Ze 5 I (st_loadI (cs := [(.int .i64 a2.To)]) (v := (.int .i64 a2.To)) I o3 I I) ?_
 have ⟨hg2, h⟩ := Zg h
 refine Ze 6 I (st_index (k := .i64) (l := (a1.getD a0.toNat [])) (enc := Zk) (z := false) (n := a2.To) (cs := [(.bool ((a1.getD a0.toNat []).getD a2.To.toNat false))]) (full := false) I s49 I I hg2 I) <| Ze 7 I (st_loadI (cs := [(.bool ((a1.getD a0.toNat []).getD a2.To.toNat false))]) (v := (.bool ((a1.getD a0.toNat []).getD a2.To.toNat false))) I o4 I I) <| Ze 8 I (Zf (v := (.bool ((a1.getD a0.toNat []).getD a2.To.toNat false))) I I) <| AOpsD.nil (by kernel_rfl) I <| Z7 <| AWp.ret ?_
 have h := Option.some.inj h
 subst h
 refine (hret _ ?_).1
 exact ⟨[(.bool ((a1.getD a0.toNat []).getD a2.To.toNat false))], ⟨rfl, trivial⟩, rfl, trivial⟩
def F69_c3 (K : Nat) : Option (Int) :=
 some (Int.negSucc 0)
def F69_l2 (K : Nat) (a0 : (List Int)) (a100 : (List (List Bool))) (a101 : Za) (c4 : Option (Int)) : Nat → Int → Option (Int)
 | 0, _ => none
 | k2 + 1, v1 =>
  if (decide (v1 < (a0.length : Int))) = true then
   if (0 : Int) ≤ v1 ∧ v1 < a0.length then
    (F64 K (a0.getD v1.toNat 0) a100 a101).bind fun v8 =>
     if v8 = true then
      some v1
     else
      (F69_l2 K a0 a100 a101 c4 k2) (IntKind.i64.wrap (v1 + 1))
   else none
  else
   c4
def F69 (K : Nat) (a0 : (List Int)) (a100 : (List (List Bool))) (a101 : Za) : Option (Int) :=
 F69_l2 K a0 a100 a101 (F69_c3 K) K 0
theorem F69_ok (K : Nat) (a0 : (List Int)) (a100 : (List (List Bool))) (a101 : Za) (r : Int) (h : F69 K a0 a100 a101 = some r) : ACall P 69 ⟨[(.sl 1 (a0.map Zc) false), (.clo 64 [(.ip [(.sl 1 (a100.map Zh) false)]), (.ip (Z2 a101).cells)])], [], (.int .i64 r), [], []⟩ := by
 refine acall_of Try.func69 Try.results69 rfl Try.ntmps69 rfl rfl rfl ?_
 intro E Q hP hN hro hret
 obtain ⟨P', nt', w0, F0, p0, S0, β0, ro0⟩ := E
 simp only at hP hN
 subst hP hN
 dsimp only [argT]
 unfold F69 at h
 refine Z9 <| Z5 <| Z1 I (Zf (v := (.int .i64 0)) I I) I <| Z6 <| Z7 <| Z9 <| Z9 <| Z5 ?_
 refine Z1 I (Z8 (v := (.sl 1 (a0.map Zc) false)) I I) I <| Z1 I (stx_len (l := a0) (enc := Zc) I s29 I) I <| Z1 I (Z8 (v := (.int .i64 0)) I I) I <| Z6 <| Z7 <| Zv (st' := ⟨[(0, (.sl 1 (a0.map Zc) false)), (1, (.clo 64 [(.ip [(.sl 1 (a100.map Zh) false)]), (.ip (Z2 a101).cells)])), (7, (.int .i64 (a0.length : Int))), (8, (.int .i64 0))], []⟩) ⟨rfl, rfl, rfl, rfl, trivial⟩ trivial ?_
 refine Zp (V := Int) (X := Unit) (lp := fun k v => F69_l2 K a0 a100 a101 (F69_c3 K) k v = some r) (sh := fun v => ⟨[(0, (.sl 1 (a0.map Zc) false)), (1, (.clo 64 [(.ip [(.sl 1 (a100.map Zh) false)]), (.ip (Z2 a101).cells)])), (7, (.int .i64 (a0.length : Int))), (8, (.int .i64 v))], []⟩) (x := fun v => F69_c3 K = some r) (shx := fun v => ⟨[], []⟩) (k := K) (v := 0) h ?_ ?_
 ·intro v h
  try dsimp only at h ⊢
  unfold F69_c3 at h
  refine Z7 <| Z9 <| Z5 <| Z1 I (Zf (v := (.int .i64 (Int.negSucc 0))) I I) I <| Z6 <| Z7 <| AWp.ret ?_
  have h := Option.some.inj h
  subst h
  refine (hret _ ?_).1
  exact ⟨[(.int .i64 (Int.negSucc 0))], ⟨rfl, trivial⟩, rfl, trivial⟩
 ·intro N k2 v h IH2 J2
  revert h
  revert v
  intro v1 h
  try dsimp only at h IH2 J2 ⊢
  cases k2 with
  | zero => cases h
  | succ k2 =>
   rw [F69_l2] at h
   refine Z9 <| Z5 <| Z1 I (st_cmp (k := .i64) (a := v1) (b := (a0.length : Int)) (c := (decide (v1 < (a0.length : Int)))) I I I I) I <| Z6 <| Z7 <| Z9 ?_
   have hif := of_if h
   refine Zo I (fun hc => ?_) (fun hc => ?_)
   ·have h := hif.1 hc
    refine Zr <| Z7 <| Z9 <| AWp.block <| Z9 <| Z5 <| Z1 I (Z8 (v := (.int .i64 v1)) I I) I <| Z1 I (Zf (v := (.int .i64 v1)) I I) I ?_
    refine Z6 <| Z7 <| Z9 <| Z5 <| Z1 I (Z8 (v := (.clo 64 [(.ip [(.sl 1 (a100.map Zh) false)]), (.ip (Z2 a101).cells)])) I I) I <| Z1 I (Z8 (v := (.sl 1 (a0.map Zc) false)) I I) I <| Z1 I (Z8 (v := (.int .i64 v1)) I I) I ?_
    have ⟨hg6, h⟩ := Zg h
    refine Z1 I (st_index (k := .i64) (l := a0) (enc := Zc) (z := 0) (n := v1) (cs := [(.int .i64 (a0.getD v1.toNat 0))]) (full := false) I s29 I I hg6 I) I <| Z1 I (st_loadI (cs := [(.int .i64 (a0.getD v1.toNat 0))]) (v := (.int .i64 (a0.getD v1.toNat 0))) I o3 I I) I ?_
    have ⟨v8, hv8, h⟩ := of_bind h
    refine Z1 I (st_call0 (ar := [(.int .i64 (a0.getD v1.toNat 0))]) (caps := [(.ip [(.sl 1 (a100.map Zh) false)]), (.ip (Z2 a101).cells)]) Try.call64 (F64_ok K (a0.getD v1.toNat 0) a100 a101 v8 hv8) I I ⟨rfl, trivial⟩ I) I <| Z6 <| Z7 ?_
    have hif := of_if h
    refine Zo I (fun hc => ?_) (fun hc => ?_)
    ·have h := hif.1 hc
     refine Z9 <| Z5 <| Z1 I (Z8 (v := (.int .i64 v1)) I I) I <| Z1 I (Zf (v := (.int .i64 v1)) I I) I <| Z6 <| Z7 <| AWp.ret <| At.overR ?_
     refine At.thruR ?_
     refine At.thruR (At.overR ?_)
     refine At.thruR ?_
     have h := Option.some.inj h
     subst h
     refine (hret _ ?_).1
     exact ⟨[(.int .i64 v1)], ⟨rfl, trivial⟩, rfl, trivial⟩
    ·have h := hif.2 hc
     refine Zr <| At.end <| Z7 <| Z5 <| Z1 I (Zw (k := .i64) (a := v1) (b := 1) (c := (IntKind.i64.wrap (v1 + 1))) I I I I) I <| Z1 I (Z8 (v := (.int .i64 (IntKind.i64.wrap (v1 + 1)))) I I) I <| Z6 ?_
     exact Zj (st' := ⟨[(0, (.sl 1 (a0.map Zc) false)), (1, (.clo 64 [(.ip [(.sl 1 (a100.map Zh) false)]), (.ip (Z2 a101).cells)])), (7, (.int .i64 (a0.length : Int))), (8, (.int .i64 (IntKind.i64.wrap (v1 + 1))))], []⟩) ⟨rfl, rfl, rfl, rfl, trivial⟩ trivial (IH2 _ (IntKind.i64.wrap (v1 + 1)) (Nat.lt_succ_self _) h)
   ·have h := hif.2 hc
    refine AWp.exit <| At.thru ?_
    exact Zj (st' := ⟨[], []⟩) trivial trivial (J2 () h)
def F63 (K : Nat) (a0 : (List Int)) (a100 : (List (List Bool))) (a101 : Za) : Option (Bool) :=
 (F69 K a0 a100 a101).bind fun v2 =>
  some (decide (v2 ≥ 0))
theorem F63_ok (K : Nat) (a0 : (List Int)) (a100 : (List (List Bool))) (a101 : Za) (r : Bool) (h : F63 K a0 a100 a101 = some r) : ACall P 63 ⟨[(.sl 1 (a0.map Zc) false), (.clo 64 [(.ip [(.sl 1 (a100.map Zh) false)]), (.ip (Z2 a101).cells)])], [], (.bool r), [], []⟩ := by
 refine acall_of Try.func63 Try.results63 rfl Try.ntmps63 rfl rfl rfl ?_
 intro E Q hP hN hro hret
 obtain ⟨P', nt', w0, F0, p0, S0, β0, ro0⟩ := E
 simp only at hP hN
 subst hP hN
 dsimp only [argT]
 unfold F63 at h
 refine Z9 <| Z5 <| Z1 I (Zf (v := (.bool false)) I I) I <| Z6 <| Z7 <| Z9 <| Z5 <| Z1 I (Z8 (v := (.sl 1 (a0.map Zc) false)) I I) I ?_
 refine Z1 I (Z8 (v := (.clo 64 [(.ip [(.sl 1 (a100.map Zh) false)]), (.ip (Z2 a101).cells)])) I I) I ?_
 have ⟨v2, hv2, h⟩ := of_bind h
 refine Z1 I (st_call0 (ar := [(.sl 1 (a0.map Zc) false), (.clo 64 [(.ip [(.sl 1 (a100.map Zh) false)]), (.ip (Z2 a101).cells)])]) (caps := []) Try.call69 (F69_ok K a0 a100 a101 v2 hv2) I I ⟨rfl, rfl, trivial⟩ I) I <| Z1 I (st_cmp (k := .i64) (a := v2) (b := 0) (c := (decide (v2 ≥ 0))) I I I I) I <| Z1 I (Zf (v := (.bool (decide (v2 ≥ 0)))) I I) I <| Z6 <| Z7 <| AWp.ret ?_
 have h := Option.some.inj h
 subst h
 refine (hret _ ?_).1
 exact ⟨[(.bool (decide (v2 ≥ 0)))], ⟨rfl, trivial⟩, rfl, trivial⟩
def F43_c13 (K : Nat) (a0 : Zb) (v12 : (List Za)) : Option (Zb × Int) :=
 some ((⟨a0.Count, v12⟩ : Zb), 0)
def F43_j21 (K : Nat) (b15 : Int → (List Za) → Option (Zb × Int)) (v9 : Int) (v20 : (List Za)) : Option (Zb × Int) :=
 b15 (IntKind.i64.wrap (v9 + 1)) v20
def F43_l11 (K : Nat) (a0 : Zb) (v8 : (List (List Int))) (v2 : (List (List Bool))) (c14 : (List Za) → Option (Zb × Int)) : Nat → Int → (List Za) → Option (Zb × Int)
 | 0, _, _ => none
 | k11 + 1, v9, v10 =>
  if (decide (v9 < (a0.Edges.length : Int))) = true then
   if (0 : Int) ≤ v9 ∧ v9 < a0.Edges.length then
    if (0 : Int) ≤ (a0.Edges.getD v9.toNat Z3).From ∧ (a0.Edges.getD v9.toNat Z3).From < v8.length then
     (F63 K (v8.getD (a0.Edges.getD v9.toNat Z3).From.toNat []) v2 (a0.Edges.getD v9.toNat Z3)).bind fun v19 =>
      if (!v19) = true then
       if v10.length + [(a0.Edges.getD v9.toNat Z3)].length ≤ 1073741824 then
        F43_j21 K (F43_l11 K a0 v8 v2 c14 k11) v9 (v10 ++ [(a0.Edges.getD v9.toNat Z3)])
       else none
      else
       F43_j21 K (F43_l11 K a0 v8 v2 c14 k11) v9 v10
    else none
   else none
  else
   c14 v10
def F43_c5 (K : Nat) (a0 : Zb) (v2 : (List (List Bool))) : Option (Zb × Int) :=
 (F47 K a0).bind fun v8 =>
  F43_l11 K a0 v8 v2 (F43_c13 K a0) K 0 []
def F43_l4 (K : Nat) (a0 : Zb) (v2 : (List (List Bool))) (c6 : Option (Zb × Int)) : Nat → Int → Option (Zb × Int)
 | 0, _ => none
 | k4 + 1, v3 =>
  if (decide (v3 < a0.Count)) = true then
   if (0 : Int) ≤ v3 ∧ v3 < v2.length then
    if (0 : Int) ≤ v3 ∧ v3 < (v2.getD v3.toNat []).length then
     if ((v2.getD v3.toNat []).getD v3.toNat false) = true then
      some (z_Tgraph_Graph, 35)
     else
      (F43_l4 K a0 v2 c6 k4) (IntKind.i64.wrap (v3 + 1))
    else none
   else none
  else
   c6
def F43 (K : Nat) (a0 : Zb) : Option (Zb × Int) :=
 (F60 K a0).bind fun v2 =>
  F43_l4 K a0 v2 (F43_c5 K a0 v2) K 0
theorem F43_ok (K : Nat) (a0 : Zb) (r : Zb × Int) (h : F43 K a0 = some r) : ACall P 43 ⟨[(Z4 a0)], [], (.tup [(Z4 r.1), (.int .i64 r.2)]), [], []⟩ := by
 refine acall_of Try.func43 Try.results43 rfl Try.ntmps43 rfl rfl rfl ?_
 intro E Q hP hN hro hret
 obtain ⟨P', nt', w0, F0, p0, S0, β0, ro0⟩ := E
 simp only at hP hN
 subst hP hN
 dsimp only [argT]
 unfold F43 at h
 refine Z9 <| Z5 <| Z1 I (st_box (v := (Z4 a0)) (cs := (Z4 a0).cells) I I I I I) I <| Z1 I (st_alloc (cs := [(.int .i64 0), (.sl 2 [] true)]) I z35f I I I) I <| Z1 I (Zf (v := (.int .i64 0)) I I) I <| Z6 <| Z7 <| Z9 ?_
 refine Z5 <| Z1 I (st_loadPA (cs := (Z4 a0).cells) (vs := (Z4 a0).cells) I a35 I I I I) I ?_
 have ⟨v2, hv2, h⟩ := of_bind h
 refine Z1 I (st_call0 (ar := [(Z4 a0)]) (caps := []) Try.call60 (F60_ok K a0 v2 hv2) I I ⟨rfl, trivial⟩ I) I <| Z1 I (st_alloc (cs := [(.sl 1 [] true)]) I z26f I I I) I <| Z1 I (st_storeP (cs := [(.sl 1 [] true)]) (vs := [(.sl 1 (v2.map Zh) false)]) (ds := [(.sl 1 (v2.map Zh) false)]) (v := (.sl 1 (v2.map Zh) false)) sz26 I I I I I I I I) I <| Z6 <| Z7 <| Z9 <| Z9 <| Z5 ?_
 refine Z1 I (Zt (m := 1) (o := 0) I f35_0 I I) I <| Z1 I (Zs (cs := (Z4 a0).cells) (v := (.int .i64 a0.Count)) I o3 I I I) I <| Z1 I (Z8 (v := (.int .i64 0)) I I) I <| Z6 <| Z7 <| Zv (st' := ⟨[(1, (.ptr 1 0)), (2, (.ptr 2 0)), (4, (.ptr 4 0)), (13, (.int .i64 a0.Count)), (14, (.int .i64 0))], [(1, (.box (Z4 a0).cells)), (2, (.box [(.int .i64 0), (.sl 2 [] true)])), (4, (.box [(.sl 1 (v2.map Zh) false)]))]⟩) ⟨rfl, rfl, rfl, rfl, rfl, trivial⟩ ⟨rfl, rfl, rfl, trivial⟩ ?_
 refine Zp (V := Int) (X := Unit) (lp := fun k v => F43_l4 K a0 v2 (F43_c5 K a0 v2) k v = some r) (sh := fun v => ⟨[(1, (.ptr 1 0)), (2, (.ptr 2 0)), (4, (.ptr 4 0)), (13, (.int .i64 a0.Count)), (14, (.int .i64 v))], [(1, (.box (Z4 a0).cells)), (2, (.box [(.int .i64 0), (.sl 2 [] true)])), (4, (.box [(.sl 1 (v2.map Zh) false)]))]⟩) (x := fun v => F43_c5 K a0 v2 = some r) (shx := fun v => ⟨[(1, (.ptr 1 0)), (2, (.ptr 2 0)), (4, (.ptr 4 0))], [(1, (.box (Z4 a0).cells)), (2, (.box [(.int .i64 0), (.sl 2 [] true)])), (4, (.box [(.sl 1 (v2.map Zh) false)]))]⟩) (k := K) (v := 0) h ?_ ?_
 ·intro v h
  try dsimp only at h ⊢
  unfold F43_c5 at h
  refine Z7 <| Z9 <| Z5 <| Z1 I (st_loadPA (cs := (Z4 a0).cells) (vs := (Z4 a0).cells) I a35 I I I I) I ?_
  have ⟨v8, hv8, h⟩ := of_bind h
  refine Z1 I (st_call0 (ar := [(Z4 a0)]) (caps := []) Try.call47 (F47_ok K a0 v8 hv8) I I ⟨rfl, trivial⟩ I) I <| Z1 I (Zf (v := (.sl 1 (v8.map Zi) false)) I I) I <| Z6 <| Z7 <| Z9 <| Z5 <| Z1 I (Zt (m := 1) (o := 0) I f35_0 I I) I <| Z1 I (Zs (cs := (Z4 a0).cells) (v := (.int .i64 a0.Count)) I o3 I I I) I ?_
  refine Z1 I (stx_build (vs := [(0, (.int .i64 a0.Count))]) (cs := [(.int .i64 a0.Count), (.sl 2 [] true)]) I st35f ⟨rfl, rfl, trivial⟩ I) I <| Z1 I (st_alloc (cs := [(.int .i64 0), (.sl 2 [] true)]) I z35f I I I) I <| Z1 I (st_storeP (cs := [(.int .i64 0), (.sl 2 [] true)]) (vs := [(.int .i64 a0.Count), (.sl 2 [] true)]) (ds := [(.int .i64 a0.Count), (.sl 2 [] true)]) (v := (.ag [(.int .i64 a0.Count), (.sl 2 [] true)])) sz35 I I I I I I I I) I <| Z6 <| Z7 <| Z9 <| Z9 <| Z5 ?_
  refine Z1 I (Zt (m := 1) (o := 0) I f35_1 I I) I <| Z1 I (Zs (cs := (Z4 a0).cells) (v := (.sl 2 (a0.Edges.map Z2) false)) I o33 I I I) I <| Z1 I (stx_len (l := a0.Edges) (enc := Z2) I s33 I) I <| Z1 I (Z8 (v := (.int .i64 0)) I I) I <| Z6 <| Z7 <| AWp.ghost (st' := ⟨[(2, (.ptr 2 0)), (4, (.ptr 4 0)), (6, (.sl 1 (v8.map Zi) false)), (7, (.ptr 7 0)), (32, (.sl 2 (a0.Edges.map Z2) false)), (33, (.int .i64 (a0.Edges.length : Int))), (34, (.int .i64 0))], [(2, (.box [(.int .i64 0), (.sl 2 [] true)])), (4, (.box [(.sl 1 (v2.map Zh) false)])), (7, (.box [(.int .i64 a0.Count), (.vs 53)])), (53, (.vec 2 (List.map Z2 ([] : List Za))))]⟩) (fun a w h => (Zq ⟨[(2, (.ptr 2 0)), (4, (.ptr 4 0)), (6, (.sl 1 (v8.map Zi) false)), (7, (.ptr 7 0)), (32, (.sl 2 (a0.Edges.map Z2) false)), (33, (.int .i64 (a0.Edges.length : Int))), (34, (.int .i64 0))], [(2, (.box [(.int .i64 0), (.sl 2 [] true)])), (4, (.box [(.sl 1 (v2.map Zh) false)])), (7, (.box [(.int .i64 a0.Count), (.vs 53)])), (53, (.vec 2 (List.map Z2 ([] : List Za))))]⟩ (ghost_ownB (n := 7) (m := 53) (sz := 2) (j := 1) I I I a w (Zq ⟨[(2, (.ptr 2 0)), (4, (.ptr 4 0)), (6, (.sl 1 (v8.map Zi) false)), (7, (.ptr 7 0)), (32, (.sl 2 (a0.Edges.map Z2) false)), (33, (.int .i64 (a0.Edges.length : Int))), (34, (.int .i64 0))], [(7, (.box [(.int .i64 a0.Count), (.sl 2 [] true)])), (2, (.box [(.int .i64 0), (.sl 2 [] true)])), (4, (.box [(.sl 1 (v2.map Zh) false)]))]⟩ h ⟨rfl, rfl, rfl, rfl, rfl, rfl, rfl, trivial⟩ ⟨rfl, rfl, rfl, trivial⟩)) ⟨rfl, rfl, rfl, rfl, rfl, rfl, rfl, trivial⟩ ⟨rfl, rfl, rfl, rfl, trivial⟩)) <| Zv (st' := ⟨[(2, (.ptr 2 0)), (4, (.ptr 4 0)), (6, (.sl 1 (v8.map Zi) false)), (7, (.ptr 7 0)), (32, (.sl 2 (a0.Edges.map Z2) false)), (33, (.int .i64 (a0.Edges.length : Int))), (34, (.int .i64 0))], [(2, (.box [(.int .i64 0), (.sl 2 [] true)])), (4, (.box [(.sl 1 (v2.map Zh) false)])), (7, (.box [(.int .i64 a0.Count), (.vs 53)])), (53, (.vec 2 (List.map Z2 [])))]⟩) ⟨rfl, rfl, rfl, rfl, rfl, rfl, rfl, trivial⟩ ⟨rfl, rfl, rfl, rfl, trivial⟩ ?_
  refine Zp (V := Int × (List Za)) (X := (List Za)) (lp := fun k v => F43_l11 K a0 v8 v2 (F43_c13 K a0) k v.1 v.2 = some r) (sh := fun v => ⟨[(2, (.ptr 2 0)), (4, (.ptr 4 0)), (6, (.sl 1 (v8.map Zi) false)), (7, (.ptr 7 0)), (32, (.sl 2 (a0.Edges.map Z2) false)), (33, (.int .i64 (a0.Edges.length : Int))), (34, (.int .i64 v.1))], [(2, (.box [(.int .i64 0), (.sl 2 [] true)])), (4, (.box [(.sl 1 (v2.map Zh) false)])), (7, (.box [(.int .i64 a0.Count), (.vs 53)])), (53, (.vec 2 (List.map Z2 v.2)))]⟩) (x := fun v => F43_c13 K a0 v = some r) (shx := fun v => ⟨[(2, (.ptr 2 0)), (7, (.ptr 7 0))], [(2, (.box [(.int .i64 0), (.sl 2 [] true)])), (7, (.box [(.int .i64 a0.Count), (.vs 53)])), (53, (.vec 2 (List.map Z2 v)))]⟩) (k := K) (v := (0, [])) h ?_ ?_
  ·intro v h
   revert h
   revert v
   intro v12 h
   try dsimp only at h ⊢
   unfold F43_c13 at h
   refine Z7 <| Z9 <| Z5 <| Z1 I (st_loadPA (cs := [(.int .i64 a0.Count), (.vs 53)]) (vs := [(.int .i64 a0.Count), (.vs 53)]) I a35 I I I I) I <| Z1 I (st_storeP (cs := [(.int .i64 0), (.sl 2 [] true)]) (vs := [(.int .i64 a0.Count), (.vs 53)]) (ds := [(.int .i64 a0.Count), (.vs 53)]) (v := (.ag [(.int .i64 a0.Count), (.vs 53)])) sz35 I I I I I I I I) I <| Z1 I (Zf (v := (.int .i64 0)) I I) I <| Z6 <| Z7 ?_
   refine AWp.ret <| At.ghost (st' := ⟨[(2, (.ptr 2 0)), (3, (.int .i64 0))], [(2, (.box [(.int .i64 a0.Count), (.sl 2 (v12.map Z2) false)]))]⟩) (fun a w h => (Zq ⟨[(2, (.ptr 2 0)), (3, (.int .i64 0))], [(2, (.box [(.int .i64 a0.Count), (.sl 2 (v12.map Z2) false)]))]⟩ (ghost_freeze (m := 53) (sz := 2) (es := (List.map Z2 v12)) a w (Zq ⟨[(2, (.ptr 2 0)), (3, (.int .i64 0))], [(53, (.vec 2 (List.map Z2 v12))), (2, (.box [(.int .i64 a0.Count), (.vs 53)]))]⟩ h ⟨rfl, rfl, trivial⟩ ⟨rfl, rfl, trivial⟩)) ⟨rfl, rfl, trivial⟩ ⟨rfl, trivial⟩)) ?_
   have h := Option.some.inj h
   subst h
   refine (hret _ ?_).1
   exact ⟨[(.ag [(.int .i64 a0.Count), (.sl 2 (v12.map Z2) false)]), (.int .i64 0)], ⟨⟨2, _, rfl, rfl, .inr ⟨_, a35, rfl, rfl⟩⟩, rfl, trivial⟩, rfl, trivial⟩
  ·intro N k11 v h IH11 J11
   obtain ⟨v9, v10⟩ := v
   try dsimp only at h IH11 J11 ⊢
   cases k11 with
   | zero => cases h
   | succ k11 =>
    rw [F43_l11] at h
    refine Z9 <| Z5 <| Z1 I (st_cmp (k := .i64) (a := v9) (b := (a0.Edges.length : Int)) (c := (decide (v9 < (a0.Edges.length : Int)))) I I I I) I <| Z6 <| Z7 <| Z9 ?_
    have hif := of_if h
    refine Zo I (fun hc => ?_) (fun hc => ?_)
    ·have h := hif.1 hc
     refine Zr <| Z7 <| Z9 <| AWp.block <| Z9 <| Z5 ?_
     have ⟨hg16, h⟩ := Zg h
     refine Z1 I (st_index (k := .i64) (l := a0.Edges) (enc := Z2) (z := Z3) (n := v9) (cs := (Z2 (a0.Edges.getD v9.toNat Z3)).cells) (full := false) I s33 I I hg16 I) I <| Z1 I (st_loadIA (cs := (Z2 (a0.Edges.getD v9.toNat Z3)).cells) (vs := (Z2 (a0.Edges.getD v9.toNat Z3)).cells) I a64 I I I) I <| Z1 I (st_alloc (cs := [(.int .i64 0), (.int .i64 0)]) I z64 I I I) I <| Z1 I (st_storeP (cs := [(.int .i64 0), (.int .i64 0)]) (vs := (Z2 (a0.Edges.getD v9.toNat Z3)).cells) (ds := (Z2 (a0.Edges.getD v9.toNat Z3)).cells) (v := (Z2 (a0.Edges.getD v9.toNat Z3))) sz64 I I I I I I I I) I <| Z6 <| Z7 <| Z9 <| Z5 ?_
     refine Z1 I (Z8 (v := (.sl 1 (v8.map Zi) false)) I I) I <| Z1 I (Zt (m := 9) (o := 0) I f64_0 I I) I <| Z1 I (Zs (cs := (Z2 (a0.Edges.getD v9.toNat Z3)).cells) (v := (.int .i64 (a0.Edges.getD v9.toNat Z3).From)) I o3 I I I) I ?_
     have ⟨hg17, h⟩ := Zg h
     refine Z1 I (st_index (k := .i64) (l := v8) (enc := Zi) (z := []) (n := (a0.Edges.getD v9.toNat Z3).From) (cs := [(.sl 1 ((v8.getD (a0.Edges.getD v9.toNat Z3).From.toNat []).map Zc) false)]) (full := false) I s46 I I hg17 I) I <| Z1 I (st_loadI (cs := [(.sl 1 ((v8.getD (a0.Edges.getD v9.toNat Z3).From.toNat []).map Zc) false)]) (v := (.sl 1 ((v8.getD (a0.Edges.getD v9.toNat Z3).From.toNat []).map Zc) false)) I o29 I I) I <| Z1 I (stx_makeFunc (vs := [(.ptr 4 0), (.ptr 9 0)]) I ⟨rfl, rfl, trivial⟩) I ?_
     have ⟨v19, hv19, h⟩ := of_bind h
     refine Z1 I (st_callB (rd := [(4, (.box [(.sl 1 (v2.map Zh) false)])), (9, (.box (Z2 (a0.Edges.getD v9.toNat Z3)).cells))]) (ar := [(.sl 1 ((v8.getD (a0.Edges.getD v9.toNat Z3).From.toNat []).map Zc) false), (.clo 64 [(.ptr 4 0), (.ptr 9 0)])]) (caps := []) Try.call63 (F63_ok K (v8.getD (a0.Edges.getD v9.toNat Z3).From.toNat []) v2 (a0.Edges.getD v9.toNat Z3) v19 hv19) I I ⟨rfl, rfl, trivial⟩ (subS_mem ⟨rfl, rfl, trivial⟩) I I I) I <| Z1 I (st_not (b := v19) I I) I <| Z6 <| Z7 ?_
     refine AWp.join (V := (List Za)) (lp := fun v => F43_j21 K (F43_l11 K a0 v8 v2 (F43_c13 K a0) k11) v9 v = some r) (sh := fun v => ⟨[(2, (.ptr 2 0)), (4, (.ptr 4 0)), (6, (.sl 1 (v8.map Zi) false)), (7, (.ptr 7 0)), (32, (.sl 2 (a0.Edges.map Z2) false)), (33, (.int .i64 (a0.Edges.length : Int))), (34, (.int .i64 v9))], [(2, (.box [(.int .i64 0), (.sl 2 [] true)])), (4, (.box [(.sl 1 (v2.map Zh) false)])), (7, (.box [(.int .i64 a0.Count), (.vs 53)])), (53, (.vec 2 (List.map Z2 v)))]⟩) ?_ ?_
     ·intro v h
      revert h
      revert v
      intro v20 h
      try dsimp only at h ⊢
      unfold F43_j21 at h
      refine At.end <| Z7 <| Z5 <| Z1 I (Zw (k := .i64) (a := v9) (b := 1) (c := (IntKind.i64.wrap (v9 + 1))) I I I I) I <| Z1 I (Z8 (v := (.int .i64 (IntKind.i64.wrap (v9 + 1)))) I I) I <| Z6 ?_
      exact Zj (st' := ⟨[(2, (.ptr 2 0)), (4, (.ptr 4 0)), (6, (.sl 1 (v8.map Zi) false)), (7, (.ptr 7 0)), (32, (.sl 2 (a0.Edges.map Z2) false)), (33, (.int .i64 (a0.Edges.length : Int))), (34, (.int .i64 (IntKind.i64.wrap (v9 + 1))))], [(2, (.box [(.int .i64 0), (.sl 2 [] true)])), (4, (.box [(.sl 1 (v2.map Zh) false)])), (7, (.box [(.int .i64 a0.Count), (.vs 53)])), (53, (.vec 2 (List.map Z2 v20)))]⟩) ⟨rfl, rfl, rfl, rfl, rfl, rfl, rfl, trivial⟩ ⟨rfl, rfl, rfl, rfl, trivial⟩ (IH11 _ ((IntKind.i64.wrap (v9 + 1)), v20) (Nat.lt_succ_self _) h)
     ·intro J21
      have hif := of_if h
      refine Zo I (fun hc => ?_) (fun hc => ?_)
      ·have h := hif.1 hc
       refine Z5 <| Z1 I (Zt (m := 7) (o := 0) I f35_1 I I) I <| Z1 I (Zs (cs := [(.int .i64 a0.Count), (.vs 53)]) (v := (.vs 53)) I o33 I I I) I <| Z1 I (st_loadPA (cs := (Z2 (a0.Edges.getD v9.toNat Z3)).cells) (vs := (Z2 (a0.Edges.getD v9.toNat Z3)).cells) I a64 I I I I) I <| Z1 I (stx_buildSlice (vs := [(Z2 (a0.Edges.getD v9.toNat Z3))]) (enc := Z2) (l := [(a0.Edges.getD v9.toNat Z3)]) I el33 I I ⟨rfl, trivial⟩ I els_Tgraph_Edge I I I I) I ?_
       have ⟨hg22, h⟩ := Zg h
       refine Z1 I (st_append (m := 53) (enc := Z2) (l := v10) (l' := [(a0.Edges.getD v9.toNat Z3)]) (src := (.vs 49)) (rd := [(49, (.vec 2 (List.map Z2 [(a0.Edges.getD v9.toNat Z3)])))]) I I el33 I u33 I I I I (oneRead I) els_Tgraph_Edge hg22) I <| Z1 I (Zt (m := 7) (o := 0) I f35_1 I I) I <| Z1 I (st_storeP (cs := [(.int .i64 a0.Count), .undef]) (vs := [(.vs 53)]) (ds := [(.int .i64 a0.Count), (.vs 53)]) (v := (.vs 53)) sz33 I I I I I I I I) I <| Z6 ?_
       exact Zj (st' := ⟨[(2, (.ptr 2 0)), (4, (.ptr 4 0)), (6, (.sl 1 (v8.map Zi) false)), (7, (.ptr 7 0)), (32, (.sl 2 (a0.Edges.map Z2) false)), (33, (.int .i64 (a0.Edges.length : Int))), (34, (.int .i64 v9))], [(2, (.box [(.int .i64 0), (.sl 2 [] true)])), (4, (.box [(.sl 1 (v2.map Zh) false)])), (7, (.box [(.int .i64 a0.Count), (.vs 53)])), (53, (.vec 2 (List.map Z2 (v10 ++ [(a0.Edges.getD v9.toNat Z3)]))))]⟩) ⟨rfl, rfl, rfl, rfl, rfl, rfl, rfl, trivial⟩ ⟨rfl, rfl, rfl, rfl, trivial⟩ (J21 (v10 ++ [(a0.Edges.getD v9.toNat Z3)]) h)
      ·have h := hif.2 hc
       refine Zr ?_
       exact Zj (st' := ⟨[(2, (.ptr 2 0)), (4, (.ptr 4 0)), (6, (.sl 1 (v8.map Zi) false)), (7, (.ptr 7 0)), (32, (.sl 2 (a0.Edges.map Z2) false)), (33, (.int .i64 (a0.Edges.length : Int))), (34, (.int .i64 v9))], [(2, (.box [(.int .i64 0), (.sl 2 [] true)])), (4, (.box [(.sl 1 (v2.map Zh) false)])), (7, (.box [(.int .i64 a0.Count), (.vs 53)])), (53, (.vec 2 (List.map Z2 v10)))]⟩) ⟨rfl, rfl, rfl, rfl, rfl, rfl, rfl, trivial⟩ ⟨rfl, rfl, rfl, rfl, trivial⟩ (J21 v10 h)
    ·have h := hif.2 hc
     refine AWp.exit <| At.thru ?_
     exact Zj (st' := ⟨[(2, (.ptr 2 0)), (7, (.ptr 7 0))], [(2, (.box [(.int .i64 0), (.sl 2 [] true)])), (7, (.box [(.int .i64 a0.Count), (.vs 53)])), (53, (.vec 2 (List.map Z2 v10)))]⟩) ⟨rfl, rfl, trivial⟩ ⟨rfl, rfl, rfl, trivial⟩ (J11 v10 h)
 ·intro N k4 v h IH4 J4
  revert h
  revert v
  intro v3 h
  try dsimp only at h IH4 J4 ⊢
  cases k4 with
  | zero => cases h
  | succ k4 =>
   rw [F43_l4] at h
   refine Z9 <| Z5 <| Z1 I (st_cmp (k := .i64) (a := v3) (b := a0.Count) (c := (decide (v3 < a0.Count))) I I I I) I <| Z6 <| Z7 <| Z9 ?_
   have hif := of_if h
   refine Zo I (fun hc => ?_) (fun hc => ?_)
   ·have h := hif.1 hc
    refine Zr <| Z7 <| Z9 <| AWp.block <| Z9 <| Z5 <| Z1 I (Z8 (v := (.int .i64 v3)) I I) I <| Z1 I (Zf (v := (.int .i64 v3)) I I) I ?_
    refine Z6 <| Z7 <| Z9 <| Z5 <| Z1 I (Zs (cs := [(.sl 1 (v2.map Zh) false)]) (v := (.sl 1 (v2.map Zh) false)) I o26 I I I) I <| Z1 I (Z8 (v := (.int .i64 v3)) I I) I ?_
    have ⟨hg24, h⟩ := Zg h
    refine Z1 I (st_index (k := .i64) (l := v2) (enc := Zh) (z := []) (n := v3) (cs := [(.sl 1 ((v2.getD v3.toNat []).map Zk) false)]) (full := false) I s26 I I hg24 I) I <| Z1 I (st_loadI (cs := [(.sl 1 ((v2.getD v3.toNat []).map Zk) false)]) (v := (.sl 1 ((v2.getD v3.toNat []).map Zk) false)) I o49 I I) I <| Z1 I (Z8 (v := (.int .i64 v3)) I I) I ?_
    have ⟨hg25, h⟩ := Zg h
    refine Z1 I (st_index (k := .i64) (l := (v2.getD v3.toNat [])) (enc := Zk) (z := false) (n := v3) (cs := [(.bool ((v2.getD v3.toNat []).getD v3.toNat false))]) (full := false) I s49 I I hg25 I) I <| Z1 I (st_loadI (cs := [(.bool ((v2.getD v3.toNat []).getD v3.toNat false))]) (v := (.bool ((v2.getD v3.toNat []).getD v3.toNat false))) I o4 I I) I <| Z6 <| Z7 ?_
    have hif := of_if h
    refine Zo I (fun hc => ?_) (fun hc => ?_)
    ·have h := hif.1 hc
     refine Z9 <| Z5 <| Z1 I (stx_build (vs := []) (cs := [(.int .i64 0), (.sl 2 [] true)]) I st35f trivial I) I <| Z1 I (st_storeP (cs := [(.int .i64 0), (.sl 2 [] true)]) (vs := [(.int .i64 0), (.sl 2 [] true)]) (ds := [(.int .i64 0), (.sl 2 [] true)]) (v := (.ag [(.int .i64 0), (.sl 2 [] true)])) sz35 I I I I I I I I) I <| Z1 I (Zf (v := (.int .i64 35)) I I) I <| Z6 <| Z7 <| AWp.ret ?_
     refine At.overR <| At.thruR ?_
     refine At.thruR (At.overR ?_)
     refine At.thruR <| At.ghost (st' := ⟨[(2, (.ptr 2 0)), (3, (.int .i64 35))], [(2, (.box [(.int .i64 0), (.sl 2 [] false)]))]⟩) (fun a w h => (Zq ⟨[(2, (.ptr 2 0)), (3, (.int .i64 35))], [(2, (.box [(.int .i64 0), (.sl 2 [] false)]))]⟩ (ghost_loose a w (Zq ⟨[(2, (.ptr 2 0)), (3, (.int .i64 35))], [(2, (.box [(.int .i64 0), (.sl 2 [] true)]))]⟩ h ⟨rfl, rfl, trivial⟩ ⟨rfl, trivial⟩)) ⟨rfl, rfl, trivial⟩ ⟨rfl, trivial⟩)) ?_
     have h := Option.some.inj h
     subst h
     refine (hret _ ?_).1
     exact ⟨[(.ag [(.int .i64 0), (.sl 2 [] false)]), (.int .i64 35)], ⟨⟨2, _, rfl, rfl, .inr ⟨_, a35, rfl, rfl⟩⟩, rfl, trivial⟩, rfl, trivial⟩
    ·have h := hif.2 hc
     refine Zr <| At.end <| Z7 <| Z5 <| Z1 I (Zw (k := .i64) (a := v3) (b := 1) (c := (IntKind.i64.wrap (v3 + 1))) I I I I) I <| Z1 I (Z8 (v := (.int .i64 (IntKind.i64.wrap (v3 + 1)))) I I) I <| Z6 ?_
     exact Zj (st' := ⟨[(1, (.ptr 1 0)), (2, (.ptr 2 0)), (4, (.ptr 4 0)), (13, (.int .i64 a0.Count)), (14, (.int .i64 (IntKind.i64.wrap (v3 + 1))))], [(1, (.box (Z4 a0).cells)), (2, (.box [(.int .i64 0), (.sl 2 [] true)])), (4, (.box [(.sl 1 (v2.map Zh) false)]))]⟩) ⟨rfl, rfl, rfl, rfl, rfl, trivial⟩ ⟨rfl, rfl, rfl, trivial⟩ (IH4 _ (IntKind.i64.wrap (v3 + 1)) (Nat.lt_succ_self _) h)
   ·have h := hif.2 hc
    refine AWp.exit <| At.thru ?_
    exact Zj (st' := ⟨[(1, (.ptr 1 0)), (2, (.ptr 2 0)), (4, (.ptr 4 0))], [(1, (.box (Z4 a0).cells)), (2, (.box [(.int .i64 0), (.sl 2 [] true)])), (4, (.box [(.sl 1 (v2.map Zh) false)]))]⟩) ⟨rfl, rfl, rfl, trivial⟩ ⟨rfl, rfl, rfl, trivial⟩ (J4 () h)
def F44_c9 (K : Nat) (v8 : (List (List Bool))) : Option ((List (List Bool))) :=
 some v8
def F44_c16 (K : Nat) (b11 : Int → (List (List Bool)) → Option ((List (List Bool)))) (v5 : Int) (v15 : (List (List Bool))) : Option ((List (List Bool))) :=
 b11 (IntKind.i64.wrap (v5 + 1)) v15
def F44_c23 (K : Nat) (b18 : Int → (List (List Bool)) → Option ((List (List Bool)))) (v12 : Int) (v22 : (List (List Bool))) : Option ((List (List Bool))) :=
 b18 (IntKind.i64.wrap (v12 + 1)) v22
def F44_j27 (K : Nat) (b25 : Int → (List (List Bool)) → Option ((List (List Bool)))) (v19 : Int) (v26 : (List (List Bool))) : Option ((List (List Bool))) :=
 b25 (IntKind.i64.wrap (v19 + 1)) v26
def F44_j33 (K : Nat) (b25 : Int → (List (List Bool)) → Option ((List (List Bool)))) (v19 : Int) (v32 : (List (List Bool))) : Option ((List (List Bool))) :=
 F44_j27 K b25 v19 v32
def F44_l21 (K : Nat) (a0 : (List (List Bool))) (v5 : Int) (v2 : (List (List Bool))) (v12 : Int) (c24 : (List (List Bool)) → Option ((List (List Bool)))) : Nat → Int → (List (List Bool)) → Option ((List (List Bool)))
 | 0, _, _ => none
 | k21 + 1, v19, v20 =>
  if (decide (v19 < (a0.length : Int))) = true then
   if (0 : Int) ≤ v5 ∧ v5 < a0.length then
    if (0 : Int) ≤ v19 ∧ v19 < (a0.getD v5.toNat []).length then
     if ((a0.getD v5.toNat []).getD v19.toNat false) = true then
      if (0 : Int) ≤ v19 ∧ v19 < v2.length then
       if (0 : Int) ≤ v12 ∧ v12 < (v2.getD v19.toNat []).length then
        if ((v2.getD v19.toNat []).getD v12.toNat false) = true then
         if (0 : Int) ≤ v5 ∧ v5 < v20.length then
          if v5.toNat < v20.length then
           if v5.toNat < v20.length then
            if (0 : Int) ≤ v12 ∧ v12 < (v20.getD v5.toNat []).length then
             if v5.toNat < v20.length then
              if v12.toNat < (v20.getD v5.toNat []).length then
               F44_j33 K (F44_l21 K a0 v5 v2 v12 c24 k21) v19 (v20.set v5.toNat ((v20.getD v5.toNat []).set v12.toNat false))
              else none
             else none
            else none
           else none
          else none
         else none
        else
         F44_j33 K (F44_l21 K a0 v5 v2 v12 c24 k21) v19 v20
       else none
      else none
     else
      F44_j27 K (F44_l21 K a0 v5 v2 v12 c24 k21) v19 v20
    else none
   else none
  else
   c24 v20
def F44_l14 (K : Nat) (a0 : (List (List Bool))) (v5 : Int) (v2 : (List (List Bool))) (c17 : (List (List Bool)) → Option ((List (List Bool)))) : Nat → Int → (List (List Bool)) → Option ((List (List Bool)))
 | 0, _, _ => none
 | k14 + 1, v12, v13 =>
  if (decide (v12 < (a0.length : Int))) = true then
   F44_l21 K a0 v5 v2 v12 (F44_c23 K (F44_l14 K a0 v5 v2 c17 k14) v12) K 0 v13
  else
   c17 v13
def F44_l7 (K : Nat) (a0 : (List (List Bool))) (v2 : (List (List Bool))) (c10 : (List (List Bool)) → Option ((List (List Bool)))) : Nat → Int → (List (List Bool)) → Option ((List (List Bool)))
 | 0, _, _ => none
 | k7 + 1, v5, v6 =>
  if (decide (v5 < (a0.length : Int))) = true then
   F44_l14 K a0 v5 v2 (F44_c16 K (F44_l7 K a0 v2 c10 k7) v5) K 0 v6
  else
   c10 v6
def F44 (K : Nat) (a0 : (List (List Bool))) : Option ((List (List Bool))) :=
 (F40 K a0).bind fun v2 =>
  (F61 K a0).bind fun v4 =>
   F44_l7 K a0 v2 (F44_c9 K) K 0 v4
theorem F44_ok (K : Nat) (a0 : (List (List Bool))) (r : (List (List Bool))) (h : F44 K a0 = some r) : ACall P 44 ⟨[(.sl 1 (a0.map Zh) false)], [], (.sl 1 (r.map Zh) false), [], []⟩ := by
 refine acall_of Try.func44 Try.results44 rfl Try.ntmps44 rfl rfl rfl ?_
 intro E Q hP hN hro hret
 obtain ⟨P', nt', w0, F0, p0, S0, β0, ro0⟩ := E
 simp only at hP hN
 subst hP hN
 dsimp only [argT]
 unfold F44 at h
 refine Z9 <| Z5 <| Z1 I (Zf (v := (.sl 1 [] false)) I I) I <| Z6 <| Z7 <| Z9 <| Z5 <| Z1 I (Z8 (v := (.sl 1 (a0.map Zh) false)) I I) I ?_
 have ⟨v2, hv2, h⟩ := of_bind h
 refine Z1 I (st_call0 (ar := [(.sl 1 (a0.map Zh) false)]) (caps := []) Try.call40 (F40_ok K a0 v2 hv2) I I ⟨rfl, trivial⟩ I) I <| Z1 I (Zf (v := (.sl 1 (v2.map Zh) false)) I I) I <| Z6 <| Z7 <| Z9 <| Z5 <| Z1 I (Z8 (v := (.sl 1 (a0.map Zh) false)) I I) I ?_
 have ⟨v4, hv4, h⟩ := of_bind h
 refine Z1 I (st_call (d := some 11) (c := ⟨[(.sl 1 (a0.map Zh) false)] ++ [], [], .vs 11, [(11, (.tab (List.map (List.map Zk) v4) none))], [11]⟩) (ar := [(.sl 1 (a0.map Zh) false)]) (caps := []) (news := [11]) (forg := []) Try.call61 ((F61_ok K a0 v4 hv4).sw 2 11) I I ⟨rfl, trivial⟩ I trivial I) I <| Z1 I (Zf (v := (.vs 11)) I I) I <| Z6 <| Z7 <| Z9 <| Z9 <| Z5 <| Z1 I (Zf (v := (.int .i64 0)) I I) I ?_
 refine Z6 <| Z7 <| AWp.ghost (st' := ⟨[(0, (.sl 1 (a0.map Zh) false)), (3, (.sl 1 (v2.map Zh) false)), (4, (.vs 4)), (5, (.int .i64 0))], [(4, (.tab (List.map (List.map Zk) v4) none))]⟩) (fun a w h => (Zq ⟨[(0, (.sl 1 (a0.map Zh) false)), (3, (.sl 1 (v2.map Zh) false)), (4, (.vs 4)), (5, (.int .i64 0))], [(4, (.tab (List.map (List.map Zk) v4) none))]⟩ (ghost_sw (a := 11) (b := 4) I I a w (Zq ⟨[(0, (.sl 1 (a0.map Zh) false)), (3, (.sl 1 (v2.map Zh) false)), (4, (.vs 11)), (5, (.int .i64 0))], [(11, (.tab (List.map (List.map Zk) v4) none))]⟩ h ⟨rfl, rfl, rfl, rfl, trivial⟩ ⟨rfl, trivial⟩)) ⟨rfl, rfl, rfl, rfl, trivial⟩ ⟨rfl, trivial⟩)) <| Zv (st' := ⟨[(0, (.sl 1 (a0.map Zh) false)), (3, (.sl 1 (v2.map Zh) false)), (4, (.vs 4)), (5, (.int .i64 0))], [(4, (.tab (List.map (List.map Zk) v4) none))]⟩) ⟨rfl, rfl, rfl, rfl, trivial⟩ ⟨rfl, trivial⟩ ?_
 refine Zp (V := Int × (List (List Bool))) (X := (List (List Bool))) (lp := fun k v => F44_l7 K a0 v2 (F44_c9 K) k v.1 v.2 = some r) (sh := fun v => ⟨[(0, (.sl 1 (a0.map Zh) false)), (3, (.sl 1 (v2.map Zh) false)), (4, (.vs 4)), (5, (.int .i64 v.1))], [(4, (.tab (List.map (List.map Zk) v.2) none))]⟩) (x := fun v => F44_c9 K v = some r) (shx := fun v => ⟨[(4, (.vs 4))], [(4, (.tab (List.map (List.map Zk) v) none))]⟩) (k := K) (v := (0, v4)) h ?_ ?_
 ·intro v h
  revert h
  revert v
  intro v8 h
  try dsimp only at h ⊢
  unfold F44_c9 at h
  refine Z7 <| Z9 <| Z5 <| Z1 I (Z8 (v := (.vs 4)) I I) I <| Z1 I (Zf (v := (.vs 4)) I I) I <| Z6 <| Z7 <| AWp.ret ?_
  refine At.ghost (st' := ⟨[(2, (.sl 1 (v8.map Zh) false))], []⟩) (fun a w h => (Zq ⟨[(2, (.sl 1 (v8.map Zh) false))], []⟩ (ghost_freezeT (m := 4) (enc := Zk) (l := v8) a w (Zq ⟨[(2, (.vs 4))], [(4, (.tab (List.map (List.map Zk) v8) none))]⟩ h ⟨rfl, trivial⟩ ⟨rfl, trivial⟩)) ⟨rfl, trivial⟩ trivial)) ?_
  have h := Option.some.inj h
  subst h
  refine (hret _ ?_).1
  exact ⟨[(.sl 1 (v8.map Zh) false)], ⟨rfl, trivial⟩, rfl, trivial⟩
 ·intro N k7 v h IH7 J7
  obtain ⟨v5, v6⟩ := v
  try dsimp only at h IH7 J7 ⊢
  cases k7 with
  | zero => cases h
  | succ k7 =>
   rw [F44_l7] at h
   refine Z9 <| Z9 <| Z5 <| Z1 I (Z8 (v := (.int .i64 v5)) I I) I <| Z1 I (Z8 (v := (.sl 1 (a0.map Zh) false)) I I) I <| Z1 I (stx_len (l := a0) (enc := Zh) I s27 I) I <| Z1 I (st_cmp (k := .i64) (a := v5) (b := (a0.length : Int)) (c := (decide (v5 < (a0.length : Int)))) I I I I) I <| Z6 ?_
   refine Z7 ?_
   have hif := of_if h
   refine Zo I (fun hc => ?_) (fun hc => ?_)
   ·have h := hif.1 hc
    refine Zr <| Z7 <| Z9 <| AWp.block <| Z9 <| Z5 <| Z1 I (Zf (v := (.int .i64 0)) I I) I <| Z6 ?_
    refine Z7 <| Zv (st' := ⟨[(0, (.sl 1 (a0.map Zh) false)), (3, (.sl 1 (v2.map Zh) false)), (4, (.vs 4)), (5, (.int .i64 v5)), (6, (.int .i64 0))], [(4, (.tab (List.map (List.map Zk) v6) none))]⟩) ⟨rfl, rfl, rfl, rfl, rfl, trivial⟩ ⟨rfl, trivial⟩ ?_
    refine Zp (V := Int × (List (List Bool))) (X := (List (List Bool))) (lp := fun k v => F44_l14 K a0 v5 v2 (F44_c16 K (F44_l7 K a0 v2 (F44_c9 K) k7) v5) k v.1 v.2 = some r) (sh := fun v => ⟨[(0, (.sl 1 (a0.map Zh) false)), (3, (.sl 1 (v2.map Zh) false)), (4, (.vs 4)), (5, (.int .i64 v5)), (6, (.int .i64 v.1))], [(4, (.tab (List.map (List.map Zk) v.2) none))]⟩) (x := fun v => F44_c16 K (F44_l7 K a0 v2 (F44_c9 K) k7) v5 v = some r) (shx := fun v => ⟨[(0, (.sl 1 (a0.map Zh) false)), (3, (.sl 1 (v2.map Zh) false)), (4, (.vs 4)), (5, (.int .i64 v5))], [(4, (.tab (List.map (List.map Zk) v) none))]⟩) (k := K) (v := (0, v6)) h ?_ ?_
    ·intro v h
     revert h
     revert v
     intro v15 h
     try dsimp only at h ⊢
     unfold F44_c16 at h
     refine At.end <| Z7 <| Z5 <| Z1 I (Z8 (v := (.int .i64 v5)) I I) I <| Z1 I (Zw (k := .i64) (a := v5) (b := 1) (c := (IntKind.i64.wrap (v5 + 1))) I I I I) I <| Z1 I (Zf (v := (.int .i64 (IntKind.i64.wrap (v5 + 1)))) I I) I <| Z6 ?_
     exact Zj (st' := ⟨[(0, (.sl 1 (a0.map Zh) false)), (3, (.sl 1 (v2.map Zh) false)), (4, (.vs 4)), (5, (.int .i64 (IntKind.i64.wrap (v5 + 1))))], [(4, (.tab (List.map (List.map Zk) v15) none))]⟩) ⟨rfl, rfl, rfl, rfl, trivial⟩ ⟨rfl, trivial⟩ (IH7 _ ((IntKind.i64.wrap (v5 + 1)), v15) (Nat.lt_succ_self _) h)
    ·intro N k14 v h IH14 J14
     obtain ⟨v12, v13⟩ := v
     try dsimp only at h IH14 J14 ⊢
     cases k14 with
     | zero => cases h
     | succ k14 =>
      rw [F44_l14] at h
      refine Z9 <| Z9 <| Z5 <| Z1 I (Z8 (v := (.int .i64 v12)) I I) I <| Z1 I (Z8 (v := (.sl 1 (a0.map Zh) false)) I I) I <| Z1 I (stx_len (l := a0) (enc := Zh) I s27 I) I <| Z1 I (st_cmp (k := .i64) (a := v12) (b := (a0.length : Int)) (c := (decide (v12 < (a0.length : Int)))) I I I I) I <| Z6 ?_
      refine Z7 ?_
      have hif := of_if h
      refine Zo I (fun hc => ?_) (fun hc => ?_)
      ·have h := hif.1 hc
       refine Zr <| Z7 <| Z9 <| AWp.block <| Z9 <| Z5 <| Z1 I (Zf (v := (.int .i64 0)) I I) I <| Z6 ?_
       refine Z7 <| Zv (st' := ⟨[(0, (.sl 1 (a0.map Zh) false)), (3, (.sl 1 (v2.map Zh) false)), (4, (.vs 4)), (5, (.int .i64 v5)), (6, (.int .i64 v12)), (7, (.int .i64 0))], [(4, (.tab (List.map (List.map Zk) v13) none))]⟩) ⟨rfl, rfl, rfl, rfl, rfl, rfl, trivial⟩ ⟨rfl, trivial⟩ ?_
       refine Zp (V := Int × (List (List Bool))) (X := (List (List Bool))) (lp := fun k v => F44_l21 K a0 v5 v2 v12 (F44_c23 K (F44_l14 K a0 v5 v2 (F44_c16 K (F44_l7 K a0 v2 (F44_c9 K) k7) v5) k14) v12) k v.1 v.2 = some r) (sh := fun v => ⟨[(0, (.sl 1 (a0.map Zh) false)), (3, (.sl 1 (v2.map Zh) false)), (4, (.vs 4)), (5, (.int .i64 v5)), (6, (.int .i64 v12)), (7, (.int .i64 v.1))], [(4, (.tab (List.map (List.map Zk) v.2) none))]⟩) (x := fun v => F44_c23 K (F44_l14 K a0 v5 v2 (F44_c16 K (F44_l7 K a0 v2 (F44_c9 K) k7) v5) k14) v12 v = some r) (shx := fun v => ⟨[(0, (.sl 1 (a0.map Zh) false)), (3, (.sl 1 (v2.map Zh) false)), (4, (.vs 4)), (5, (.int .i64 v5)), (6, (.int .i64 v12))], [(4, (.tab (List.map (List.map Zk) v) none))]⟩) (k := K) (v := (0, v13)) h ?_ ?_
       ·intro v h
        revert h
        revert v
        intro v22 h
        try dsimp only at h ⊢
        unfold F44_c23 at h
        refine At.end <| Z7 <| Z5 <| Z1 I (Z8 (v := (.int .i64 v12)) I I) I <| Z1 I (Zw (k := .i64) (a := v12) (b := 1) (c := (IntKind.i64.wrap (v12 + 1))) I I I I) I <| Z1 I (Zf (v := (.int .i64 (IntKind.i64.wrap (v12 + 1)))) I I) I <| Z6 ?_
        exact Zj (st' := ⟨[(0, (.sl 1 (a0.map Zh) false)), (3, (.sl 1 (v2.map Zh) false)), (4, (.vs 4)), (5, (.int .i64 v5)), (6, (.int .i64 (IntKind.i64.wrap (v12 + 1))))], [(4, (.tab (List.map (List.map Zk) v22) none))]⟩) ⟨rfl, rfl, rfl, rfl, rfl, trivial⟩ ⟨rfl, trivial⟩ (IH14 _ ((IntKind.i64.wrap (v12 + 1)), v22) (Nat.lt_succ_self _) h)
       ·intro N k21 v h IH21 J21
        obtain ⟨v19, v20⟩ := v
        try dsimp only at h IH21 J21 ⊢
        cases k21 with
        | zero => cases h
        | succ k21 =>
         rw [F44_l21] at h
         refine Z9 <| Z9 <| Z5 <| Z1 I (Z8 (v := (.int .i64 v19)) I I) I <| Z1 I (Z8 (v := (.sl 1 (a0.map Zh) false)) I I) I <| Z1 I (stx_len (l := a0) (enc := Zh) I s27 I) I <| Z1 I (st_cmp (k := .i64) (a := v19) (b := (a0.length : Int)) (c := (decide (v19 < (a0.length : Int)))) I I I I) I <| Z6 ?_
         refine Z7 ?_
         have hif := of_if h
         refine Zo I (fun hc => ?_) (fun hc => ?_)
         ·have h := hif.1 hc
          refine Zr <| Z7 <| Z9 ?_
          refine AWp.blockJoin (V := (List (List Bool))) (lp := fun v => F44_j27 K (F44_l21 K a0 v5 v2 v12 (F44_c23 K (F44_l14 K a0 v5 v2 (F44_c16 K (F44_l7 K a0 v2 (F44_c9 K) k7) v5) k14) v12) k21) v19 v = some r) (sh := fun v => ⟨[(0, (.sl 1 (a0.map Zh) false)), (3, (.sl 1 (v2.map Zh) false)), (4, (.vs 4)), (5, (.int .i64 v5)), (6, (.int .i64 v12)), (7, (.int .i64 v19))], [(4, (.tab (List.map (List.map Zk) v) none))]⟩) ?_ ?_
          ·intro v h
           revert h
           revert v
           intro v26 h
           try dsimp only at h ⊢
           unfold F44_j27 at h
           refine Z7 <| Z5 <| Z1 I (Z8 (v := (.int .i64 v19)) I I) I <| Z1 I (Zw (k := .i64) (a := v19) (b := 1) (c := (IntKind.i64.wrap (v19 + 1))) I I I I) I <| Z1 I (Zf (v := (.int .i64 (IntKind.i64.wrap (v19 + 1)))) I I) I <| Z6 ?_
           exact Zj (st' := ⟨[(0, (.sl 1 (a0.map Zh) false)), (3, (.sl 1 (v2.map Zh) false)), (4, (.vs 4)), (5, (.int .i64 v5)), (6, (.int .i64 v12)), (7, (.int .i64 (IntKind.i64.wrap (v19 + 1))))], [(4, (.tab (List.map (List.map Zk) v26) none))]⟩) ⟨rfl, rfl, rfl, rfl, rfl, rfl, trivial⟩ ⟨rfl, trivial⟩ (IH21 _ ((IntKind.i64.wrap (v19 + 1)), v26) (Nat.lt_succ_self _) h)
          ·intro J27
           refine Z9 <| Z5 <| Z1 I (Z8 (v := (.sl 1 (a0.map Zh) false)) I I) I <| Z1 I (Z8 (v := (.int .i64 v5)) I I) I ?_
           have ⟨hg28, h⟩ := Zg h
           refine Z1 I (st_index (k := .i64) (l := a0) (enc := Zh) (z := []) (n := v5) (cs := [(.sl 1 ((a0.getD v5.toNat []).map Zk) false)]) (full := false) I s27 I I hg28 I) I <| Z1 I (st_loadI (cs := [(.sl 1 ((a0.getD v5.toNat []).map Zk) false)]) (v := (.sl 1 ((a0.getD v5.toNat []).map Zk) false)) I o49 I I) I <| Z1 I (Z8 (v := (.int .i64 v19)) I I) I ?_
           have ⟨hg29, h⟩ := Zg h
           refine Z1 I (st_index (k := .i64) (l := (a0.getD v5.toNat [])) (enc := Zk) (z := false) (n := v19) (cs := [(.bool ((a0.getD v5.toNat []).getD v19.toNat false))]) (full := false) I s49 I I hg29 I) I <| Z1 I (st_loadI (cs := [(.bool ((a0.getD v5.toNat []).getD v19.toNat false))]) (v := (.bool ((a0.getD v5.toNat []).getD v19.toNat false))) I o4 I I) I <| Z1 I (Z8 (v := (.bool ((a0.getD v5.toNat []).getD v19.toNat false))) I I) I ?_
           have hif := of_if h
           refine AOps.split (fun hc => ?_) (fun hc => ?_)
           ·have h := hif.1 hc
            refine Zl I I I I (Z8 (v := (.sl 1 (v2.map Zh) false)) I I) I <| Zl I I I I (Z8 (v := (.int .i64 v19)) I I) I ?_
            have ⟨hg30, h⟩ := Zg h
            refine Zl I I I I (st_index (k := .i64) (l := v2) (enc := Zh) (z := []) (n := v19) (cs := [(.sl 1 ((v2.getD v19.toNat []).map Zk) false)]) (full := false) I s27 I I hg30 I) I <| Zl I I I I (st_loadI (cs := [(.sl 1 ((v2.getD v19.toNat []).map Zk) false)]) (v := (.sl 1 ((v2.getD v19.toNat []).map Zk) false)) I o49 I I) I <| Zl I I I I (Z8 (v := (.int .i64 v12)) I I) I ?_
            have ⟨hg31, h⟩ := Zg h
            refine Zl I I I I (st_index (k := .i64) (l := (v2.getD v19.toNat [])) (enc := Zk) (z := false) (n := v12) (cs := [(.bool ((v2.getD v19.toNat []).getD v12.toNat false))]) (full := false) I s49 I I hg31 I) I <| Zl I I I I (st_loadI (cs := [(.bool ((v2.getD v19.toNat []).getD v12.toNat false))]) (v := (.bool ((v2.getD v19.toNat []).getD v12.toNat false))) I o4 I I) I <| Z1 I (st_pickT (v := (.bool ((v2.getD v19.toNat []).getD v12.toNat false))) I I I) I <| Z6 <| Z7 ?_
            refine AWp.join (V := (List (List Bool))) (lp := fun v => F44_j33 K (F44_l21 K a0 v5 v2 v12 (F44_c23 K (F44_l14 K a0 v5 v2 (F44_c16 K (F44_l7 K a0 v2 (F44_c9 K) k7) v5) k14) v12) k21) v19 v = some r) (sh := fun v => ⟨[(0, (.sl 1 (a0.map Zh) false)), (3, (.sl 1 (v2.map Zh) false)), (4, (.vs 4)), (5, (.int .i64 v5)), (6, (.int .i64 v12)), (7, (.int .i64 v19))], [(4, (.tab (List.map (List.map Zk) v) none))]⟩) ?_ ?_
            ·intro v h
             revert h
             revert v
             intro v32 h
             try dsimp only at h ⊢
             unfold F44_j33 at h
             refine At.end ?_
             exact Zj (st' := ⟨[(0, (.sl 1 (a0.map Zh) false)), (3, (.sl 1 (v2.map Zh) false)), (4, (.vs 4)), (5, (.int .i64 v5)), (6, (.int .i64 v12)), (7, (.int .i64 v19))], [(4, (.tab (List.map (List.map Zk) v32) none))]⟩) ⟨rfl, rfl, rfl, rfl, rfl, rfl, trivial⟩ ⟨rfl, trivial⟩ (J27 v32 h)
            ·intro J33
             have hif := of_if h
             refine Zo I (fun hc => ?_) (fun hc => ?_)
             ·have h := hif.1 hc
              refine Z5 <| Z1 I (Z8 (v := (.vs 4)) I I) I <| Z1 I (Z8 (v := (.int .i64 v5)) I I) I ?_
              have ⟨hg34, h⟩ := Zg h
              refine Z1 I (st_indexT (enc := Zk) (l := v20) (k := .i64) (j := v5) (m := v5.toNat) I s27 I I I hg34 I) I ?_
              have ⟨hg35, h⟩ := Zg h
              refine Z1 I (st_loadT (enc := Zk) (l := v20) I o49 I I hg35) I <| Z1 I (Z8 (v := (.int .i64 v12)) I I) I ?_
              have ⟨hg36, h⟩ := Zg h
              have ⟨hg37, h⟩ := Zg h
              refine Z1 I (st_indexTR (enc := Zk) (l := v20) (k := .i64) (j := v12) (m := v12.toNat) I s49 I I I hg36 hg37 I) I ?_
              have ⟨hg38, h⟩ := Zg h
              have ⟨hg39, h⟩ := Zg h
              refine Z1 I (st_storeTP (enc := Zk) (l := v20) (a := false) (v := (.bool false)) sz4 I I hg38 hg39 I I I I) I <| Z6 ?_
              exact Zj (st' := ⟨[(0, (.sl 1 (a0.map Zh) false)), (3, (.sl 1 (v2.map Zh) false)), (4, (.vs 4)), (5, (.int .i64 v5)), (6, (.int .i64 v12)), (7, (.int .i64 v19))], [(4, (.tab (List.map (List.map Zk) (v20.set v5.toNat ((v20.getD v5.toNat []).set v12.toNat false))) none))]⟩) ⟨rfl, rfl, rfl, rfl, rfl, rfl, trivial⟩ ⟨rfl, trivial⟩ (J33 (v20.set v5.toNat ((v20.getD v5.toNat []).set v12.toNat false)) h)
             ·have h := hif.2 hc
              refine Zr ?_
              exact Zj (st' := ⟨[(0, (.sl 1 (a0.map Zh) false)), (3, (.sl 1 (v2.map Zh) false)), (4, (.vs 4)), (5, (.int .i64 v5)), (6, (.int .i64 v12)), (7, (.int .i64 v19))], [(4, (.tab (List.map (List.map Zk) v20) none))]⟩) ⟨rfl, rfl, rfl, rfl, rfl, rfl, trivial⟩ ⟨rfl, trivial⟩ (J33 v20 h)
           ·have h := hif.2 hc
            refine Zd I I I I I I I <| Zd I I I I I I I <| Zd I I I I I I I <| Zd I I I I I I I <| Zd I I I I I I I <| Zd I I I I I I I <| Zd I I I I I I I <| Z1 I (Zy (v := (.bool false)) I I I) I ?_
            refine Z6 <| Z7 ?_
            refine Zo (b := false) I (fun hc => ?_) (fun hc => ?_)
            ·cases hc
            refine Zr <| At.end ?_
            exact Zj (st' := ⟨[(0, (.sl 1 (a0.map Zh) false)), (3, (.sl 1 (v2.map Zh) false)), (4, (.vs 4)), (5, (.int .i64 v5)), (6, (.int .i64 v12)), (7, (.int .i64 v19))], [(4, (.tab (List.map (List.map Zk) v20) none))]⟩) ⟨rfl, rfl, rfl, rfl, rfl, rfl, trivial⟩ ⟨rfl, trivial⟩ (J27 v20 h)
         ·have h := hif.2 hc
          refine AWp.exit <| At.thru ?_
          exact Zj (st' := ⟨[(0, (.sl 1 (a0.map Zh) false)), (3, (.sl 1 (v2.map Zh) false)), (4, (.vs 4)), (5, (.int .i64 v5)), (6, (.int .i64 v12))], [(4, (.tab (List.map (List.map Zk) v20) none))]⟩) ⟨rfl, rfl, rfl, rfl, rfl, trivial⟩ ⟨rfl, trivial⟩ (J21 v20 h)
      ·have h := hif.2 hc
       refine AWp.exit <| At.thru ?_
       exact Zj (st' := ⟨[(0, (.sl 1 (a0.map Zh) false)), (3, (.sl 1 (v2.map Zh) false)), (4, (.vs 4)), (5, (.int .i64 v5))], [(4, (.tab (List.map (List.map Zk) v13) none))]⟩) ⟨rfl, rfl, rfl, rfl, trivial⟩ ⟨rfl, trivial⟩ (J14 v13 h)
   ·have h := hif.2 hc
    refine AWp.exit <| At.thru ?_
    exact Zj (st' := ⟨[(4, (.vs 4))], [(4, (.tab (List.map (List.map Zk) v6) none))]⟩) ⟨rfl, trivial⟩ ⟨rfl, trivial⟩ (J7 v6 h)
def F12_c19 (K : Nat) : Option (Bool) :=
 some true
def F12_l18 (K : Nat) (v8 : Zb × Int) (v14 : Zb) (c20 : Option (Bool)) : Nat → Int → Option (Bool)
 | 0, _ => none
 | k18 + 1, v17 =>
  if (decide (v17 < (v8.1.Edges.length : Int))) = true then
   if (0 : Int) ≤ 0 ∧ 0 ≤ v17 ∧ v17 ≤ v8.1.Edges.length then
    if ([] : List Za).length + (v8.1.Edges.take v17.toNat).length ≤ 1073741824 then
     if (0 : Int) ≤ (IntKind.i64.wrap (v17 + 1)) ∧ (IntKind.i64.wrap (v17 + 1)) ≤ (v8.1.Edges.length : Int) ∧ (v8.1.Edges.length : Int) ≤ v8.1.Edges.length then
      if (v8.1.Edges.take v17.toNat).length + (v8.1.Edges.drop (IntKind.i64.wrap (v17 + 1)).toNat).length ≤ 1073741824 then
       (F39 K (⟨v8.1.Count, ((v8.1.Edges.take v17.toNat) ++ (v8.1.Edges.drop (IntKind.i64.wrap (v17 + 1)).toNat))⟩ : Zb)).bind fun v27 =>
        (F27 K v27 v14).bind fun v29 =>
         if v29 = true then
          some false
         else
          (F12_l18 K v8 v14 c20 k18) (IntKind.i64.wrap (v17 + 1))
      else none
     else none
    else none
   else none
  else
   c20
def F12_j16 (K : Nat) (v8 : Zb × Int) (v14 : Zb) (v15 : Bool) : Option (Bool) :=
 if v15 = true then
  some false
 else
  F12_l18 K v8 v14 (F12_c19 K) K 0
def F12 (K : Nat) (a0 : Zx) : Option (Bool) :=
 (F13 K).bind fun v2 =>
  if (!v2) = true then
   some false
  else
   (F14 K a0).bind fun v4 =>
    (F16 K v4).bind fun v6 =>
     (F43 K v6).bind fun v8 =>
      (F21 K v4).bind fun v10 =>
       if (!v10.2) = true then
        (F27 K v8.1 z_Tgraph_Graph).bind fun v12 =>
         if v12 = true then
          some (v8.2 == 35)
         else
          some false
       else
        (F39 K v6).bind fun v14 =>
         if (v8.2 != 0) = true then
          F12_j16 K v8 v14 true
         else
          (F44 K v4).bind fun v31 =>
           (F16 K v31).bind fun v33 =>
            (F27 K v8.1 v33).bind fun v35 =>
             if (!v35) = true then
              F12_j16 K v8 v14 true
             else
              (F39 K v8.1).bind fun v37 =>
               (F27 K v37 v14).bind fun v39 =>
                F12_j16 K v8 v14 (!v39)
theorem F12_ok (K : Nat) (a0 : Zx) (r : Bool) (h : F12 K a0 = some r) : ACall P 12 ⟨[(Zn a0)], [], (.bool r), [], []⟩ := by
 refine acall_of Try.func12 Try.results12 rfl Try.ntmps12 rfl rfl rfl ?_
 intro E Q hP hN hro hret
 obtain ⟨P', nt', w0, F0, p0, S0, β0, ro0⟩ := E
 simp only at hP hN
 subst hP hN
 dsimp only [argT]
 unfold F12 at h
 refine Z9 <| Z5 <| Z1 I (st_box (v := (Zn a0)) (cs := (Zn a0).cells) I I I I I) I <| Z1 I (Zf (v := (.bool false)) I I) I <| Z6 <| Z7 <| Z9 <| Z9 ?_
 refine Z5 ?_
 have ⟨v2, hv2, h⟩ := of_bind h
 refine Z1 I (st_call0 (ar := []) (caps := []) Try.call13 (F13_ok K v2 hv2) I I trivial I) I <| Z1 I (st_not (b := v2) I I) I <| Z6 <| Z7 ?_
 have hif := of_if h
 refine Zo I (fun hc => ?_) (fun hc => ?_)
 ·have h := hif.1 hc
  refine Z9 <| Z5 <| Z1 I (Zf (v := (.bool false)) I I) I <| Z6 <| Z7 <| AWp.ret <| At.thruR ?_
  have h := Option.some.inj h
  subst h
  refine (hret _ ?_).1
  exact ⟨[(.bool false)], ⟨rfl, trivial⟩, rfl, trivial⟩
 ·have h := hif.2 hc
  refine Zr <| Z7 <| Z9 <| Z5 <| Z1 I (st_loadPA (cs := (Zn a0).cells) (vs := (Zn a0).cells) I a24 I I I I) I ?_
  have ⟨v4, hv4, h⟩ := of_bind h
  refine Z1 I (st_call0 (ar := [(Zn a0)]) (caps := []) Try.call14 (F14_ok K a0 v4 hv4) I I ⟨rfl, trivial⟩ I) I <| Z1 I (Zf (v := (.sl 1 (v4.map Zh) false)) I I) I <| Z6 <| Z7 <| Z9 <| Z5 <| Z1 I (Z8 (v := (.sl 1 (v4.map Zh) false)) I I) I ?_
  have ⟨v6, hv6, h⟩ := of_bind h
  refine Z1 I (st_call0 (ar := [(.sl 1 (v4.map Zh) false)]) (caps := []) Try.call16 (F16_ok K v4 v6 hv6) I I ⟨rfl, trivial⟩ I) I <| Z1 I (st_alloc (cs := [(.int .i64 0), (.sl 2 [] false)]) I z35 I I I) I <| Z1 I (st_storeP (cs := [(.int .i64 0), (.sl 2 [] false)]) (vs := (Z4 v6).cells) (ds := (Z4 v6).cells) (v := (Z4 v6)) sz35 I I I I I I I I) I <| Z6 <| Z7 <| Z9 <| Z5 <| Z1 I (st_loadPA (cs := (Z4 v6).cells) (vs := (Z4 v6).cells) I a35 I I I I) I ?_
  have ⟨v8, hv8, h⟩ := of_bind h
  refine Z1 I (st_call0 (ar := [(Z4 v6)]) (caps := []) Try.call43 (F43_ok K v6 v8 hv8) I I ⟨rfl, trivial⟩ I) I <| Z1 I (Z8 (v := (.tup [(Z4 v8.1), (.int .i64 v8.2)])) I I) I <| Z1 I (st_extract (vs := [(Z4 v8.1), (.int .i64 v8.2)]) (v := (Z4 v8.1)) I I I) I <| Z1 I (st_extract (vs := [(Z4 v8.1), (.int .i64 v8.2)]) (v := (.int .i64 v8.2)) I I I) I <| Z1 I (st_alloc (cs := [(.int .i64 0), (.sl 2 [] false)]) I z35 I I I) I <| Z1 I (st_storeP (cs := [(.int .i64 0), (.sl 2 [] false)]) (vs := (Z4 v8.1).cells) (ds := (Z4 v8.1).cells) (v := (Z4 v8.1)) sz35 I I I I I I I I) I <| Z1 I (Zf (v := (.int .i64 v8.2)) I I) I <| Z6 ?_
  refine Z7 <| Z9 <| Z9 <| Z5 <| Z1 I (Z8 (v := (.sl 1 (v4.map Zh) false)) I I) I ?_
  have ⟨v10, hv10, h⟩ := of_bind h
  refine Z1 I (st_call0 (ar := [(.sl 1 (v4.map Zh) false)]) (caps := []) Try.call21 (F21_ok K v4 v10 hv10) I I ⟨rfl, trivial⟩ I) I <| Z1 I (Z8 (v := (.tup [(.sl 1 (v10.1.map Zc) false), (.bool v10.2)])) I I) I <| Z1 I (st_extract (vs := [(.sl 1 (v10.1.map Zc) false), (.bool v10.2)]) (v := (.sl 1 (v10.1.map Zc) false)) I I I) I <| Z1 I (st_extract (vs := [(.sl 1 (v10.1.map Zc) false), (.bool v10.2)]) (v := (.bool v10.2)) I I I) I <| Z1 I (Zf (v := (.sl 1 (v10.1.map Zc) false)) I I) I <| Z1 I (Zf (v := (.bool v10.2)) I I) I <| Z6 <| Z7 ?_
  refine Z9 <| Z5 <| Z1 I (Z8 (v := (.bool v10.2)) I I) I <| Z1 I (st_not (b := v10.2) I I) I <| Z6 <| Z7 ?_
  have hif := of_if h
  refine Zo I (fun hc => ?_) (fun hc => ?_)
  ·have h := hif.1 hc
   refine Z9 <| Z5 <| Z1 I (st_loadPA (cs := (Z4 v8.1).cells) (vs := (Z4 v8.1).cells) I a35 I I I I) I <| Z1 I (stx_build (vs := []) (cs := [(.int .i64 0), (.sl 2 [] false)]) I st35 trivial I) I ?_
   have ⟨v12, hv12, h⟩ := of_bind h
   refine Z1 I (st_call0 (ar := [(Z4 v8.1), (.ag [(.int .i64 0), (.sl 2 [] false)])]) (caps := []) Try.call27 (F27_ok K v8.1 z_Tgraph_Graph v12 hv12) I I ⟨rfl, rfl, trivial⟩ I) I <| Z1 I (Z8 (v := (.bool v12)) I I) I ?_
   have hif := of_if h
   refine AOps.split (fun hc => ?_) (fun hc => ?_)
   ·have h := hif.1 hc
    refine Zl I I I I (Z8 (v := (.int .i64 v8.2)) I I) I <| Zl I I I I (st_cmp (k := .i64) (a := v8.2) (b := 35) (c := (v8.2 == 35)) I I I I) I <| Z1 I (st_pickT (v := (.bool (v8.2 == 35))) I I I) I <| Z1 I (Zf (v := (.bool (v8.2 == 35))) I I) I <| Z6 <| Z7 <| AWp.ret <| At.thruR ?_
    have h := Option.some.inj h
    subst h
    refine (hret _ ?_).1
    exact ⟨[(.bool (v8.2 == 35))], ⟨rfl, trivial⟩, rfl, trivial⟩
   ·have h := hif.2 hc
    refine Zd I I I I I I I <| Zd I I I I I I I <| Z1 I (Zy (v := (.bool false)) I I I) I <| Z1 I (Zf (v := (.bool false)) I I) I <| Z6 <| Z7 <| AWp.ret <| At.thruR ?_
    have h := Option.some.inj h
    subst h
    refine (hret _ ?_).1
    exact ⟨[(.bool false)], ⟨rfl, trivial⟩, rfl, trivial⟩
  ·have h := hif.2 hc
   refine Zr <| Z7 <| Z9 <| Z5 <| Z1 I (st_loadPA (cs := (Z4 v6).cells) (vs := (Z4 v6).cells) I a35 I I I I) I ?_
   have ⟨v14, hv14, h⟩ := of_bind h
   refine Z1 I (st_call0 (ar := [(Z4 v6)]) (caps := []) Try.call39 (F39_ok K v6 v14 hv14) I I ⟨rfl, trivial⟩ I) I <| Z1 I (st_alloc (cs := [(.int .i64 0), (.sl 2 [] false)]) I z35 I I I) I <| Z1 I (st_storeP (cs := [(.int .i64 0), (.sl 2 [] false)]) (vs := (Z4 v14).cells) (ds := (Z4 v14).cells) (v := (Z4 v14)) sz35 I I I I I I I I) I <| Z6 <| Z7 <| Z9 <| Z9 ?_
   refine AWp.join (V := Bool) (lp := fun v => F12_j16 K v8 v14 v = some r) (sh := fun v => ⟨[(5, (.ptr 5 0)), (9, (.ptr 9 0)), (55, (.bool v))], [(5, (.box (Z4 v8.1).cells)), (9, (.box (Z4 v14).cells))]⟩) ?_ ?_
   ·intro v h
    revert h
    revert v
    intro v15 h
    try dsimp only at h ⊢
    unfold F12_j16 at h
    refine Z7 ?_
    have hif := of_if h
    refine Zo I (fun hc => ?_) (fun hc => ?_)
    ·have h := hif.1 hc
     refine Z9 <| Z5 <| Z1 I (Zf (v := (.bool false)) I I) I <| Z6 <| Z7 <| AWp.ret <| At.thruR ?_
     have h := Option.some.inj h
     subst h
     refine (hret _ ?_).1
     exact ⟨[(.bool false)], ⟨rfl, trivial⟩, rfl, trivial⟩
    ·have h := hif.2 hc
     refine Zr <| Z7 <| Z9 <| Z9 <| Z5 <| Z1 I (Zf (v := (.int .i64 0)) I I) I <| Z6 <| Z7 ?_
     refine Zv (st' := ⟨[(5, (.ptr 5 0)), (9, (.ptr 9 0)), (10, (.int .i64 0))], [(5, (.box (Z4 v8.1).cells)), (9, (.box (Z4 v14).cells))]⟩) ⟨rfl, rfl, rfl, trivial⟩ ⟨rfl, rfl, trivial⟩ ?_
     refine Zp (V := Int) (X := Unit) (lp := fun k v => F12_l18 K v8 v14 (F12_c19 K) k v = some r) (sh := fun v => ⟨[(5, (.ptr 5 0)), (9, (.ptr 9 0)), (10, (.int .i64 v))], [(5, (.box (Z4 v8.1).cells)), (9, (.box (Z4 v14).cells))]⟩) (x := fun v => F12_c19 K = some r) (shx := fun v => ⟨[], []⟩) (k := K) (v := 0) h ?_ ?_
     ·intro v h
      try dsimp only at h ⊢
      unfold F12_c19 at h
      refine Z7 <| Z9 <| Z5 <| Z1 I (Zf (v := (.bool true)) I I) I <| Z6 <| Z7 <| AWp.ret ?_
      have h := Option.some.inj h
      subst h
      refine (hret _ ?_).1
      exact ⟨[(.bool true)], ⟨rfl, trivial⟩, rfl, trivial⟩
     ·intro N k18 v h IH18 J18
      revert h
      revert v
      intro v17 h
      try dsimp only at h IH18 J18 ⊢
      cases k18 with
      | zero => cases h
      | succ k18 =>
       rw [F12_l18] at h
       refine Z9 <| Z9 <| Z5 <| Z1 I (Z8 (v := (.int .i64 v17)) I I) I <| Z1 I (Zt (m := 5) (o := 0) I f35_1 I I) I <| Z1 I (Zs (cs := (Z4 v8.1).cells) (v := (.sl 2 (v8.1.Edges.map Z2) false)) I o33 I I I) I <| Z1 I (stx_len (l := v8.1.Edges) (enc := Z2) I s33 I) I <| Z1 I (st_cmp (k := .i64) (a := v17) (b := (v8.1.Edges.length : Int)) (c := (decide (v17 < (v8.1.Edges.length : Int)))) I I I I) I ?_
       refine Z6 <| Z7 ?_
       have hif := of_if h
       refine Zo I (fun hc => ?_) (fun hc => ?_)
       ·have h := hif.1 hc
        refine Zr <| Z7 <| Z9 <| AWp.block <| Z9 <| AWp.regionD mixed <| Ze 0 I (Zt (m := 5) (o := 0) I f35_0 I I) <| Ze 1 I (Zs (cs := (Z4 v8.1).cells) (v := (.int .i64 v8.1.Count)) I o3 I I I) ?_
        refine Ze 2 I (stx_buildSlice (vs := []) (enc := Z2) (l := ([] : List Za)) I el33 I I trivial I els_Tgraph_Edge I I I I) <| Ze 3 I (Zt (m := 5) (o := 0) I f35_1 I I) <| Ze 4 I (Zs (cs := (Z4 v8.1).cells) (v := (.sl 2 (v8.1.Edges.map Z2) false)) I o33 I I I) <| Ze 5 I (Z8 (v := (.int .i64 v17)) I I) ?_
        have ⟨hg22, h⟩ := Zg h
        refine Ze 6 I (stx_sliceH (l := v8.1.Edges) (enc := Z2) (kh := .i64) (hi := v17) I s33 I I hg22) ?_
        have ⟨hg23, h⟩ := Zg h
        refine Ze 7 I (st_append (m := 65) (enc := Z2) (l := ([] : List Za)) (l' := (v8.1.Edges.take v17.toNat)) (src := (.sl 2 ((v8.1.Edges.take v17.toNat).map Z2) false)) (rd := []) I I el33 I u33 I I I ⟨rfl, rfl, rfl⟩ noReads els_Tgraph_Edge hg23) <| Ze 8 I (Zt (m := 5) (o := 0) I f35_1 I I) <| Ze 9 I (Zs (cs := (Z4 v8.1).cells) (v := (.sl 2 (v8.1.Edges.map Z2) false)) I o33 I I I) <| Ze 10 I (Z8 (v := (.int .i64 v17)) I I) <| Ze 11 I (Zw (k := .i64) (a := v17) (b := 1) (c := (IntKind.i64.wrap (v17 + 1))) I I I I) ?_
        have ⟨hg24, h⟩ := Zg h
        refine Ze 12 I (stx_sliceL (l := v8.1.Edges) (enc := Z2) (kl := .i64) (lo := (IntKind.i64.wrap (v17 + 1))) I s33 I I hg24) ?_
        have ⟨hg25, h⟩ := Zg h
        refine Ze 13 I (st_append (m := 65) (enc := Z2) (l := (v8.1.Edges.take v17.toNat)) (l' := (v8.1.Edges.drop (IntKind.i64.wrap (v17 + 1)).toNat)) (src := (.sl 2 ((v8.1.Edges.drop (IntKind.i64.wrap (v17 + 1)).toNat).map Z2) false)) (rd := []) I I el33 I u33 I I I ⟨rfl, rfl, rfl⟩ noReads els_Tgraph_Edge hg25) <| Ze 14 I (stx_build (vs := [(0, (.int .i64 v8.1.Count)), (1, (.vs 65))]) (cs := [(.int .i64 v8.1.Count), (.vs 65)]) I st35 ⟨rfl, rfl, rfl, rfl, trivial⟩ I) <| Ze 15 I (st_alloc (cs := [(.int .i64 0), (.sl 2 [] false)]) I z35 I I I) <| Ze 16 I (st_storeP (cs := [(.int .i64 0), (.sl 2 [] false)]) (vs := [(.int .i64 v8.1.Count), (.vs 65)]) (ds := [(.int .i64 v8.1.Count), (.vs 65)]) (v := (.ag [(.int .i64 v8.1.Count), (.vs 65)])) sz35 I I I I I I I I) <| AOpsD.nil (by kernel_rfl) I <| Z7 <| Z9 <| AWp.ghost (st' := ⟨[(5, (.ptr 5 0)), (9, (.ptr 9 0)), (10, (.int .i64 v17)), (11, (.ptr 11 0))], [(5, (.box (Z4 v8.1).cells)), (9, (.box (Z4 v14).cells)), (11, (.box [(.int .i64 v8.1.Count), (.sl 2 (((v8.1.Edges.take v17.toNat) ++ (v8.1.Edges.drop (IntKind.i64.wrap (v17 + 1)).toNat)).map Z2) false)]))]⟩) (fun a w h => (Zq ⟨[(5, (.ptr 5 0)), (9, (.ptr 9 0)), (10, (.int .i64 v17)), (11, (.ptr 11 0))], [(5, (.box (Z4 v8.1).cells)), (9, (.box (Z4 v14).cells)), (11, (.box [(.int .i64 v8.1.Count), (.sl 2 (((v8.1.Edges.take v17.toNat) ++ (v8.1.Edges.drop (IntKind.i64.wrap (v17 + 1)).toNat)).map Z2) false)]))]⟩ (ghost_freeze (m := 65) (sz := 2) (es := (List.map Z2 ((v8.1.Edges.take v17.toNat) ++ (v8.1.Edges.drop (IntKind.i64.wrap (v17 + 1)).toNat)))) a w (Zq ⟨[(5, (.ptr 5 0)), (9, (.ptr 9 0)), (10, (.int .i64 v17)), (11, (.ptr 11 0))], [(65, (.vec 2 (List.map Z2 ((v8.1.Edges.take v17.toNat) ++ (v8.1.Edges.drop (IntKind.i64.wrap (v17 + 1)).toNat))))), (5, (.box (Z4 v8.1).cells)), (9, (.box (Z4 v14).cells)), (11, (.box [(.int .i64 v8.1.Count), (.vs 65)]))]⟩ h ⟨rfl, rfl, rfl, rfl, trivial⟩ ⟨rfl, rfl, rfl, rfl, trivial⟩)) ⟨rfl, rfl, rfl, rfl, trivial⟩ ⟨rfl, rfl, rfl, trivial⟩)) ?_
        refine AWp.regionD mixed <| Ze 0 I (st_loadPA (cs := [(.int .i64 v8.1.Count), (.sl 2 (((v8.1.Edges.take v17.toNat) ++ (v8.1.Edges.drop (IntKind.i64.wrap (v17 + 1)).toNat)).map Z2) false)]) (vs := [(.int .i64 v8.1.Count), (.sl 2 (((v8.1.Edges.take v17.toNat) ++ (v8.1.Edges.drop (IntKind.i64.wrap (v17 + 1)).toNat)).map Z2) false)]) I a35 I I I I) ?_
        have ⟨v27, hv27, h⟩ := of_bind h
        refine Ze 1 I (st_call0 (ar := [(.ag [(.int .i64 v8.1.Count), (.sl 2 (((v8.1.Edges.take v17.toNat) ++ (v8.1.Edges.drop (IntKind.i64.wrap (v17 + 1)).toNat)).map Z2) false)])]) (caps := []) Try.call39 (F39_ok K (⟨v8.1.Count, ((v8.1.Edges.take v17.toNat) ++ (v8.1.Edges.drop (IntKind.i64.wrap (v17 + 1)).toNat))⟩ : Zb) v27 hv27) I I ⟨rfl, trivial⟩ I) <| Ze 2 I (st_loadPA (cs := (Z4 v14).cells) (vs := (Z4 v14).cells) I a35 I I I I) ?_
        have ⟨v29, hv29, h⟩ := of_bind h
        refine Ze 3 I (st_call0 (ar := [(Z4 v27), (Z4 v14)]) (caps := []) Try.call27 (F27_ok K v27 v14 v29 hv29) I I ⟨rfl, rfl, trivial⟩ I) <| AOpsD.nil (by kernel_rfl) I <| Z7 ?_
        have hif := of_if h
        refine Zo I (fun hc => ?_) (fun hc => ?_)
        ·have h := hif.1 hc
         refine Z9 <| Z5 <| Z1 I (Zf (v := (.bool false)) I I) I <| Z6 <| Z7 <| AWp.ret <| At.overR <| At.thruR ?_
         refine At.thruR (At.overR ?_)
         refine At.thruR ?_
         have h := Option.some.inj h
         subst h
         refine (hret _ ?_).1
         exact ⟨[(.bool false)], ⟨rfl, trivial⟩, rfl, trivial⟩
        ·have h := hif.2 hc
         refine Zr <| At.end <| Z7 <| Z5 <| Z1 I (Z8 (v := (.int .i64 v17)) I I) I <| Z1 I (Zw (k := .i64) (a := v17) (b := 1) (c := (IntKind.i64.wrap (v17 + 1))) I I I I) I <| Z1 I (Zf (v := (.int .i64 (IntKind.i64.wrap (v17 + 1)))) I I) I <| Z6 ?_
         exact Zj (st' := ⟨[(5, (.ptr 5 0)), (9, (.ptr 9 0)), (10, (.int .i64 (IntKind.i64.wrap (v17 + 1))))], [(5, (.box (Z4 v8.1).cells)), (9, (.box (Z4 v14).cells))]⟩) ⟨rfl, rfl, rfl, trivial⟩ ⟨rfl, rfl, trivial⟩ (IH18 _ (IntKind.i64.wrap (v17 + 1)) (Nat.lt_succ_self _) h)
       ·have h := hif.2 hc
        refine AWp.exit <| At.thru ?_
        exact Zj (st' := ⟨[], []⟩) trivial trivial (J18 () h)
   ·intro J16
    refine AWp.regionD mixed <| Ze 0 I (Z8 (v := (.int .i64 v8.2)) I I) <| Ze 1 I (st_cmp (k := .i64) (a := v8.2) (b := 0) (c := (v8.2 != 0)) I I I I) <| Ze 2 I (Z8 (v := (.bool (v8.2 != 0))) I I) ?_
    have hif := of_if h
    refine AOpsD.split (fun hc => ?_) (fun hc => ?_)
    ·have h := hif.1 hc
     refine AOpsD.consF 3 I I I I I I I <| AOpsD.consF 4 I I I I I I I <| AOpsD.consF 5 I I I I I I I <| AOpsD.consF 6 I I I I I I I <| AOpsD.consF 7 I I I I I I I <| AOpsD.consF 8 I I I I I I I <| Ze 9 I (st_pickT (v := (.bool true)) I I I) <| Ze 10 I (Z8 (v := (.bool true)) I I) ?_
     refine AOpsD.consF 11 I I I I I I I <| AOpsD.consF 12 I I I I I I I <| AOpsD.consF 13 I I I I I I I <| AOpsD.consF 14 I I I I I I I <| AOpsD.consF 15 I I I I I I I <| Ze 16 I (st_pickT (v := (.bool true)) I I I) <| AOpsD.nil (by kernel_rfl) I ?_
     exact Zj (st' := ⟨[(5, (.ptr 5 0)), (9, (.ptr 9 0)), (55, (.bool true))], [(5, (.box (Z4 v8.1).cells)), (9, (.box (Z4 v14).cells))]⟩) ⟨rfl, rfl, rfl, trivial⟩ ⟨rfl, rfl, trivial⟩ (J16 true h)
    ·have h := hif.2 hc
     refine AOpsD.consT 3 I I I I (st_loadPA (cs := (Z4 v8.1).cells) (vs := (Z4 v8.1).cells) I a35 I I I I) <| AOpsD.consT 4 I I I I (Z8 (v := (.sl 1 (v4.map Zh) false)) I I) ?_
     have ⟨v31, hv31, h⟩ := of_bind h
     refine AOpsD.consT 5 I I I I (st_call0 (ar := [(.sl 1 (v4.map Zh) false)]) (caps := []) Try.call44 (F44_ok K v4 v31 hv31) I I ⟨rfl, trivial⟩ I) ?_
     have ⟨v33, hv33, h⟩ := of_bind h
     refine AOpsD.consT 6 I I I I (st_call0 (ar := [(.sl 1 (v31.map Zh) false)]) (caps := []) Try.call16 (F16_ok K v31 v33 hv33) I I ⟨rfl, trivial⟩ I) ?_
     have ⟨v35, hv35, h⟩ := of_bind h
     refine AOpsD.consT 7 I I I I (st_call0 (ar := [(Z4 v8.1), (Z4 v33)]) (caps := []) Try.call27 (F27_ok K v8.1 v33 v35 hv35) I I ⟨rfl, rfl, trivial⟩ I) <| AOpsD.consT 8 I I I I (st_not (b := v35) I I) <| Ze 9 I (Zy (v := (.bool (!v35))) I I I) <| Ze 10 I (Z8 (v := (.bool (!v35))) I I) ?_
     have hif := of_if h
     refine AOpsD.split (fun hc => ?_) (fun hc => ?_)
     ·have h := hif.1 hc
      refine AOpsD.consF 11 I I I I I I I <| AOpsD.consF 12 I I I I I I I <| AOpsD.consF 13 I I I I I I I <| AOpsD.consF 14 I I I I I I I <| AOpsD.consF 15 I I I I I I I <| Ze 16 I (st_pickT (v := (.bool true)) I I I) <| AOpsD.nil (by kernel_rfl) I ?_
      exact Zj (st' := ⟨[(5, (.ptr 5 0)), (9, (.ptr 9 0)), (55, (.bool true))], [(5, (.box (Z4 v8.1).cells)), (9, (.box (Z4 v14).cells))]⟩) ⟨rfl, rfl, rfl, trivial⟩ ⟨rfl, rfl, trivial⟩ (J16 true h)
     ·have h := hif.2 hc
      refine AOpsD.consT 11 I I I I (st_loadPA (cs := (Z4 v8.1).cells) (vs := (Z4 v8.1).cells) I a35 I I I I) ?_
      have ⟨v37, hv37, h⟩ := of_bind h
      refine AOpsD.consT 12 I I I I (st_call0 (ar := [(Z4 v8.1)]) (caps := []) Try.call39 (F39_ok K v8.1 v37 hv37) I I ⟨rfl, trivial⟩ I) <| AOpsD.consT 13 I I I I (st_loadPA (cs := (Z4 v14).cells) (vs := (Z4 v14).cells) I a35 I I I I) ?_
      have ⟨v39, hv39, h⟩ := of_bind h
      refine AOpsD.consT 14 I I I I (st_call0 (ar := [(Z4 v37), (Z4 v14)]) (caps := []) Try.call27 (F27_ok K v37 v14 v39 hv39) I I ⟨rfl, rfl, trivial⟩ I) <| AOpsD.consT 15 I I I I (st_not (b := v39) I I) <| Ze 16 I (Zy (v := (.bool (!v39))) I I I) <| AOpsD.nil (by kernel_rfl) I ?_
      exact Zj (st' := ⟨[(5, (.ptr 5 0)), (9, (.ptr 9 0)), (55, (.bool (!v39)))], [(5, (.box (Z4 v8.1).cells)), (9, (.box (Z4 v14).cells))]⟩) ⟨rfl, rfl, rfl, trivial⟩ ⟨rfl, rfl, trivial⟩ (J16 (!v39) h)
end Go.AM.Gra
