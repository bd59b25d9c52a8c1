/- What these functions compute, each with its walk: F46, F136, F168, F223, F166, F109, F68, F169, F110, F69, F170, F67, F227, F226, F225, F171, F173, F172, F137, F135, F138, F134, F92, F95, F94, F90, F91, F139, F93, F47, F49, F96, F48, F51, F50, F98, F59, F100, F52. -/
import Derived.Test.YtkhbjnkckblkjaaGreatTopZT
namespace Go.AM.TopZ
open Go Go.AM Go.Proofs
set_option maxRecDepth 100000
set_option maxHeartbeats 2000000
def F46 (K : Nat) : Option (Unit) :=
 some ()
theorem F46_ok (K : Nat) (r : Unit) (h : F46 K = some r) : ACall P 46 ⟨[], [], (.ptr 4 0), [(1, (.map (Z19 Z1z Z3 ([] : List (Str × Zf))))), (2, (.map (Z19 Zp Z6 ([] : List (Zt × Zk))))), (4, (.box [(.map 1), (.map 2), (.bool false)]))], [1, 2, 4]⟩ := by
 refine Z1q Tryz.func46 Tryz.results46 rfl Tryz.ntmps46 rfl rfl rfl ?_
 intro E Q hP hN hro hret
 obtain ⟨P', nt', w0, F0, p0, S0, β0, ro0⟩ := E
 simp only at hP hN
 subst hP hN
 dsimp only [argT]
 unfold F46 at h
 refine Zj <| Zd <| Z1 I (Zm (v := .nilp) I I) I <| Zh <| Zi <| Zj <| Zd <| Z1 I (Z9w I) I ?_
 refine Z1 I (Z9w I) I <| Z1 I (Z29 (vs := [(0, (.map 1)), (1, (.map 2))]) (cs := [(.map 1), (.map 2), (.bool false)]) I st181 ⟨rfl, rfl, rfl, rfl, trivial⟩ I) I <| Z1 I (Z2o (v := (.ag [(.map 1), (.map 2), (.bool false)])) (cs := [(.map 1), (.map 2), (.bool false)]) I I I I I) I <| Z1 I (Zm (v := (.ptr 4 0)) I I) I <| Zh <| Zi <| Z1c ?_
 have h := Option.some.inj h
 subst h
 refine (hret _ ?_).1
 exact ⟨[(.ptr 4 0)], ⟨rfl, trivial⟩, rfl, ⟨rfl, rfl, rfl, trivial⟩⟩
def F136 (K : Nat) (a0 : (List Zg)) : Option ((List Zg)) :=
 some a0
theorem F136_ok (K : Nat) (a0 : (List Zg)) (r : (List Zg)) (h : F136 K a0 = some r) : ACall P 136 ⟨[(.sl 14 (a0.map Z8) false)], [], (.clo 168 [(.ip [(.sl 14 (r.map Z8) false)])]), [], []⟩ := by
 refine Z1q Tryz.func136 Tryz.results136 rfl Tryz.ntmps136 rfl rfl rfl ?_
 intro E Q hP hN hro hret
 obtain ⟨P', nt', w0, F0, p0, S0, β0, ro0⟩ := E
 simp only at hP hN
 subst hP hN
 dsimp only [argT]
 unfold F136 at h
 refine Zj <| Zd <| Z1 I (Z2o (v := (.sl 14 (a0.map Z8) false)) (cs := [(.sl 14 (a0.map Z8) false)]) I I I I I) I <| Z1 I (Zm (v := .nilf) I I) I <| Zh <| Zi <| Zj <| Zd ?_
 refine Z1 I (Zaa (vs := [(.ptr 1 0)]) I ⟨rfl, trivial⟩) I <| Z1 I (Zm (v := (.clo 168 [(.ptr 1 0)])) I I) I <| Zh <| Zi <| Z1c <| At.ghost (st' := ⟨[(2, (.clo 168 [(.ip [(.sl 14 (a0.map Z8) false)])]))], []⟩) (fun a w h => (Z1g ⟨[(2, (.clo 168 [(.ip [(.sl 14 (a0.map Z8) false)])]))], []⟩ (Z3o (m := 1) (cs := [(.sl 14 (a0.map Z8) false)]) I a w (Z1g ⟨[(2, (.clo 168 [(.ptr 1 0)]))], [(1, (.box [(.sl 14 (a0.map Z8) false)]))]⟩ h ⟨rfl, trivial⟩ ⟨rfl, trivial⟩)) ⟨rfl, trivial⟩ trivial)) ?_
 have h := Option.some.inj h
 subst h
 refine (hret _ ?_).1
 exact ⟨[(.clo 168 [(.ip [(.sl 14 (a0.map Z8) false)])])], ⟨rfl, trivial⟩, rfl, trivial⟩
def Z91 (K : Nat) (v4 : (List Zg)) : Option ((List Zg)) :=
 some v4
def Z7t (K : Nat) (a1 : (List Zg)) (a899 : Zg → (List Zg) → Option ((List Zg))) (c6 : (List Zg) → Option ((List Zg))) : Nat → Int → (List Zg) → Option ((List Zg))
 | 0, _, _ => none
 | k3 + 1, v1, v2 =>
  if (decide (v1 < (a1.length : Int))) = true then
   if (0 : Int) ≤ v1 ∧ v1 < a1.length then
    (a899 (a1.getD v1.toNat Z2) v2).bind fun v9 =>
     (Z7t K a1 a899 c6 k3) (IntKind.i64.wrap (v1 + 1)) v9
   else none
  else
   c6 v2
def F168 (K : Nat) (a899 : Zg → (List Zg) → Option ((List Zg))) (a900 : (List Zg)) (a1 : (List Zg)) : Option ((List Zg)) :=
 Z7t K a1 a899 (Z91 K) K 0 a900
theorem F168_ok (K : Nat) (a899 : Zg → (List Zg) → Option ((List Zg))) (a900 : (List Zg)) (a1 : (List Zg)) (r : (List Zg)) (lr : Go.Loop) (h : F168 K a899 a900 a1 = some r) (hps : lr.params.size = 1) (hy : ∀ (x0 : Zg) (a900 : (List Zg)) (w : (List Zg)), a899 x0 a900 = some w → YCall P lr 1000 ⟨[(Z8 x0)], [(1000, (.loop lr [2] [(.ptr 1001 0)])), (0, (.vec 14 (List.map Z8 a900))), (1001, (.box [(.vs 0)]))], .bool true, [(1000, (.loop lr [2] [(.ptr 1001 0)])), (0, (.vec 14 (List.map Z8 w))), (1001, (.box [(.vs 0)]))], [0]⟩) : ACall P 168 ⟨[(.yld 1000), (.ip [(.sl 14 (a1.map Z8) false)])], [(1000, (.loop lr [2] [(.ptr 1001 0)])), (0, (.vec 14 (List.map Z8 a900))), (1001, (.box [(.vs 0)]))], .tup [], [(1000, (.loop lr [2] [(.ptr 1001 0)])), (0, (.vec 14 (List.map Z8 r))), (1001, (.box [(.vs 0)]))], [0]⟩ := by
 refine Z1q Tryz.func168 Tryz.results168 rfl Tryz.ntmps168 rfl rfl rfl ?_
 intro E Q hP hN hro hret
 obtain ⟨P', nt', w0, F0, p0, S0, β0, ro0⟩ := E
 simp only at hP hN
 subst hP hN
 dsimp only [argT]
 unfold F168 at h
 refine Zj <| Zd <| Z1 I (Z28 (cs := [(.sl 14 (a1.map Z8) false)]) (v := (.sl 14 (a1.map Z8) false)) I o37 I I) I <| Z1 I (Z2d (l := a1) (enc := Z8) I s37 I) I <| Z1 I (Zl (v := (.int .i64 0)) I I) I <| Zh <| Zi <| AWp.weaken (st' := ⟨[(0, (.yld 1000)), (5, (.sl 14 (a1.map Z8) false)), (6, (.int .i64 (a1.length : Int))), (7, (.int .i64 0))], [(0, (.vec 14 (List.map Z8 a900))), (1000, (.loop lr [2] [(.ptr 1001 0)])), (1001, (.box [(.vs 0)]))]⟩) ⟨rfl, rfl, rfl, rfl, trivial⟩ ⟨rfl, rfl, rfl, trivial⟩ ?_
 refine Z1o (V := Int × (List Zg)) (X := (List Zg)) (lp := fun k v => Z7t K a1 a899 (Z91 K) k v.1 v.2 = some r) (sh := fun v => ⟨[(0, (.yld 1000)), (5, (.sl 14 (a1.map Z8) false)), (6, (.int .i64 (a1.length : Int))), (7, (.int .i64 v.1))], [(0, (.vec 14 (List.map Z8 v.2))), (1000, (.loop lr [2] [(.ptr 1001 0)])), (1001, (.box [(.vs 0)]))]⟩) (x := fun v => Z91 K v = some r) (shx := fun v => ⟨[], [(0, (.vec 14 (List.map Z8 v))), (1000, (.loop lr [2] [(.ptr 1001 0)])), (1001, (.box [(.vs 0)]))]⟩) (k := K) (v := (0, a900)) h ?_ ?_
 ·intro v h
  revert h
  revert v
  intro v4 h
  try dsimp only at h ⊢
  unfold Z91 at h
  have h := Option.some.inj h
  subst h
  refine (hret _ ?_).2
  exact ⟨[], trivial, rfl, ⟨rfl, rfl, rfl, trivial⟩⟩
 ·intro N k3 v h IH3 J3
  obtain ⟨v1, v2⟩ := v
  try dsimp only at h IH3 J3 ⊢
  cases k3 with
  | zero => cases h
  | succ k3 =>
   rw [Z7t] at h
   refine Zj <| Zd <| Z1 I (Z1x (k := .i64) (a := v1) (b := (a1.length : Int)) (c := (decide (v1 < (a1.length : Int)))) I I I I) I <| Zh <| Zi <| Zj ?_
   have hif := Z1w h
   refine Z16 I (fun hc => ?_) (fun hc => ?_)
   ·have h := hif.1 hc
    refine Z1a <| Zi <| Zj <| AWp.block <| Zj <| Zd ?_
    have ⟨hg8, h⟩ := Z14 h
    refine Z1 I (Z1s (k := .i64) (l := a1) (enc := Z8) (z := Z2) (n := v1) (cs := (Z8 (a1.getD v1.toNat Z2)).cells) (full := false) I s37 I I hg8 I) I <| Z1 I (Z2h (cs := (Z8 (a1.getD v1.toNat Z2)).cells) (vs := (Z8 (a1.getD v1.toNat Z2)).cells) I a56 I I I) I <| Z1 I (Z21 (cs := [(.int .i64 0), (.int .i64 0), (.int .i64 0), (.int .i64 0), (.int .i64 0), (.int .i64 0), (.str []), (.str []), (.str []), (.int .i64 0), (.int .i64 0), (.bool false), (.sl 4 [] false), (.sl 2 [] false)]) I z56 I I I) I <| Z1 I (Z1b (cs := [(.int .i64 0), (.int .i64 0), (.int .i64 0), (.int .i64 0), (.int .i64 0), (.int .i64 0), (.str []), (.str []), (.str []), (.int .i64 0), (.int .i64 0), (.bool false), (.sl 4 [] false), (.sl 2 [] false)]) (vs := (Z8 (a1.getD v1.toNat Z2)).cells) (ds := (Z8 (a1.getD v1.toNat Z2)).cells) (v := (Z8 (a1.getD v1.toNat Z2))) sz56 I I I I I I I I) I <| Zh <| Zi <| Zj <| Zd ?_
    refine Z1 I (Zl (v := (.yld 1000)) I I) I <| Z1 I (Z1n (cs := (Z8 (a1.getD v1.toNat Z2)).cells) (vs := (Z8 (a1.getD v1.toNat Z2)).cells) I a56 I I I I) I ?_
    have ⟨v9, hv9, h⟩ := Z1d h
    refine Z1 I (st_yield (d := some 13) (ks := [2]) (vs := [(.ptr 1001 0)]) (c := ⟨[(Z8 (a1.getD v1.toNat Z2))], [(1000, (.loop lr [2] [(.ptr 1001 0)])), (0, (.vec 14 (List.map Z8 v2))), (1001, (.box [(.vs 0)]))], .bool true, [(1000, (.loop lr [2] [(.ptr 1001 0)])), (0, (.vec 14 (List.map Z8 v9))), (1001, (.box [(.vs 0)]))], [0]⟩) (ar := [(Z8 (a1.getD v1.toNat Z2))]) (news := []) (forg := [0]) (hy (a1.getD v1.toNat Z2) v2 _ hv9) I hps I I ⟨rfl, trivial⟩ I ⟨rfl, rfl, rfl, trivial⟩ I) I <| Z1 I (Z3q (b := true) I I) I <| Zh <| Zi ?_
    refine Z16 (b := false) I (fun hc => ?_) (fun hc => ?_)
    ·cases hc
    refine Z1a <| At.end <| Zi <| Zd <| Z1 I (Z1k (k := .i64) (a := v1) (b := 1) (c := (IntKind.i64.wrap (v1 + 1))) I I I I) I <| Z1 I (Zl (v := (.int .i64 (IntKind.i64.wrap (v1 + 1)))) I I) I <| Zh ?_
    exact Z13 (st' := ⟨[(0, (.yld 1000)), (5, (.sl 14 (a1.map Z8) false)), (6, (.int .i64 (a1.length : Int))), (7, (.int .i64 (IntKind.i64.wrap (v1 + 1))))], [(0, (.vec 14 (List.map Z8 v9))), (1000, (.loop lr [2] [(.ptr 1001 0)])), (1001, (.box [(.vs 0)]))]⟩) ⟨rfl, rfl, rfl, rfl, trivial⟩ ⟨rfl, rfl, rfl, trivial⟩ (IH3 _ ((IntKind.i64.wrap (v1 + 1)), v9) (Nat.lt_succ_self _) h)
   ·have h := hif.2 hc
    refine AWp.exit <| At.thru ?_
    exact Z13 (st' := ⟨[], [(0, (.vec 14 (List.map Z8 v2))), (1000, (.loop lr [2] [(.ptr 1001 0)])), (1001, (.box [(.vs 0)]))]⟩) trivial ⟨rfl, rfl, rfl, trivial⟩ (J3 v2 h)
def Z9n (K : Nat) (x2 : Zg) (v1 : (List Zg)) : Option ((List Zg)) :=
 if v1.length + [x2].length ≤ 1073741824 then
  some (v1 ++ [x2])
 else none
def F223 (K : Nat) (a100 : (List Zg)) : Option ((List Zg)) :=
 (F168 K (Z9n K) [] a100).bind fun v5 =>
  some v5
theorem F223_ok (K : Nat) (a100 : (List Zg)) (r : (List Zg)) (h : F223 K a100 = some r) : ACall P 223 ⟨[(.sl 14 [] true), (.clo 168 [(.ip [(.sl 14 (a100.map Z8) false)])])], [], .vs 4, [(4, .vec 14 (List.map Z8 r))], [4]⟩ := by
 refine Z1q Tryz.func223 Tryz.results223 rfl Tryz.ntmps223 rfl rfl rfl ?_
 intro E Q hP hN hro hret
 obtain ⟨P', nt', w0, F0, p0, S0, β0, ro0⟩ := E
 simp only at hP hN
 subst hP hN
 dsimp only [argT]
 unfold F223 at h
 refine Zj <| Zd <| Z1 I (Z2o (v := (.sl 14 [] true)) (cs := [(.sl 14 [] true)]) I I I I I) I <| Z1 I (Zm (v := (.sl 14 [] false)) I I) I <| Zh <| Zi <| Zj <| Zj ?_
 refine Zd <| Z1 I (Zl (v := (.clo 168 [(.ip [(.sl 14 (a100.map Z8) false)])])) I I) I <| Zh <| Zi <| AWp.block <| AWp.ghost (st' := ⟨[(2, (.ptr 2 0)), (6, (.clo 168 [(.ip [(.sl 14 (a100.map Z8) false)])]))], [(2, (.box [(.vs 12)])), (12, (.vec 14 (List.map Z8 ([] : List Zg))))]⟩) (fun a w h => (Z1g ⟨[(2, (.ptr 2 0)), (6, (.clo 168 [(.ip [(.sl 14 (a100.map Z8) false)])]))], [(2, (.box [(.vs 12)])), (12, (.vec 14 (List.map Z8 ([] : List Zg))))]⟩ (Z9d (n := 2) (m := 12) (sz := 14) (j := 0) I I I a w (Z1g ⟨[(2, (.ptr 2 0)), (6, (.clo 168 [(.ip [(.sl 14 (a100.map Z8) false)])]))], [(2, (.box [(.sl 14 [] true)]))]⟩ h ⟨rfl, rfl, trivial⟩ ⟨rfl, trivial⟩)) ⟨rfl, rfl, trivial⟩ ⟨rfl, rfl, trivial⟩)) ?_
 have ⟨v5, hv5, h⟩ := Z1d h
 refine AWp.weaken (st' := ⟨[(2, (.ptr 2 0)), (6, (.clo 168 [(.ip [(.sl 14 (a100.map Z8) false)])]))], [(2, (.box [(.vs 12)])), (12, (.vec 14 (List.map Z8 [])))]⟩) ⟨rfl, rfl, trivial⟩ ⟨rfl, rfl, trivial⟩ ?_
 refine AWp.rangeFunc (n := 1) (f := 168) (caps := [(.ip [(.sl 14 (a100.map Z8) false)])]) (ks := [2]) (vs := [(.ptr 2 0)]) (ins := [(12, (.vec 14 (List.map Z8 []))), (2, (.box [(.vs 12)]))]) (outs := [(12, (.vec 14 (List.map Z8 v5))), (2, (.box [(.vs 12)]))]) (res := .tup []) (mv := [12]) (forg := [12]) (jump := none) hro Tryz.call168 I I I I ⟨rfl, trivial⟩ ⟨rfl, rfl, trivial⟩ I I I I (fun lr hst hpe hpr has hbd hsz => ?_) (fun _ => ?_) (fun c hc => by cases hc)
 ·have hend := endRec_self hst hpe
  rw [hend]
  have hps : lr.params.size = 1 ∧ True := ⟨by rw [hpr]; rfl, trivial⟩
  have hy : ∀ (x2 : Zg) (v1 : (List Zg)) (w : (List Zg)), Z9n K x2 v1 = some w → YCall P lr 1000 ⟨[(Z8 x2)], [(1000, .loop lr [2] [(.ptr 1001 0)]), (0, (.vec 14 (List.map Z8 v1))), (1001, (.box [(.vs 0)]))], .bool true, [(1000, .loop lr [2] [(.ptr 1001 0)]), (0, (.vec 14 (List.map Z8 w))), (1001, (.box [(.vs 0)]))], [0]⟩ := by
   intro x2 v1 w h
   unfold Z9n at h
   refine ycall_of (ks := [2]) (vs := [(.ptr 1001 0)]) (ps := [7]) rfl hst hsz hpr rfl (by decide) rfl rfl rfl ?_
   intro E Qa Qb hP hN hmid hfin
   obtain ⟨P', nt', w0, F0, p0, S0, β0, ro0⟩ := E
   simp only at hP hN
   subst hP hN
   refine AWp.code has ?_
   dsimp only [List.zip, List.zipWith, List.cons_append, List.nil_append]
   refine Zd <| Z1 I (Z21 (cs := [(.int .i64 0), (.int .i64 0), (.int .i64 0), (.int .i64 0), (.int .i64 0), (.int .i64 0), (.str []), (.str []), (.str []), (.int .i64 0), (.int .i64 0), (.bool false), (.sl 4 [] false), (.sl 2 [] false)]) I z56 I I I) I <| Z1 I (Z1b (cs := [(.int .i64 0), (.int .i64 0), (.int .i64 0), (.int .i64 0), (.int .i64 0), (.int .i64 0), (.str []), (.str []), (.str []), (.int .i64 0), (.int .i64 0), (.bool false), (.sl 4 [] false), (.sl 2 [] false)]) (vs := (Z8 x2).cells) (ds := (Z8 x2).cells) (v := (Z8 x2)) sz56 I I I I I I I I) I <| Zh ?_
   refine hmid _ _ _ rfl ?_
   refine AWp.code hbd <| AWp.block <| Zd <| Z1 I (Zy (cs := [(.vs 0)]) (v := (.vs 0)) I o37 I I I) I <| Z1 I (Z1n (cs := (Z8 x2).cells) (vs := (Z8 x2).cells) I a56 I I I I) I <| Z1 I (Z1l (vs := [(Z8 x2)]) (enc := Z8) (l := [x2]) I el37 I I ⟨rfl, trivial⟩ I Z2v I I I I) I ?_
   have ⟨hg3, h⟩ := Z14 h
   refine Z1 I (Z2t (m := 0) (enc := Z8) (l := v1) (l' := [x2]) (src := (.vs 10)) (rd := [(10, (.vec 14 (List.map Z8 [x2])))]) I I el37 I u37 I I I I (oneRead I) Z2v hg3) I <| Z1 I (Z1b (cs := [.undef]) (vs := [(.vs 0)]) (ds := [(.vs 0)]) (v := (.vs 0)) sz37 I I I I I I I I) I <| Zh <| At.end ?_
   have h := Option.some.inj h
   subst h
   refine hfin _ _ _ none .normal rfl rfl rfl ?_
   rw [hend]
   exact ⟨rfl, rfl, rfl, trivial⟩
  exact (((F168_ok K (Z9n K) [] a100 v5 lr hv5 hps.1 hy).sw 1000 1).sw 0 12).sw 1001 2
 ·refine Z13 (st' := ⟨[(2, (.ptr 2 0)), (6, (.clo 168 [(.ip [(.sl 14 (a100.map Z8) false)])]))], [(2, (.box [(.vs 12)])), (12, (.vec 14 (List.map Z8 v5)))]⟩) ⟨rfl, rfl, trivial⟩ ⟨rfl, rfl, trivial⟩ <| At.end <| Zi <| Zj <| Zd <| Z1 I (Zy (cs := [(.vs 12)]) (v := (.vs 12)) I o37 I I I) I <| Z1 I (Zm (v := (.vs 12)) I I) I <| Zh ?_
  refine Zi <| Z1c <| At.ghost (st' := ⟨[(4, (.vs 4))], [(4, (.vec 14 (List.map Z8 v5)))]⟩) (fun a w h => (Z1g ⟨[(4, (.vs 4))], [(4, (.vec 14 (List.map Z8 v5)))]⟩ (Z51 (a := 12) (b := 4) I I a w (Z1g ⟨[(4, (.vs 12))], [(12, (.vec 14 (List.map Z8 v5)))]⟩ h ⟨rfl, trivial⟩ ⟨rfl, trivial⟩)) ⟨rfl, trivial⟩ ⟨rfl, trivial⟩)) ?_
  have h := Option.some.inj h
  subst h
  refine (hret _ ?_).1
  exact ⟨[(.vs 4)], ⟨rfl, trivial⟩, rfl, ⟨rfl, trivial⟩⟩
def F166 (K : Nat) (a000 : (List Zg)) : Option ((List Zg)) :=
 (F223 K a000).bind fun v2 =>
  some v2
theorem F166_ok (K : Nat) (a000 : (List Zg)) (r : (List Zg)) (h : F166 K a000 = some r) : ACall P 166 ⟨[(.clo 168 [(.ip [(.sl 14 (a000.map Z8) false)])])], [], .vs 2, [(2, .vec 14 (List.map Z8 r))], [2]⟩ := by
 refine Z1q Tryz.func166 Tryz.results166 rfl Tryz.ntmps166 rfl rfl rfl ?_
 intro E Q hP hN hro hret
 obtain ⟨P', nt', w0, F0, p0, S0, β0, ro0⟩ := E
 simp only at hP hN
 subst hP hN
 dsimp only [argT]
 unfold F166 at h
 refine Zj <| Zd <| Z1 I (Zm (v := (.sl 14 [] false)) I I) I <| Zh <| Zi <| Zj <| Zd <| Z1 I (Zl (v := (.clo 168 [(.ip [(.sl 14 (a000.map Z8) false)])])) I I) I ?_
 have ⟨v2, hv2, h⟩ := Z1d h
 refine Z1 I (Z8s (sz := 14) (es := (List.map Z8 v2)) (ar := [(.sl 14 [] true), (.clo 168 [(.ip [(.sl 14 (a000.map Z8) false)])])]) (caps := []) Tryz.call223 ((F223_ok K a000 v2 hv2).sw 4 4) I I ⟨rfl, rfl, trivial⟩ I) I <| Z1 I (Zm (v := (.vs 4)) I I) I <| Zh <| Zi <| Z1c <| At.ghost (st' := ⟨[(2, (.vs 2))], [(2, (.vec 14 (List.map Z8 v2)))]⟩) (fun a w h => (Z1g ⟨[(2, (.vs 2))], [(2, (.vec 14 (List.map Z8 v2)))]⟩ (Z51 (a := 4) (b := 2) I I a w (Z1g ⟨[(2, (.vs 4))], [(4, (.vec 14 (List.map Z8 v2)))]⟩ h ⟨rfl, trivial⟩ ⟨rfl, trivial⟩)) ⟨rfl, trivial⟩ ⟨rfl, trivial⟩)) ?_
 have h := Option.some.inj h
 subst h
 refine (hret _ ?_).1
 exact ⟨[(.vs 2)], ⟨rfl, trivial⟩, rfl, ⟨rfl, trivial⟩⟩
def F109 (K : Nat) (a0 : Int) : Option (Bool) :=
 some (a0 != a0)
theorem F109_ok (K : Nat) (a0 : Int) (r : Bool) (h : F109 K a0 = some r) : ACall P 109 ⟨[(.int .i64 a0)], [], (.bool r), [], []⟩ := by
 refine Z1q Tryz.func109 Tryz.results109 rfl Tryz.ntmps109 rfl rfl rfl ?_
 intro E Q hP hN hro hret
 obtain ⟨P', nt', w0, F0, p0, S0, β0, ro0⟩ := E
 simp only at hP hN
 subst hP hN
 dsimp only [argT]
 unfold F109 at h
 refine Zj <| Zd <| Z1 I (Zm (v := (.bool false)) I I) I <| Zh <| Zi <| Zj <| Zd <| Z1 I (Zl (v := (.int .i64 a0)) I I) I ?_
 refine Z1 I (Zl (v := (.int .i64 a0)) I I) I <| Z1 I (Z1x (k := .i64) (a := a0) (b := a0) (c := (a0 != a0)) I I I I) I <| Z1 I (Zm (v := (.bool (a0 != a0))) I I) I <| Zh <| Zi <| Z1c ?_
 have h := Option.some.inj h
 subst h
 refine (hret _ ?_).1
 exact ⟨[(.bool (a0 != a0))], ⟨rfl, trivial⟩, rfl, trivial⟩
def F68 (K : Nat) (a0 : Int) (a1 : Int) : Option (Int) :=
 (F109 K a0).bind fun v2 =>
  (F109 K a1).bind fun v4 =>
   if v2 = true then
    if v4 = true then
     some 0
    else
     some (Int.negSucc 0)
   else
    if v4 = true then
     some 1
    else
     if (decide (a0 < a1)) = true then
      some (Int.negSucc 0)
     else
      if (decide (a0 > a1)) = true then
       some 1
      else
       some 0
theorem Zc4 (K : Nat) (a0 : Int) (a1 : Int) (r : Int) (h : F68 K a0 a1 = some r) : ACall P 68 ⟨[(.int .i64 a0), (.int .i64 a1)], [], (.int .i64 r), [], []⟩ := by
 refine Z1q Tryz.func68 Tryz.results68 rfl Tryz.ntmps68 rfl rfl rfl ?_
 intro E Q hP hN hro hret
 obtain ⟨P', nt', w0, F0, p0, S0, β0, ro0⟩ := E
 simp only at hP hN
 subst hP hN
 dsimp only [argT]
 unfold F68 at h
 refine Zj <| Zd <| Z1 I (Zm (v := (.int .i64 0)) I I) I <| Zh <| Zi <| Zj <| Zd <| Z1 I (Zl (v := (.int .i64 a0)) I I) I ?_
 have ⟨v2, hv2, h⟩ := Z1d h
 refine Z1 I (Z1e (ar := [(.int .i64 a0)]) (caps := []) Tryz.call109 (F109_ok K a0 v2 hv2) I I ⟨rfl, trivial⟩ I) I <| Z1 I (Zm (v := (.bool v2)) I I) I <| Zh <| Zi <| Zj <| Zd <| Z1 I (Zl (v := (.int .i64 a1)) I I) I ?_
 have ⟨v4, hv4, h⟩ := Z1d h
 refine Z1 I (Z1e (ar := [(.int .i64 a1)]) (caps := []) Tryz.call109 (F109_ok K a1 v4 hv4) I I ⟨rfl, trivial⟩ I) I <| Z1 I (Zm (v := (.bool v4)) I I) I <| Zh <| Zi <| Zj <| Zj <| Zd <| Z1 I (Zl (v := (.bool v2)) I I) I ?_
 refine Zh <| Zi ?_
 have hif := Z1w h
 refine Z16 I (fun hc => ?_) (fun hc => ?_)
 ·have h := hif.1 hc
  refine Zj <| Zj <| Zd <| Z1 I (Zl (v := (.bool v4)) I I) I <| Zh <| Zi ?_
  have hif := Z1w h
  refine Z16 I (fun hc => ?_) (fun hc => ?_)
  ·have h := hif.1 hc
   refine Zj <| Zd <| Z1 I (Zm (v := (.int .i64 0)) I I) I <| Zh <| Zi <| Z1c <| Z18 <| Z18 ?_
   have h := Option.some.inj h
   subst h
   refine (hret _ ?_).1
   exact ⟨[(.int .i64 0)], ⟨rfl, trivial⟩, rfl, trivial⟩
  ·have h := hif.2 hc
   refine Z1a <| Zi <| Zj <| Zd <| Z1 I (Zm (v := (.int .i64 (Int.negSucc 0))) I I) I <| Zh <| Zi <| Z1c ?_
   refine Z18 ?_
   have h := Option.some.inj h
   subst h
   refine (hret _ ?_).1
   exact ⟨[(.int .i64 (Int.negSucc 0))], ⟨rfl, trivial⟩, rfl, trivial⟩
 ·have h := hif.2 hc
  refine Z1a <| Zi <| Zj <| Zj <| Zd <| Z1 I (Zl (v := (.bool v4)) I I) I <| Zh <| Zi ?_
  have hif := Z1w h
  refine Z16 I (fun hc => ?_) (fun hc => ?_)
  ·have h := hif.1 hc
   refine Zj <| Zd <| Z1 I (Zm (v := (.int .i64 1)) I I) I <| Zh <| Zi <| Z1c <| Z18 ?_
   have h := Option.some.inj h
   subst h
   refine (hret _ ?_).1
   exact ⟨[(.int .i64 1)], ⟨rfl, trivial⟩, rfl, trivial⟩
  ·have h := hif.2 hc
   refine Z1a <| Zi <| Zj <| Zj <| Zd <| Z1 I (Zl (v := (.int .i64 a0)) I I) I <| Z1 I (Zl (v := (.int .i64 a1)) I I) I <| Z1 I (Z1x (k := .i64) (a := a0) (b := a1) (c := (decide (a0 < a1))) I I I I) I ?_
   refine Zh <| Zi ?_
   have hif := Z1w h
   refine Z16 I (fun hc => ?_) (fun hc => ?_)
   ·have h := hif.1 hc
    refine Zj <| Zd <| Z1 I (Zm (v := (.int .i64 (Int.negSucc 0))) I I) I <| Zh <| Zi <| Z1c <| Z18 ?_
    have h := Option.some.inj h
    subst h
    refine (hret _ ?_).1
    exact ⟨[(.int .i64 (Int.negSucc 0))], ⟨rfl, trivial⟩, rfl, trivial⟩
   ·have h := hif.2 hc
    refine Z1a <| Zi <| Zj <| Zj <| Zd <| Z1 I (Zl (v := (.int .i64 a0)) I I) I <| Z1 I (Zl (v := (.int .i64 a1)) I I) I <| Z1 I (Z1x (k := .i64) (a := a0) (b := a1) (c := (decide (a0 > a1))) I I I I) I ?_
    refine Zh <| Zi ?_
    have hif := Z1w h
    refine Z16 I (fun hc => ?_) (fun hc => ?_)
    ·have h := hif.1 hc
     refine Zj <| Zd <| Z1 I (Zm (v := (.int .i64 1)) I I) I <| Zh <| Zi <| Z1c <| Z18 ?_
     have h := Option.some.inj h
     subst h
     refine (hret _ ?_).1
     exact ⟨[(.int .i64 1)], ⟨rfl, trivial⟩, rfl, trivial⟩
    ·have h := hif.2 hc
     refine Z1a <| Zi <| Zj <| Zd <| Z1 I (Zm (v := (.int .i64 0)) I I) I <| Zh <| Zi <| Z1c ?_
     have h := Option.some.inj h
     subst h
     refine (hret _ ?_).1
     exact ⟨[(.int .i64 0)], ⟨rfl, trivial⟩, rfl, trivial⟩
def Z9l (K : Nat) (a0 : (List Int)) (a1 : (List Int)) : Option (Int) :=
 if (decide ((a0.length : Int) < (a1.length : Int))) = true then
  some (Int.negSucc 0)
 else
  some 0
def Z6k (K : Nat) (a0 : (List Int)) (a1 : (List Int)) (c4 : Option (Int)) : Nat → Int → Option (Int)
 | 0, _ => none
 | k2 + 1, v1 =>
  if (decide (v1 < (a0.length : Int))) = true then
   if (0 : Int) ≤ v1 ∧ v1 < a0.length then
    if (decide (v1 ≥ (a1.length : Int))) = true then
     some 1
    else
     if (0 : Int) ≤ v1 ∧ v1 < a1.length then
      (F68 K (a0.getD v1.toNat 0) (a1.getD v1.toNat 0)).bind fun v9 =>
       if (v9 != 0) = true then
        some v9
       else
        (Z6k K a0 a1 c4 k2) (IntKind.i64.wrap (v1 + 1))
     else none
   else none
  else
   c4
def F169 (K : Nat) (a0 : (List Int)) (a1 : (List Int)) : Option (Int) :=
 Z6k K a0 a1 (Z9l K a0 a1) K 0
theorem F169_ok (K : Nat) (a0 : (List Int)) (a1 : (List Int)) (r : Int) (h : F169 K a0 a1 = some r) : ACall P 169 ⟨[(.sl 1 (a0.map Z1i) false), (.sl 1 (a1.map Z1i) false)], [], (.int .i64 r), [], []⟩ := by
 refine Z1q Tryz.func169 Tryz.results169 rfl Tryz.ntmps169 rfl rfl rfl ?_
 intro E Q hP hN hro hret
 obtain ⟨P', nt', w0, F0, p0, S0, β0, ro0⟩ := E
 simp only at hP hN
 subst hP hN
 dsimp only [argT]
 unfold F169 at h
 refine Zj <| Zd <| Z1 I (Zm (v := (.int .i64 0)) I I) I <| Zh <| Zi <| Zj <| Zj <| Zd ?_
 refine Z1 I (Zl (v := (.sl 1 (a0.map Z1i) false)) I I) I <| Z1 I (Z2d (l := a0) (enc := Z1i) I s65 I) I <| Z1 I (Zl (v := (.int .i64 0)) I I) I <| Zh <| Zi <| AWp.weaken (st' := ⟨[(0, (.sl 1 (a0.map Z1i) false)), (1, (.sl 1 (a1.map Z1i) false)), (9, (.sl 1 (a0.map Z1i) false)), (10, (.int .i64 (a0.length : Int))), (11, (.int .i64 0))], []⟩) ⟨rfl, rfl, rfl, rfl, rfl, trivial⟩ trivial ?_
 refine Z1o (V := Int) (X := Unit) (lp := fun k v => Z6k K a0 a1 (Z9l K a0 a1) k v = some r) (sh := fun v => ⟨[(0, (.sl 1 (a0.map Z1i) false)), (1, (.sl 1 (a1.map Z1i) false)), (9, (.sl 1 (a0.map Z1i) false)), (10, (.int .i64 (a0.length : Int))), (11, (.int .i64 v))], []⟩) (x := fun v => Z9l K a0 a1 = some r) (shx := fun v => ⟨[(0, (.sl 1 (a0.map Z1i) false)), (1, (.sl 1 (a1.map Z1i) false))], []⟩) (k := K) (v := 0) h ?_ ?_
 ·intro v h
  try dsimp only at h ⊢
  unfold Z9l at h
  refine Zi <| Zj <| Zj <| Zd <| Z1 I (Zl (v := (.sl 1 (a0.map Z1i) false)) I I) I <| Z1 I (Z2d (l := a0) (enc := Z1i) I s65 I) I <| Z1 I (Zl (v := (.sl 1 (a1.map Z1i) false)) I I) I <| Z1 I (Z2d (l := a1) (enc := Z1i) I s65 I) I ?_
  refine Z1 I (Z1x (k := .i64) (a := (a0.length : Int)) (b := (a1.length : Int)) (c := (decide ((a0.length : Int) < (a1.length : Int)))) I I I I) I <| Zh <| Zi ?_
  have hif := Z1w h
  refine Z16 I (fun hc => ?_) (fun hc => ?_)
  ·have h := hif.1 hc
   refine Zj <| Zd <| Z1 I (Zm (v := (.int .i64 (Int.negSucc 0))) I I) I <| Zh <| Zi <| Z1c <| Z18 ?_
   have h := Option.some.inj h
   subst h
   refine (hret _ ?_).1
   exact ⟨[(.int .i64 (Int.negSucc 0))], ⟨rfl, trivial⟩, rfl, trivial⟩
  ·have h := hif.2 hc
   refine Z1a <| Zi <| Zj <| Zd <| Z1 I (Zm (v := (.int .i64 0)) I I) I <| Zh <| Zi <| Z1c ?_
   have h := Option.some.inj h
   subst h
   refine (hret _ ?_).1
   exact ⟨[(.int .i64 0)], ⟨rfl, trivial⟩, rfl, trivial⟩
 ·intro N k2 v h IH2 J2
  revert h
  revert v
  intro v1 h
  try dsimp only at h IH2 J2 ⊢
  cases k2 with
  | zero => cases h
  | succ k2 =>
   rw [Z6k] at h
   refine Zj <| Zd <| Z1 I (Z1x (k := .i64) (a := v1) (b := (a0.length : Int)) (c := (decide (v1 < (a0.length : Int)))) I I I I) I <| Zh <| Zi <| Zj ?_
   have hif := Z1w h
   refine Z16 I (fun hc => ?_) (fun hc => ?_)
   ·have h := hif.1 hc
    refine Z1a <| Zi <| Zj <| AWp.block <| Zj <| Zd <| Z1 I (Zl (v := (.int .i64 v1)) I I) I ?_
    have ⟨hg6, h⟩ := Z14 h
    refine Z1 I (Z1s (k := .i64) (l := a0) (enc := Z1i) (z := 0) (n := v1) (cs := [(.int .i64 (a0.getD v1.toNat 0))]) (full := false) I s65 I I hg6 I) I <| Z1 I (Z28 (cs := [(.int .i64 (a0.getD v1.toNat 0))]) (v := (.int .i64 (a0.getD v1.toNat 0))) I o3 I I) I <| Z1 I (Zm (v := (.int .i64 v1)) I I) I <| Z1 I (Zm (v := (.int .i64 (a0.getD v1.toNat 0))) I I) I <| Zh <| Zi <| Zj <| Zj ?_
    refine Zd <| Z1 I (Zl (v := (.int .i64 v1)) I I) I <| Z1 I (Zl (v := (.sl 1 (a1.map Z1i) false)) I I) I <| Z1 I (Z2d (l := a1) (enc := Z1i) I s65 I) I <| Z1 I (Z1x (k := .i64) (a := v1) (b := (a1.length : Int)) (c := (decide (v1 ≥ (a1.length : Int)))) I I I I) I <| Zh <| Zi ?_
    have hif := Z1w h
    refine Z16 I (fun hc => ?_) (fun hc => ?_)
    ·have h := hif.1 hc
     refine Zj <| Zd <| Z1 I (Zm (v := (.int .i64 1)) I I) I <| Zh <| Zi <| Z1c <| Z18 <| Z1u ?_
     refine Z18 ?_
     refine Z18 (Z1u ?_)
     refine Z18 ?_
     have h := Option.some.inj h
     subst h
     refine (hret _ ?_).1
     exact ⟨[(.int .i64 1)], ⟨rfl, trivial⟩, rfl, trivial⟩
    ·have h := hif.2 hc
     refine Z1a <| Zi <| Zj <| Zd <| Z1 I (Zl (v := (.sl 1 (a1.map Z1i) false)) I I) I <| Z1 I (Zl (v := (.int .i64 v1)) I I) I ?_
     have ⟨hg7, h⟩ := Z14 h
     refine Z1 I (Z1s (k := .i64) (l := a1) (enc := Z1i) (z := 0) (n := v1) (cs := [(.int .i64 (a1.getD v1.toNat 0))]) (full := false) I s65 I I hg7 I) I <| Z1 I (Z28 (cs := [(.int .i64 (a1.getD v1.toNat 0))]) (v := (.int .i64 (a1.getD v1.toNat 0))) I o3 I I) I <| Z1 I (Zm (v := (.int .i64 (a1.getD v1.toNat 0))) I I) I <| Zh <| Zi <| Zj <| Zd <| Z1 I (Zl (v := (.int .i64 (a0.getD v1.toNat 0))) I I) I ?_
     refine Z1 I (Zl (v := (.int .i64 (a1.getD v1.toNat 0))) I I) I ?_
     have ⟨v9, hv9, h⟩ := Z1d h
     refine Z1 I (Z1e (ar := [(.int .i64 (a0.getD v1.toNat 0)), (.int .i64 (a1.getD v1.toNat 0))]) (caps := []) Tryz.call68 (Zc4 K (a0.getD v1.toNat 0) (a1.getD v1.toNat 0) v9 hv9) I I ⟨rfl, rfl, trivial⟩ I) I <| Z1 I (Zm (v := (.int .i64 v9)) I I) I <| Zh <| Zi <| Zj <| Zd <| Z1 I (Zl (v := (.int .i64 v9)) I I) I <| Z1 I (Z1x (k := .i64) (a := v9) (b := 0) (c := (v9 != 0)) I I I I) I ?_
     refine Zh <| Zi ?_
     have hif := Z1w h
     refine Z16 I (fun hc => ?_) (fun hc => ?_)
     ·have h := hif.1 hc
      refine Zj <| Zd <| Z1 I (Zl (v := (.int .i64 v9)) I I) I <| Z1 I (Zm (v := (.int .i64 v9)) I I) I <| Zh <| Zi <| Z1c <| Z1u ?_
      refine Z18 ?_
      refine Z18 (Z1u ?_)
      refine Z18 ?_
      have h := Option.some.inj h
      subst h
      refine (hret _ ?_).1
      exact ⟨[(.int .i64 v9)], ⟨rfl, trivial⟩, rfl, trivial⟩
     ·have h := hif.2 hc
      refine Z1a <| At.end <| Zi <| Zd <| Z1 I (Z1k (k := .i64) (a := v1) (b := 1) (c := (IntKind.i64.wrap (v1 + 1))) I I I I) I <| Z1 I (Zl (v := (.int .i64 (IntKind.i64.wrap (v1 + 1)))) I I) I <| Zh ?_
      exact Z13 (st' := ⟨[(0, (.sl 1 (a0.map Z1i) false)), (1, (.sl 1 (a1.map Z1i) false)), (9, (.sl 1 (a0.map Z1i) false)), (10, (.int .i64 (a0.length : Int))), (11, (.int .i64 (IntKind.i64.wrap (v1 + 1))))], []⟩) ⟨rfl, rfl, rfl, rfl, rfl, trivial⟩ trivial (IH2 _ (IntKind.i64.wrap (v1 + 1)) (Nat.lt_succ_self _) h)
   ·have h := hif.2 hc
    refine AWp.exit <| At.thru ?_
    exact Z13 (st' := ⟨[(0, (.sl 1 (a0.map Z1i) false)), (1, (.sl 1 (a1.map Z1i) false))], []⟩) ⟨rfl, rfl, trivial⟩ trivial (J2 () h)
def F110 (K : Nat) (a0 : Str) : Option (Bool) :=
 some (!(a0 == a0))
theorem F110_ok (K : Nat) (a0 : Str) (r : Bool) (h : F110 K a0 = some r) : ACall P 110 ⟨[(.str a0)], [], (.bool r), [], []⟩ := by
 refine Z1q Tryz.func110 Tryz.results110 rfl Tryz.ntmps110 rfl rfl rfl ?_
 intro E Q hP hN hro hret
 obtain ⟨P', nt', w0, F0, p0, S0, β0, ro0⟩ := E
 simp only at hP hN
 subst hP hN
 dsimp only [argT]
 unfold F110 at h
 refine Zj <| Zd <| Z1 I (Zm (v := (.bool false)) I I) I <| Zh <| Zi <| Zj <| Zd <| Z1 I (Zl (v := (.str a0)) I I) I ?_
 refine Z1 I (Zl (v := (.str a0)) I I) I <| Z1 I (Z3d (a := a0) (b := a0) (c := (!(a0 == a0))) I I I I) I <| Z1 I (Zm (v := (.bool (!(a0 == a0)))) I I) I <| Zh <| Zi <| Z1c ?_
 have h := Option.some.inj h
 subst h
 refine (hret _ ?_).1
 exact ⟨[(.bool (!(a0 == a0)))], ⟨rfl, trivial⟩, rfl, trivial⟩
def F69 (K : Nat) (a0 : Str) (a1 : Str) : Option (Int) :=
 (F110 K a0).bind fun v2 =>
  (F110 K a1).bind fun v4 =>
   if v2 = true then
    if v4 = true then
     some 0
    else
     some (Int.negSucc 0)
   else
    if v4 = true then
     some 1
    else
     if (slt a0 a1) = true then
      some (Int.negSucc 0)
     else
      if (!(slt a0 a1 || a0 == a1)) = true then
       some 1
      else
       some 0
theorem Z8i (K : Nat) (a0 : Str) (a1 : Str) (r : Int) (h : F69 K a0 a1 = some r) : ACall P 69 ⟨[(.str a0), (.str a1)], [], (.int .i64 r), [], []⟩ := by
 refine Z1q Tryz.func69 Tryz.results69 rfl Tryz.ntmps69 rfl rfl rfl ?_
 intro E Q hP hN hro hret
 obtain ⟨P', nt', w0, F0, p0, S0, β0, ro0⟩ := E
 simp only at hP hN
 subst hP hN
 dsimp only [argT]
 unfold F69 at h
 refine Zj <| Zd <| Z1 I (Zm (v := (.int .i64 0)) I I) I <| Zh <| Zi <| Zj <| Zd <| Z1 I (Zl (v := (.str a0)) I I) I ?_
 have ⟨v2, hv2, h⟩ := Z1d h
 refine Z1 I (Z1e (ar := [(.str a0)]) (caps := []) Tryz.call110 (F110_ok K a0 v2 hv2) I I ⟨rfl, trivial⟩ I) I <| Z1 I (Zm (v := (.bool v2)) I I) I <| Zh <| Zi <| Zj <| Zd <| Z1 I (Zl (v := (.str a1)) I I) I ?_
 have ⟨v4, hv4, h⟩ := Z1d h
 refine Z1 I (Z1e (ar := [(.str a1)]) (caps := []) Tryz.call110 (F110_ok K a1 v4 hv4) I I ⟨rfl, trivial⟩ I) I <| Z1 I (Zm (v := (.bool v4)) I I) I <| Zh <| Zi <| Zj <| Zj <| Zd <| Z1 I (Zl (v := (.bool v2)) I I) I ?_
 refine Zh <| Zi ?_
 have hif := Z1w h
 refine Z16 I (fun hc => ?_) (fun hc => ?_)
 ·have h := hif.1 hc
  refine Zj <| Zj <| Zd <| Z1 I (Zl (v := (.bool v4)) I I) I <| Zh <| Zi ?_
  have hif := Z1w h
  refine Z16 I (fun hc => ?_) (fun hc => ?_)
  ·have h := hif.1 hc
   refine Zj <| Zd <| Z1 I (Zm (v := (.int .i64 0)) I I) I <| Zh <| Zi <| Z1c <| Z18 <| Z18 ?_
   have h := Option.some.inj h
   subst h
   refine (hret _ ?_).1
   exact ⟨[(.int .i64 0)], ⟨rfl, trivial⟩, rfl, trivial⟩
  ·have h := hif.2 hc
   refine Z1a <| Zi <| Zj <| Zd <| Z1 I (Zm (v := (.int .i64 (Int.negSucc 0))) I I) I <| Zh <| Zi <| Z1c ?_
   refine Z18 ?_
   have h := Option.some.inj h
   subst h
   refine (hret _ ?_).1
   exact ⟨[(.int .i64 (Int.negSucc 0))], ⟨rfl, trivial⟩, rfl, trivial⟩
 ·have h := hif.2 hc
  refine Z1a <| Zi <| Zj <| Zj <| Zd <| Z1 I (Zl (v := (.bool v4)) I I) I <| Zh <| Zi ?_
  have hif := Z1w h
  refine Z16 I (fun hc => ?_) (fun hc => ?_)
  ·have h := hif.1 hc
   refine Zj <| Zd <| Z1 I (Zm (v := (.int .i64 1)) I I) I <| Zh <| Zi <| Z1c <| Z18 ?_
   have h := Option.some.inj h
   subst h
   refine (hret _ ?_).1
   exact ⟨[(.int .i64 1)], ⟨rfl, trivial⟩, rfl, trivial⟩
  ·have h := hif.2 hc
   refine Z1a <| Zi <| Zj <| Zj <| Zd <| Z1 I (Zl (v := (.str a0)) I I) I <| Z1 I (Zl (v := (.str a1)) I I) I <| Z1 I (Z3d (a := a0) (b := a1) (c := (slt a0 a1)) I I I I) I ?_
   refine Zh <| Zi ?_
   have hif := Z1w h
   refine Z16 I (fun hc => ?_) (fun hc => ?_)
   ·have h := hif.1 hc
    refine Zj <| Zd <| Z1 I (Zm (v := (.int .i64 (Int.negSucc 0))) I I) I <| Zh <| Zi <| Z1c <| Z18 ?_
    have h := Option.some.inj h
    subst h
    refine (hret _ ?_).1
    exact ⟨[(.int .i64 (Int.negSucc 0))], ⟨rfl, trivial⟩, rfl, trivial⟩
   ·have h := hif.2 hc
    refine Z1a <| Zi <| Zj <| Zj <| Zd <| Z1 I (Zl (v := (.str a0)) I I) I <| Z1 I (Zl (v := (.str a1)) I I) I <| Z1 I (Z3d (a := a0) (b := a1) (c := (!(slt a0 a1 || a0 == a1))) I I I I) I ?_
    refine Zh <| Zi ?_
    have hif := Z1w h
    refine Z16 I (fun hc => ?_) (fun hc => ?_)
    ·have h := hif.1 hc
     refine Zj <| Zd <| Z1 I (Zm (v := (.int .i64 1)) I I) I <| Zh <| Zi <| Z1c <| Z18 ?_
     have h := Option.some.inj h
     subst h
     refine (hret _ ?_).1
     exact ⟨[(.int .i64 1)], ⟨rfl, trivial⟩, rfl, trivial⟩
    ·have h := hif.2 hc
     refine Z1a <| Zi <| Zj <| Zd <| Z1 I (Zm (v := (.int .i64 0)) I I) I <| Zh <| Zi <| Z1c ?_
     have h := Option.some.inj h
     subst h
     refine (hret _ ?_).1
     exact ⟨[(.int .i64 0)], ⟨rfl, trivial⟩, rfl, trivial⟩
def F170 (K : Nat) (a0 : Bool) : Option (Int) :=
 if a0 = true then
  some 1
 else
  some 0
theorem F170_ok (K : Nat) (a0 : Bool) (r : Int) (h : F170 K a0 = some r) : ACall P 170 ⟨[(.bool a0)], [], (.int .i64 r), [], []⟩ := by
 refine Z1q Tryz.func170 Tryz.results170 rfl Tryz.ntmps170 rfl rfl rfl ?_
 intro E Q hP hN hro hret
 obtain ⟨P', nt', w0, F0, p0, S0, β0, ro0⟩ := E
 simp only at hP hN
 subst hP hN
 dsimp only [argT]
 unfold F170 at h
 refine Zj <| Zd <| Z1 I (Zm (v := (.int .i64 0)) I I) I <| Zh <| Zi <| Zj <| Zj <| Zd ?_
 refine Z1 I (Zl (v := (.bool a0)) I I) I <| Zh <| Zi ?_
 have hif := Z1w h
 refine Z16 I (fun hc => ?_) (fun hc => ?_)
 ·have h := hif.1 hc
  refine Zj <| Zd <| Z1 I (Zm (v := (.int .i64 1)) I I) I <| Zh <| Zi <| Z1c <| Z18 ?_
  have h := Option.some.inj h
  subst h
  refine (hret _ ?_).1
  exact ⟨[(.int .i64 1)], ⟨rfl, trivial⟩, rfl, trivial⟩
 ·have h := hif.2 hc
  refine Z1a <| Zi <| Zj <| Zd <| Z1 I (Zm (v := (.int .i64 0)) I I) I <| Zh <| Zi <| Z1c ?_
  have h := Option.some.inj h
  subst h
  refine (hret _ ?_).1
  exact ⟨[(.int .i64 0)], ⟨rfl, trivial⟩, rfl, trivial⟩
def Z8x (K : Nat) : Option (Int) :=
 some 0
def Z67 (K : Nat) (a0 : (List Int)) (c4 : Option (Int)) : Nat → Int → Option (Int)
 | 0, _ => none
 | k2 + 1, v1 =>
  if (decide (v1 < (a0.length : Int))) = true then
   if (0 : Int) ≤ v1 ∧ v1 < a0.length then
    if ((a0.getD v1.toNat 0) != 0) = true then
     some (a0.getD v1.toNat 0)
    else
     (Z67 K a0 c4 k2) (IntKind.i64.wrap (v1 + 1))
   else none
  else
   c4
def F67 (K : Nat) (a0 : (List Int)) : Option (Int) :=
 Z67 K a0 (Z8x K) K 0
theorem F67_ok (K : Nat) (a0 : (List Int)) (r : Int) (h : F67 K a0 = some r) : ACall P 67 ⟨[(.sl 1 (a0.map Z1i) false)], [], (.int .i64 r), [], []⟩ := by
 refine Z1q Tryz.func67 Tryz.results67 rfl Tryz.ntmps67 rfl rfl rfl ?_
 intro E Q hP hN hro hret
 obtain ⟨P', nt', w0, F0, p0, S0, β0, ro0⟩ := E
 simp only at hP hN
 subst hP hN
 dsimp only [argT]
 unfold F67 at h
 refine Zj <| Zd <| Z1 I (Zm (v := (.int .i64 0)) I I) I <| Zh <| Zi <| Zj <| Zd <| Z1 I (Zm (v := (.int .i64 0)) I I) I ?_
 refine Zh <| Zi <| Zj <| Zj <| Zd <| Z1 I (Zl (v := (.sl 1 (a0.map Z1i) false)) I I) I <| Z1 I (Z2d (l := a0) (enc := Z1i) I s65 I) I <| Z1 I (Zl (v := (.int .i64 0)) I I) I ?_
 refine Zh <| Zi <| AWp.weaken (st' := ⟨[(3, (.int .i64 0)), (6, (.sl 1 (a0.map Z1i) false)), (7, (.int .i64 (a0.length : Int))), (8, (.int .i64 0))], []⟩) ⟨rfl, rfl, rfl, rfl, trivial⟩ trivial ?_
 refine Z1o (V := Int) (X := Unit) (lp := fun k v => Z67 K a0 (Z8x K) k v = some r) (sh := fun v => ⟨[(3, (.int .i64 0)), (6, (.sl 1 (a0.map Z1i) false)), (7, (.int .i64 (a0.length : Int))), (8, (.int .i64 v))], []⟩) (x := fun v => Z8x K = some r) (shx := fun v => ⟨[(3, (.int .i64 0))], []⟩) (k := K) (v := 0) h ?_ ?_
 ·intro v h
  try dsimp only at h ⊢
  unfold Z8x at h
  refine Zi <| Zj <| Zd <| Z1 I (Zl (v := (.int .i64 0)) I I) I <| Z1 I (Zm (v := (.int .i64 0)) I I) I <| Zh <| Zi <| Z1c ?_
  have h := Option.some.inj h
  subst h
  refine (hret _ ?_).1
  exact ⟨[(.int .i64 0)], ⟨rfl, trivial⟩, rfl, trivial⟩
 ·intro N k2 v h IH2 J2
  revert h
  revert v
  intro v1 h
  try dsimp only at h IH2 J2 ⊢
  cases k2 with
  | zero => cases h
  | succ k2 =>
   rw [Z67] at h
   refine Zj <| Zd <| Z1 I (Z1x (k := .i64) (a := v1) (b := (a0.length : Int)) (c := (decide (v1 < (a0.length : Int)))) I I I I) I <| Zh <| Zi <| Zj ?_
   have hif := Z1w h
   refine Z16 I (fun hc => ?_) (fun hc => ?_)
   ·have h := hif.1 hc
    refine Z1a <| Zi <| Zj <| AWp.block <| Zj <| Zd ?_
    have ⟨hg6, h⟩ := Z14 h
    refine Z1 I (Z1s (k := .i64) (l := a0) (enc := Z1i) (z := 0) (n := v1) (cs := [(.int .i64 (a0.getD v1.toNat 0))]) (full := false) I s65 I I hg6 I) I <| Z1 I (Z28 (cs := [(.int .i64 (a0.getD v1.toNat 0))]) (v := (.int .i64 (a0.getD v1.toNat 0))) I o3 I I) I <| Z1 I (Zm (v := (.int .i64 (a0.getD v1.toNat 0))) I I) I <| Zh <| Zi <| Zj <| Zd <| Z1 I (Zl (v := (.int .i64 (a0.getD v1.toNat 0))) I I) I ?_
    refine Z1 I (Zl (v := (.int .i64 0)) I I) I <| Z1 I (Z1x (k := .i64) (a := (a0.getD v1.toNat 0)) (b := 0) (c := ((a0.getD v1.toNat 0) != 0)) I I I I) I <| Zh <| Zi ?_
    have hif := Z1w h
    refine Z16 I (fun hc => ?_) (fun hc => ?_)
    ·have h := hif.1 hc
     refine Zj <| Zd <| Z1 I (Zl (v := (.int .i64 (a0.getD v1.toNat 0))) I I) I <| Z1 I (Zm (v := (.int .i64 (a0.getD v1.toNat 0))) I I) I <| Zh <| Zi <| Z1c <| Z1u ?_
     refine Z18 ?_
     refine Z18 (Z1u ?_)
     refine Z18 ?_
     have h := Option.some.inj h
     subst h
     refine (hret _ ?_).1
     exact ⟨[(.int .i64 (a0.getD v1.toNat 0))], ⟨rfl, trivial⟩, rfl, trivial⟩
    ·have h := hif.2 hc
     refine Z1a <| At.end <| Zi <| Zd <| Z1 I (Z1k (k := .i64) (a := v1) (b := 1) (c := (IntKind.i64.wrap (v1 + 1))) I I I I) I <| Z1 I (Zl (v := (.int .i64 (IntKind.i64.wrap (v1 + 1)))) I I) I <| Zh ?_
     exact Z13 (st' := ⟨[(3, (.int .i64 0)), (6, (.sl 1 (a0.map Z1i) false)), (7, (.int .i64 (a0.length : Int))), (8, (.int .i64 (IntKind.i64.wrap (v1 + 1))))], []⟩) ⟨rfl, rfl, rfl, rfl, trivial⟩ trivial (IH2 _ (IntKind.i64.wrap (v1 + 1)) (Nat.lt_succ_self _) h)
   ·have h := hif.2 hc
    refine AWp.exit <| At.thru ?_
    exact Z13 (st' := ⟨[(3, (.int .i64 0))], []⟩) ⟨rfl, trivial⟩ trivial (J2 () h)
def F227 (K : Nat) (a0 : Z1p) (a1 : Z1p) : Option (Int) :=
 (F68 K a0.Kind a1.Kind).bind fun v2 =>
  (F69 K a0.Text a1.Text).bind fun v4 =>
   (F68 K a0.Int a1.Int).bind fun v6 =>
    (F67 K [v2, v4, v6]).bind fun v8 =>
     some v8
theorem F227_ok (K : Nat) (a0 : Z1p) (a1 : Z1p) (r : Int) (h : F227 K a0 a1 = some r) : ACall P 227 ⟨[(Z2m a0), (Z2m a1)], [], (.int .i64 r), [], []⟩ := by
 refine Z1q Tryz.func227 Tryz.results227 rfl Tryz.ntmps227 rfl rfl rfl ?_
 intro E Q hP hN hro hret
 obtain ⟨P', nt', w0, F0, p0, S0, β0, ro0⟩ := E
 simp only at hP hN
 subst hP hN
 dsimp only [argT]
 unfold F227 at h
 refine Zj <| Zd <| Z1 I (Z2o (v := (Z2m a0)) (cs := (Z2m a0).cells) I I I I I) I <| Z1 I (Z2o (v := (Z2m a1)) (cs := (Z2m a1).cells) I I I I I) I <| Z1 I (Zm (v := (.int .i64 0)) I I) I <| Zh <| Zi <| Zj ?_
 refine Z1r mixed <| Zb 0 I (Zr (m := 2) (o := 0) I f172_0 I I) <| Zb 1 I (Zy (cs := (Z2m a0).cells) (v := (.int .i64 a0.Kind)) I o3 I I I) <| Zb 2 I (Zr (m := 3) (o := 0) I f172_0 I I) <| Zb 3 I (Zy (cs := (Z2m a1).cells) (v := (.int .i64 a1.Kind)) I o3 I I I) ?_
 have ⟨v2, hv2, h⟩ := Z1d h
 refine Zb 4 I (Z1e (ar := [(.int .i64 a0.Kind), (.int .i64 a1.Kind)]) (caps := []) Tryz.call68 (Zc4 K a0.Kind a1.Kind v2 hv2) I I ⟨rfl, rfl, trivial⟩ I) <| Zb 5 I (Zr (m := 2) (o := 0) I f172_1 I I) <| Zb 6 I (Zy (cs := (Z2m a0).cells) (v := (.str a0.Text)) I o9 I I I) <| Zb 7 I (Zr (m := 3) (o := 0) I f172_1 I I) <| Zb 8 I (Zy (cs := (Z2m a1).cells) (v := (.str a1.Text)) I o9 I I I) ?_
 have ⟨v4, hv4, h⟩ := Z1d h
 refine Zb 9 I (Z1e (ar := [(.str a0.Text), (.str a1.Text)]) (caps := []) Tryz.call69 (Z8i K a0.Text a1.Text v4 hv4) I I ⟨rfl, rfl, trivial⟩ I) <| Zb 10 I (Zr (m := 2) (o := 0) I f172_2 I I) <| Zb 11 I (Zy (cs := (Z2m a0).cells) (v := (.int .i64 a0.Int)) I o3 I I I) <| Zb 12 I (Zr (m := 3) (o := 0) I f172_2 I I) <| Zb 13 I (Zy (cs := (Z2m a1).cells) (v := (.int .i64 a1.Int)) I o3 I I I) ?_
 have ⟨v6, hv6, h⟩ := Z1d h
 refine Zb 14 I (Z1e (ar := [(.int .i64 a0.Int), (.int .i64 a1.Int)]) (caps := []) Tryz.call68 (Zc4 K a0.Int a1.Int v6 hv6) I I ⟨rfl, rfl, trivial⟩ I) <| Zb 15 I (Z1l (vs := [(.int .i64 v2), (.int .i64 v4), (.int .i64 v6)]) (enc := Z1i) (l := [v2, v4, v6]) I el65 I I ⟨rfl, rfl, rfl, trivial⟩ I Z4f I I I I) ?_
 have ⟨v8, hv8, h⟩ := Z1d h
 refine Zb 16 I (Z8o (rd := [(20, (.vec 1 (List.map Z1i [v2, v4, v6])))]) (ar := [(.vs 20)]) (caps := []) Tryz.call67 (F67_ok K [v2, v4, v6] v8 hv8) I I ⟨rfl, trivial⟩ (Z7h ⟨rfl, trivial⟩) I I I) <| Zb 17 I (Zm (v := (.int .i64 v8)) I I) <| Z1t (by kernel_rfl) I <| Zi <| Z1c ?_
 have h := Option.some.inj h
 subst h
 refine (hret _ ?_).1
 exact ⟨[(.int .i64 v8)], ⟨rfl, trivial⟩, rfl, trivial⟩
def F226 (K : Nat) (a0 : Z1f) (a1 : Z1f) : Option (Int) :=
 (F69 K a0.Key a1.Key).bind fun v2 =>
  (F227 K a0.Value a1.Value).bind fun v4 =>
   (F67 K [v2, v4]).bind fun v6 =>
    some v6
theorem F226_ok (K : Nat) (a0 : Z1f) (a1 : Z1f) (r : Int) (h : F226 K a0 a1 = some r) : ACall P 226 ⟨[(Zv a0), (Zv a1)], [], (.int .i64 r), [], []⟩ := by
 refine Z1q Tryz.func226 Tryz.results226 rfl Tryz.ntmps226 rfl rfl rfl ?_
 intro E Q hP hN hro hret
 obtain ⟨P', nt', w0, F0, p0, S0, β0, ro0⟩ := E
 simp only at hP hN
 subst hP hN
 dsimp only [argT]
 unfold F226 at h
 refine Zj <| Zd <| Z1 I (Z2o (v := (Zv a0)) (cs := (Zv a0).cells) I I I I I) I <| Z1 I (Z2o (v := (Zv a1)) (cs := (Zv a1).cells) I I I I I) I <| Z1 I (Zm (v := (.int .i64 0)) I I) I <| Zh <| Zi <| Zj ?_
 refine Z1r mixed <| Zb 0 I (Zr (m := 2) (o := 0) I f174_0 I I) <| Zb 1 I (Zy (cs := (Zv a0).cells) (v := (.str a0.Key)) I o9 I I I) <| Zb 2 I (Zr (m := 3) (o := 0) I f174_0 I I) <| Zb 3 I (Zy (cs := (Zv a1).cells) (v := (.str a1.Key)) I o9 I I I) ?_
 have ⟨v2, hv2, h⟩ := Z1d h
 refine Zb 4 I (Z1e (ar := [(.str a0.Key), (.str a1.Key)]) (caps := []) Tryz.call69 (Z8i K a0.Key a1.Key v2 hv2) I I ⟨rfl, rfl, trivial⟩ I) <| Zb 5 I (Zr (m := 2) (o := 0) I f174_1 I I) <| Zb 6 I (Z1n (cs := (Zv a0).cells) (vs := (Z2m a0.Value).cells) I a172 I I I I) <| Zb 7 I (Zr (m := 3) (o := 0) I f174_1 I I) <| Zb 8 I (Z1n (cs := (Zv a1).cells) (vs := (Z2m a1.Value).cells) I a172 I I I I) ?_
 have ⟨v4, hv4, h⟩ := Z1d h
 refine Zb 9 I (Z1e (ar := [(Z2m a0.Value), (Z2m a1.Value)]) (caps := []) Tryz.call227 (F227_ok K a0.Value a1.Value v4 hv4) I I ⟨rfl, rfl, trivial⟩ I) <| Zb 10 I (Z1l (vs := [(.int .i64 v2), (.int .i64 v4)]) (enc := Z1i) (l := [v2, v4]) I el65 I I ⟨rfl, rfl, trivial⟩ I Z4f I I I I) ?_
 have ⟨v6, hv6, h⟩ := Z1d h
 refine Zb 11 I (Z8o (rd := [(15, (.vec 1 (List.map Z1i [v2, v4])))]) (ar := [(.vs 15)]) (caps := []) Tryz.call67 (F67_ok K [v2, v4] v6 hv6) I I ⟨rfl, trivial⟩ (Z7h ⟨rfl, trivial⟩) I I I) <| Zb 12 I (Zm (v := (.int .i64 v6)) I I) <| Z1t (by kernel_rfl) I <| Zi <| Z1c ?_
 have h := Option.some.inj h
 subst h
 refine (hret _ ?_).1
 exact ⟨[(.int .i64 v6)], ⟨rfl, trivial⟩, rfl, trivial⟩
def Z9b (K : Nat) (a0 : (List Z1f)) (a1 : (List Z1f)) : Option (Int) :=
 if (decide ((a0.length : Int) < (a1.length : Int))) = true then
  some (Int.negSucc 0)
 else
  some 0
def Z6t (K : Nat) (a0 : (List Z1f)) (a1 : (List Z1f)) (c4 : Option (Int)) : Nat → Int → Option (Int)
 | 0, _ => none
 | k2 + 1, v1 =>
  if (decide (v1 < (a0.length : Int))) = true then
   if (0 : Int) ≤ v1 ∧ v1 < a0.length then
    if (decide (v1 ≥ (a1.length : Int))) = true then
     some 1
    else
     if (0 : Int) ≤ v1 ∧ v1 < a1.length then
      (F226 K (a0.getD v1.toNat Z25) (a1.getD v1.toNat Z25)).bind fun v9 =>
       if (v9 != 0) = true then
        some v9
       else
        (Z6t K a0 a1 c4 k2) (IntKind.i64.wrap (v1 + 1))
     else none
   else none
  else
   c4
def F225 (K : Nat) (a0 : (List Z1f)) (a1 : (List Z1f)) : Option (Int) :=
 Z6t K a0 a1 (Z9b K a0 a1) K 0
theorem F225_ok (K : Nat) (a0 : (List Z1f)) (a1 : (List Z1f)) (r : Int) (h : F225 K a0 a1 = some r) : ACall P 225 ⟨[(.sl 4 (a0.map Zv) false), (.sl 4 (a1.map Zv) false), (.clo 226 [])], [], (.int .i64 r), [], []⟩ := by
 refine Z1q Tryz.func225 Tryz.results225 rfl Tryz.ntmps225 rfl rfl rfl ?_
 intro E Q hP hN hro hret
 obtain ⟨P', nt', w0, F0, p0, S0, β0, ro0⟩ := E
 simp only at hP hN
 subst hP hN
 dsimp only [argT]
 unfold F225 at h
 refine Zj <| Zd <| Z1 I (Zm (v := (.int .i64 0)) I I) I <| Zh <| Zi <| Zj <| Zj <| Zd ?_
 refine Z1 I (Zl (v := (.sl 4 (a0.map Zv) false)) I I) I <| Z1 I (Z2d (l := a0) (enc := Zv) I s53 I) I <| Z1 I (Zl (v := (.int .i64 0)) I I) I <| Zh <| Zi <| AWp.weaken (st' := ⟨[(0, (.sl 4 (a0.map Zv) false)), (1, (.sl 4 (a1.map Zv) false)), (2, (.clo 226 [])), (11, (.sl 4 (a0.map Zv) false)), (12, (.int .i64 (a0.length : Int))), (13, (.int .i64 0))], []⟩) ⟨rfl, rfl, rfl, rfl, rfl, rfl, trivial⟩ trivial ?_
 refine Z1o (V := Int) (X := Unit) (lp := fun k v => Z6t K a0 a1 (Z9b K a0 a1) k v = some r) (sh := fun v => ⟨[(0, (.sl 4 (a0.map Zv) false)), (1, (.sl 4 (a1.map Zv) false)), (2, (.clo 226 [])), (11, (.sl 4 (a0.map Zv) false)), (12, (.int .i64 (a0.length : Int))), (13, (.int .i64 v))], []⟩) (x := fun v => Z9b K a0 a1 = some r) (shx := fun v => ⟨[(0, (.sl 4 (a0.map Zv) false)), (1, (.sl 4 (a1.map Zv) false))], []⟩) (k := K) (v := 0) h ?_ ?_
 ·intro v h
  try dsimp only at h ⊢
  unfold Z9b at h
  refine Zi <| Zj <| Zj <| Zd <| Z1 I (Zl (v := (.sl 4 (a0.map Zv) false)) I I) I <| Z1 I (Z2d (l := a0) (enc := Zv) I s53 I) I <| Z1 I (Zl (v := (.sl 4 (a1.map Zv) false)) I I) I <| Z1 I (Z2d (l := a1) (enc := Zv) I s53 I) I ?_
  refine Z1 I (Z1x (k := .i64) (a := (a0.length : Int)) (b := (a1.length : Int)) (c := (decide ((a0.length : Int) < (a1.length : Int)))) I I I I) I <| Zh <| Zi ?_
  have hif := Z1w h
  refine Z16 I (fun hc => ?_) (fun hc => ?_)
  ·have h := hif.1 hc
   refine Zj <| Zd <| Z1 I (Zm (v := (.int .i64 (Int.negSucc 0))) I I) I <| Zh <| Zi <| Z1c <| Z18 ?_
   have h := Option.some.inj h
   subst h
   refine (hret _ ?_).1
   exact ⟨[(.int .i64 (Int.negSucc 0))], ⟨rfl, trivial⟩, rfl, trivial⟩
  ·have h := hif.2 hc
   refine Z1a <| Zi <| Zj <| Zd <| Z1 I (Zm (v := (.int .i64 0)) I I) I <| Zh <| Zi <| Z1c ?_
   have h := Option.some.inj h
   subst h
   refine (hret _ ?_).1
   exact ⟨[(.int .i64 0)], ⟨rfl, trivial⟩, rfl, trivial⟩
 ·intro N k2 v h IH2 J2
  revert h
  revert v
  intro v1 h
  try dsimp only at h IH2 J2 ⊢
  cases k2 with
  | zero => cases h
  | succ k2 =>
   rw [Z6t] at h
   refine Zj <| Zd <| Z1 I (Z1x (k := .i64) (a := v1) (b := (a0.length : Int)) (c := (decide (v1 < (a0.length : Int)))) I I I I) I <| Zh <| Zi <| Zj ?_
   have hif := Z1w h
   refine Z16 I (fun hc => ?_) (fun hc => ?_)
   ·have h := hif.1 hc
    refine Z1a <| Zi <| Zj <| AWp.block <| Zj <| Zd <| Z1 I (Zl (v := (.int .i64 v1)) I I) I ?_
    have ⟨hg6, h⟩ := Z14 h
    refine Z1 I (Z1s (k := .i64) (l := a0) (enc := Zv) (z := Z25) (n := v1) (cs := (Zv (a0.getD v1.toNat Z25)).cells) (full := false) I s53 I I hg6 I) I <| Z1 I (Z2h (cs := (Zv (a0.getD v1.toNat Z25)).cells) (vs := (Zv (a0.getD v1.toNat Z25)).cells) I a174 I I I) I <| Z1 I (Z21 (cs := [(.str []), (.int .i64 0), (.str []), (.int .i64 0)]) I z174 I I I) I <| Z1 I (Zm (v := (.int .i64 v1)) I I) I <| Z1 I (Z1b (cs := [(.str []), (.int .i64 0), (.str []), (.int .i64 0)]) (vs := (Zv (a0.getD v1.toNat Z25)).cells) (ds := (Zv (a0.getD v1.toNat Z25)).cells) (v := (Zv (a0.getD v1.toNat Z25))) sz174 I I I I I I I I) I <| Zh <| Zi <| Zj ?_
    refine Zj <| Zd <| Z1 I (Zl (v := (.int .i64 v1)) I I) I <| Z1 I (Zl (v := (.sl 4 (a1.map Zv) false)) I I) I <| Z1 I (Z2d (l := a1) (enc := Zv) I s53 I) I <| Z1 I (Z1x (k := .i64) (a := v1) (b := (a1.length : Int)) (c := (decide (v1 ≥ (a1.length : Int)))) I I I I) I <| Zh <| Zi ?_
    have hif := Z1w h
    refine Z16 I (fun hc => ?_) (fun hc => ?_)
    ·have h := hif.1 hc
     refine Zj <| Zd <| Z1 I (Zm (v := (.int .i64 1)) I I) I <| Zh <| Zi <| Z1c <| Z18 <| Z1u ?_
     refine Z18 ?_
     refine Z18 (Z1u ?_)
     refine Z18 ?_
     have h := Option.some.inj h
     subst h
     refine (hret _ ?_).1
     exact ⟨[(.int .i64 1)], ⟨rfl, trivial⟩, rfl, trivial⟩
    ·have h := hif.2 hc
     refine Z1a <| Zi <| Zj <| Zd <| Z1 I (Zl (v := (.sl 4 (a1.map Zv) false)) I I) I <| Z1 I (Zl (v := (.int .i64 v1)) I I) I ?_
     have ⟨hg7, h⟩ := Z14 h
     refine Z1 I (Z1s (k := .i64) (l := a1) (enc := Zv) (z := Z25) (n := v1) (cs := (Zv (a1.getD v1.toNat Z25)).cells) (full := false) I s53 I I hg7 I) I <| Z1 I (Z2h (cs := (Zv (a1.getD v1.toNat Z25)).cells) (vs := (Zv (a1.getD v1.toNat Z25)).cells) I a174 I I I) I <| Z1 I (Z21 (cs := [(.str []), (.int .i64 0), (.str []), (.int .i64 0)]) I z174 I I I) I <| Z1 I (Z1b (cs := [(.str []), (.int .i64 0), (.str []), (.int .i64 0)]) (vs := (Zv (a1.getD v1.toNat Z25)).cells) (ds := (Zv (a1.getD v1.toNat Z25)).cells) (v := (Zv (a1.getD v1.toNat Z25))) sz174 I I I I I I I I) I <| Zh <| Zi <| Zj <| Zd ?_
     refine Z1 I (Zl (v := (.clo 226 [])) I I) I <| Z1 I (Z1n (cs := (Zv (a0.getD v1.toNat Z25)).cells) (vs := (Zv (a0.getD v1.toNat Z25)).cells) I a174 I I I I) I <| Z1 I (Z1n (cs := (Zv (a1.getD v1.toNat Z25)).cells) (vs := (Zv (a1.getD v1.toNat Z25)).cells) I a174 I I I I) I ?_
     have ⟨v9, hv9, h⟩ := Z1d h
     refine Z1 I (Z1e (ar := [(Zv (a0.getD v1.toNat Z25)), (Zv (a1.getD v1.toNat Z25))]) (caps := []) Tryz.call226 (F226_ok K (a0.getD v1.toNat Z25) (a1.getD v1.toNat Z25) v9 hv9) I I ⟨rfl, rfl, trivial⟩ I) I <| Z1 I (Zm (v := (.int .i64 v9)) I I) I <| Zh <| Zi <| Zj <| Zd <| Z1 I (Zl (v := (.int .i64 v9)) I I) I <| Z1 I (Z1x (k := .i64) (a := v9) (b := 0) (c := (v9 != 0)) I I I I) I ?_
     refine Zh <| Zi ?_
     have hif := Z1w h
     refine Z16 I (fun hc => ?_) (fun hc => ?_)
     ·have h := hif.1 hc
      refine Zj <| Zd <| Z1 I (Zl (v := (.int .i64 v9)) I I) I <| Z1 I (Zm (v := (.int .i64 v9)) I I) I <| Zh <| Zi <| Z1c <| Z1u ?_
      refine Z18 ?_
      refine Z18 (Z1u ?_)
      refine Z18 ?_
      have h := Option.some.inj h
      subst h
      refine (hret _ ?_).1
      exact ⟨[(.int .i64 v9)], ⟨rfl, trivial⟩, rfl, trivial⟩
     ·have h := hif.2 hc
      refine Z1a <| At.end <| Zi <| Zd <| Z1 I (Z1k (k := .i64) (a := v1) (b := 1) (c := (IntKind.i64.wrap (v1 + 1))) I I I I) I <| Z1 I (Zl (v := (.int .i64 (IntKind.i64.wrap (v1 + 1)))) I I) I <| Zh ?_
      exact Z13 (st' := ⟨[(0, (.sl 4 (a0.map Zv) false)), (1, (.sl 4 (a1.map Zv) false)), (2, (.clo 226 [])), (11, (.sl 4 (a0.map Zv) false)), (12, (.int .i64 (a0.length : Int))), (13, (.int .i64 (IntKind.i64.wrap (v1 + 1))))], []⟩) ⟨rfl, rfl, rfl, rfl, rfl, rfl, trivial⟩ trivial (IH2 _ (IntKind.i64.wrap (v1 + 1)) (Nat.lt_succ_self _) h)
   ·have h := hif.2 hc
    refine AWp.exit <| At.thru ?_
    exact Z13 (st' := ⟨[(0, (.sl 4 (a0.map Zv) false)), (1, (.sl 4 (a1.map Zv) false))], []⟩) ⟨rfl, rfl, trivial⟩ trivial (J2 () h)
def F171 (K : Nat) (a0 : (List Z1f)) (a1 : (List Z1f)) : Option (Int) :=
 (F225 K a0 a1).bind fun v2 =>
  some v2
theorem F171_ok (K : Nat) (a0 : (List Z1f)) (a1 : (List Z1f)) (r : Int) (h : F171 K a0 a1 = some r) : ACall P 171 ⟨[(.sl 4 (a0.map Zv) false), (.sl 4 (a1.map Zv) false)], [], (.int .i64 r), [], []⟩ := by
 refine Z1q Tryz.func171 Tryz.results171 rfl Tryz.ntmps171 rfl rfl rfl ?_
 intro E Q hP hN hro hret
 obtain ⟨P', nt', w0, F0, p0, S0, β0, ro0⟩ := E
 simp only at hP hN
 subst hP hN
 dsimp only [argT]
 unfold F171 at h
 refine Zj <| Zd <| Z1 I (Zm (v := (.int .i64 0)) I I) I <| Zh <| Zi <| Zj <| Zd <| Z1 I (Zl (v := (.sl 4 (a0.map Zv) false)) I I) I ?_
 refine Z1 I (Zl (v := (.sl 4 (a1.map Zv) false)) I I) I ?_
 have ⟨v2, hv2, h⟩ := Z1d h
 refine Z1 I (Z1e (ar := [(.sl 4 (a0.map Zv) false), (.sl 4 (a1.map Zv) false), (.clo 226 [])]) (caps := []) Tryz.call225 (F225_ok K a0 a1 v2 hv2) I I ⟨rfl, rfl, rfl, trivial⟩ I) I <| Z1 I (Zm (v := (.int .i64 v2)) I I) I <| Zh <| Zi <| Z1c ?_
 have h := Option.some.inj h
 subst h
 refine (hret _ ?_).1
 exact ⟨[(.int .i64 v2)], ⟨rfl, trivial⟩, rfl, trivial⟩
def F173 (K : Nat) (a0 : Z22) (a1 : Z22) : Option (Int) :=
 (F68 K a0.Trace a1.Trace).bind fun v2 =>
  (F68 K a0.Id a1.Id).bind fun v4 =>
   (F67 K [v2, v4]).bind fun v6 =>
    some v6
theorem F173_ok (K : Nat) (a0 : Z22) (a1 : Z22) (r : Int) (h : F173 K a0 a1 = some r) : ACall P 173 ⟨[(Z11 a0), (Z11 a1)], [], (.int .i64 r), [], []⟩ := by
 refine Z1q Tryz.func173 Tryz.results173 rfl Tryz.ntmps173 rfl rfl rfl ?_
 intro E Q hP hN hro hret
 obtain ⟨P', nt', w0, F0, p0, S0, β0, ro0⟩ := E
 simp only at hP hN
 subst hP hN
 dsimp only [argT]
 unfold F173 at h
 refine Zj <| Zd <| Z1 I (Z2o (v := (Z11 a0)) (cs := (Z11 a0).cells) I I I I I) I <| Z1 I (Z2o (v := (Z11 a1)) (cs := (Z11 a1).cells) I I I I I) I <| Z1 I (Zm (v := (.int .i64 0)) I I) I <| Zh <| Zi <| Zj ?_
 refine Z1r mixed <| Zb 0 I (Zr (m := 2) (o := 0) I f177_0 I I) <| Zb 1 I (Zy (cs := (Z11 a0).cells) (v := (.int .i64 a0.Trace)) I o3 I I I) <| Zb 2 I (Zr (m := 3) (o := 0) I f177_0 I I) <| Zb 3 I (Zy (cs := (Z11 a1).cells) (v := (.int .i64 a1.Trace)) I o3 I I I) ?_
 have ⟨v2, hv2, h⟩ := Z1d h
 refine Zb 4 I (Z1e (ar := [(.int .i64 a0.Trace), (.int .i64 a1.Trace)]) (caps := []) Tryz.call68 (Zc4 K a0.Trace a1.Trace v2 hv2) I I ⟨rfl, rfl, trivial⟩ I) <| Zb 5 I (Zr (m := 2) (o := 0) I f177_1 I I) <| Zb 6 I (Zy (cs := (Z11 a0).cells) (v := (.int .i64 a0.Id)) I o3 I I I) <| Zb 7 I (Zr (m := 3) (o := 0) I f177_1 I I) <| Zb 8 I (Zy (cs := (Z11 a1).cells) (v := (.int .i64 a1.Id)) I o3 I I I) ?_
 have ⟨v4, hv4, h⟩ := Z1d h
 refine Zb 9 I (Z1e (ar := [(.int .i64 a0.Id), (.int .i64 a1.Id)]) (caps := []) Tryz.call68 (Zc4 K a0.Id a1.Id v4 hv4) I I ⟨rfl, rfl, trivial⟩ I) <| Zb 10 I (Z1l (vs := [(.int .i64 v2), (.int .i64 v4)]) (enc := Z1i) (l := [v2, v4]) I el65 I I ⟨rfl, rfl, trivial⟩ I Z4f I I I I) ?_
 have ⟨v6, hv6, h⟩ := Z1d h
 refine Zb 11 I (Z8o (rd := [(15, (.vec 1 (List.map Z1i [v2, v4])))]) (ar := [(.vs 15)]) (caps := []) Tryz.call67 (F67_ok K [v2, v4] v6 hv6) I I ⟨rfl, trivial⟩ (Z7h ⟨rfl, trivial⟩) I I I) <| Zb 12 I (Zm (v := (.int .i64 v6)) I I) <| Z1t (by kernel_rfl) I <| Zi <| Z1c ?_
 have h := Option.some.inj h
 subst h
 refine (hret _ ?_).1
 exact ⟨[(.int .i64 v6)], ⟨rfl, trivial⟩, rfl, trivial⟩
def Z99 (K : Nat) (a0 : (List Z22)) (a1 : (List Z22)) : Option (Int) :=
 if (decide ((a0.length : Int) < (a1.length : Int))) = true then
  some (Int.negSucc 0)
 else
  some 0
def Z6u (K : Nat) (a0 : (List Z22)) (a1 : (List Z22)) (c4 : Option (Int)) : Nat → Int → Option (Int)
 | 0, _ => none
 | k2 + 1, v1 =>
  if (decide (v1 < (a0.length : Int))) = true then
   if (0 : Int) ≤ v1 ∧ v1 < a0.length then
    if (decide (v1 ≥ (a1.length : Int))) = true then
     some 1
    else
     if (0 : Int) ≤ v1 ∧ v1 < a1.length then
      (F173 K (a0.getD v1.toNat Z2a) (a1.getD v1.toNat Z2a)).bind fun v9 =>
       if (v9 != 0) = true then
        some v9
       else
        (Z6u K a0 a1 c4 k2) (IntKind.i64.wrap (v1 + 1))
     else none
   else none
  else
   c4
def F172 (K : Nat) (a0 : (List Z22)) (a1 : (List Z22)) : Option (Int) :=
 Z6u K a0 a1 (Z99 K a0 a1) K 0
theorem F172_ok (K : Nat) (a0 : (List Z22)) (a1 : (List Z22)) (r : Int) (h : F172 K a0 a1 = some r) : ACall P 172 ⟨[(.sl 2 (a0.map Z11) false), (.sl 2 (a1.map Z11) false), (.clo 173 [])], [], (.int .i64 r), [], []⟩ := by
 refine Z1q Tryz.func172 Tryz.results172 rfl Tryz.ntmps172 rfl rfl rfl ?_
 intro E Q hP hN hro hret
 obtain ⟨P', nt', w0, F0, p0, S0, β0, ro0⟩ := E
 simp only at hP hN
 subst hP hN
 dsimp only [argT]
 unfold F172 at h
 refine Zj <| Zd <| Z1 I (Zm (v := (.int .i64 0)) I I) I <| Zh <| Zi <| Zj <| Zj <| Zd ?_
 refine Z1 I (Zl (v := (.sl 2 (a0.map Z11) false)) I I) I <| Z1 I (Z2d (l := a0) (enc := Z11) I s54 I) I <| Z1 I (Zl (v := (.int .i64 0)) I I) I <| Zh <| Zi <| AWp.weaken (st' := ⟨[(0, (.sl 2 (a0.map Z11) false)), (1, (.sl 2 (a1.map Z11) false)), (2, (.clo 173 [])), (11, (.sl 2 (a0.map Z11) false)), (12, (.int .i64 (a0.length : Int))), (13, (.int .i64 0))], []⟩) ⟨rfl, rfl, rfl, rfl, rfl, rfl, trivial⟩ trivial ?_
 refine Z1o (V := Int) (X := Unit) (lp := fun k v => Z6u K a0 a1 (Z99 K a0 a1) k v = some r) (sh := fun v => ⟨[(0, (.sl 2 (a0.map Z11) false)), (1, (.sl 2 (a1.map Z11) false)), (2, (.clo 173 [])), (11, (.sl 2 (a0.map Z11) false)), (12, (.int .i64 (a0.length : Int))), (13, (.int .i64 v))], []⟩) (x := fun v => Z99 K a0 a1 = some r) (shx := fun v => ⟨[(0, (.sl 2 (a0.map Z11) false)), (1, (.sl 2 (a1.map Z11) false))], []⟩) (k := K) (v := 0) h ?_ ?_
 ·intro v h
  try dsimp only at h ⊢
  unfold Z99 at h
  refine Zi <| Zj <| Zj <| Zd <| Z1 I (Zl (v := (.sl 2 (a0.map Z11) false)) I I) I <| Z1 I (Z2d (l := a0) (enc := Z11) I s54 I) I <| Z1 I (Zl (v := (.sl 2 (a1.map Z11) false)) I I) I <| Z1 I (Z2d (l := a1) (enc := Z11) I s54 I) I ?_
  refine Z1 I (Z1x (k := .i64) (a := (a0.length : Int)) (b := (a1.length : Int)) (c := (decide ((a0.length : Int) < (a1.length : Int)))) I I I I) I <| Zh <| Zi ?_
  have hif := Z1w h
  refine Z16 I (fun hc => ?_) (fun hc => ?_)
  ·have h := hif.1 hc
   refine Zj <| Zd <| Z1 I (Zm (v := (.int .i64 (Int.negSucc 0))) I I) I <| Zh <| Zi <| Z1c <| Z18 ?_
   have h := Option.some.inj h
   subst h
   refine (hret _ ?_).1
   exact ⟨[(.int .i64 (Int.negSucc 0))], ⟨rfl, trivial⟩, rfl, trivial⟩
  ·have h := hif.2 hc
   refine Z1a <| Zi <| Zj <| Zd <| Z1 I (Zm (v := (.int .i64 0)) I I) I <| Zh <| Zi <| Z1c ?_
   have h := Option.some.inj h
   subst h
   refine (hret _ ?_).1
   exact ⟨[(.int .i64 0)], ⟨rfl, trivial⟩, rfl, trivial⟩
 ·intro N k2 v h IH2 J2
  revert h
  revert v
  intro v1 h
  try dsimp only at h IH2 J2 ⊢
  cases k2 with
  | zero => cases h
  | succ k2 =>
   rw [Z6u] at h
   refine Zj <| Zd <| Z1 I (Z1x (k := .i64) (a := v1) (b := (a0.length : Int)) (c := (decide (v1 < (a0.length : Int)))) I I I I) I <| Zh <| Zi <| Zj ?_
   have hif := Z1w h
   refine Z16 I (fun hc => ?_) (fun hc => ?_)
   ·have h := hif.1 hc
    refine Z1a <| Zi <| Zj <| AWp.block <| Zj <| Zd <| Z1 I (Zl (v := (.int .i64 v1)) I I) I ?_
    have ⟨hg6, h⟩ := Z14 h
    refine Z1 I (Z1s (k := .i64) (l := a0) (enc := Z11) (z := Z2a) (n := v1) (cs := (Z11 (a0.getD v1.toNat Z2a)).cells) (full := false) I s54 I I hg6 I) I <| Z1 I (Z2h (cs := (Z11 (a0.getD v1.toNat Z2a)).cells) (vs := (Z11 (a0.getD v1.toNat Z2a)).cells) I a177 I I I) I <| Z1 I (Z21 (cs := [(.int .i64 0), (.int .i64 0)]) I z177 I I I) I <| Z1 I (Zm (v := (.int .i64 v1)) I I) I <| Z1 I (Z1b (cs := [(.int .i64 0), (.int .i64 0)]) (vs := (Z11 (a0.getD v1.toNat Z2a)).cells) (ds := (Z11 (a0.getD v1.toNat Z2a)).cells) (v := (Z11 (a0.getD v1.toNat Z2a))) sz177 I I I I I I I I) I <| Zh <| Zi <| Zj ?_
    refine Zj <| Zd <| Z1 I (Zl (v := (.int .i64 v1)) I I) I <| Z1 I (Zl (v := (.sl 2 (a1.map Z11) false)) I I) I <| Z1 I (Z2d (l := a1) (enc := Z11) I s54 I) I <| Z1 I (Z1x (k := .i64) (a := v1) (b := (a1.length : Int)) (c := (decide (v1 ≥ (a1.length : Int)))) I I I I) I <| Zh <| Zi ?_
    have hif := Z1w h
    refine Z16 I (fun hc => ?_) (fun hc => ?_)
    ·have h := hif.1 hc
     refine Zj <| Zd <| Z1 I (Zm (v := (.int .i64 1)) I I) I <| Zh <| Zi <| Z1c <| Z18 <| Z1u ?_
     refine Z18 ?_
     refine Z18 (Z1u ?_)
     refine Z18 ?_
     have h := Option.some.inj h
     subst h
     refine (hret _ ?_).1
     exact ⟨[(.int .i64 1)], ⟨rfl, trivial⟩, rfl, trivial⟩
    ·have h := hif.2 hc
     refine Z1a <| Zi <| Zj <| Zd <| Z1 I (Zl (v := (.sl 2 (a1.map Z11) false)) I I) I <| Z1 I (Zl (v := (.int .i64 v1)) I I) I ?_
     have ⟨hg7, h⟩ := Z14 h
     refine Z1 I (Z1s (k := .i64) (l := a1) (enc := Z11) (z := Z2a) (n := v1) (cs := (Z11 (a1.getD v1.toNat Z2a)).cells) (full := false) I s54 I I hg7 I) I <| Z1 I (Z2h (cs := (Z11 (a1.getD v1.toNat Z2a)).cells) (vs := (Z11 (a1.getD v1.toNat Z2a)).cells) I a177 I I I) I <| Z1 I (Z21 (cs := [(.int .i64 0), (.int .i64 0)]) I z177 I I I) I <| Z1 I (Z1b (cs := [(.int .i64 0), (.int .i64 0)]) (vs := (Z11 (a1.getD v1.toNat Z2a)).cells) (ds := (Z11 (a1.getD v1.toNat Z2a)).cells) (v := (Z11 (a1.getD v1.toNat Z2a))) sz177 I I I I I I I I) I <| Zh <| Zi <| Zj <| Zd ?_
     refine Z1 I (Zl (v := (.clo 173 [])) I I) I <| Z1 I (Z1n (cs := (Z11 (a0.getD v1.toNat Z2a)).cells) (vs := (Z11 (a0.getD v1.toNat Z2a)).cells) I a177 I I I I) I <| Z1 I (Z1n (cs := (Z11 (a1.getD v1.toNat Z2a)).cells) (vs := (Z11 (a1.getD v1.toNat Z2a)).cells) I a177 I I I I) I ?_
     have ⟨v9, hv9, h⟩ := Z1d h
     refine Z1 I (Z1e (ar := [(Z11 (a0.getD v1.toNat Z2a)), (Z11 (a1.getD v1.toNat Z2a))]) (caps := []) Tryz.call173 (F173_ok K (a0.getD v1.toNat Z2a) (a1.getD v1.toNat Z2a) v9 hv9) I I ⟨rfl, rfl, trivial⟩ I) I <| Z1 I (Zm (v := (.int .i64 v9)) I I) I <| Zh <| Zi <| Zj <| Zd <| Z1 I (Zl (v := (.int .i64 v9)) I I) I <| Z1 I (Z1x (k := .i64) (a := v9) (b := 0) (c := (v9 != 0)) I I I I) I ?_
     refine Zh <| Zi ?_
     have hif := Z1w h
     refine Z16 I (fun hc => ?_) (fun hc => ?_)
     ·have h := hif.1 hc
      refine Zj <| Zd <| Z1 I (Zl (v := (.int .i64 v9)) I I) I <| Z1 I (Zm (v := (.int .i64 v9)) I I) I <| Zh <| Zi <| Z1c <| Z1u ?_
      refine Z18 ?_
      refine Z18 (Z1u ?_)
      refine Z18 ?_
      have h := Option.some.inj h
      subst h
      refine (hret _ ?_).1
      exact ⟨[(.int .i64 v9)], ⟨rfl, trivial⟩, rfl, trivial⟩
     ·have h := hif.2 hc
      refine Z1a <| At.end <| Zi <| Zd <| Z1 I (Z1k (k := .i64) (a := v1) (b := 1) (c := (IntKind.i64.wrap (v1 + 1))) I I I I) I <| Z1 I (Zl (v := (.int .i64 (IntKind.i64.wrap (v1 + 1)))) I I) I <| Zh ?_
      exact Z13 (st' := ⟨[(0, (.sl 2 (a0.map Z11) false)), (1, (.sl 2 (a1.map Z11) false)), (2, (.clo 173 [])), (11, (.sl 2 (a0.map Z11) false)), (12, (.int .i64 (a0.length : Int))), (13, (.int .i64 (IntKind.i64.wrap (v1 + 1))))], []⟩) ⟨rfl, rfl, rfl, rfl, rfl, rfl, trivial⟩ trivial (IH2 _ (IntKind.i64.wrap (v1 + 1)) (Nat.lt_succ_self _) h)
   ·have h := hif.2 hc
    refine AWp.exit <| At.thru ?_
    exact Z13 (st' := ⟨[(0, (.sl 2 (a0.map Z11) false)), (1, (.sl 2 (a1.map Z11) false))], []⟩) ⟨rfl, rfl, trivial⟩ trivial (J2 () h)
def F137 (K : Nat) (a0 : Zg) (a1 : Zg) : Option (Int) :=
 (F169 K [a0.Trace, a0.Id, a0.Revision, a0.Parent, a0.Clock, a0.Kind] [a1.Trace, a1.Id, a1.Revision, a1.Parent, a1.Clock, a1.Kind]).bind fun v2 =>
  (F69 K a0.Service a1.Service).bind fun v4 =>
   (F69 K a0.Version a1.Version).bind fun v6 =>
    (F69 K a0.Operation a1.Operation).bind fun v8 =>
     (F68 K a0.Start a1.Start).bind fun v10 =>
      (F68 K a0.End a1.End).bind fun v12 =>
       (F170 K a0.Error).bind fun v14 =>
        (F170 K a1.Error).bind fun v16 =>
         (F171 K a0.Attrs a1.Attrs).bind fun v18 =>
          (F172 K a0.Links a1.Links).bind fun v20 =>
           (F67 K [v2, v4, v6, v8, v10, v12, (IntKind.i64.wrap (v14 - v16)), v18, v20]).bind fun v22 =>
            some v22
theorem F137_ok (K : Nat) (a0 : Zg) (a1 : Zg) (r : Int) (h : F137 K a0 a1 = some r) : ACall P 137 ⟨[(Z8 a0), (Z8 a1)], [], (.int .i64 r), [], []⟩ := by
 refine Z1q Tryz.func137 Tryz.results137 rfl Tryz.ntmps137 rfl rfl rfl ?_
 intro E Q hP hN hro hret
 obtain ⟨P', nt', w0, F0, p0, S0, β0, ro0⟩ := E
 simp only at hP hN
 subst hP hN
 dsimp only [argT]
 unfold F137 at h
 refine Zj <| Zd <| Z1 I (Z2o (v := (Z8 a0)) (cs := (Z8 a0).cells) I I I I I) I <| Z1 I (Z2o (v := (Z8 a1)) (cs := (Z8 a1).cells) I I I I I) I <| Z1 I (Zm (v := (.int .i64 0)) I I) I <| Zh <| Zi <| Zj ?_
 refine Zd <| Z1 I (Zr (m := 2) (o := 0) I f56_0 I I) I <| Z1 I (Zy (cs := (Z8 a0).cells) (v := (.int .i64 a0.Trace)) I o3 I I I) I <| Z1 I (Zr (m := 2) (o := 0) I f56_1 I I) I <| Z1 I (Zy (cs := (Z8 a0).cells) (v := (.int .i64 a0.Id)) I o3 I I I) I <| Z1 I (Zr (m := 2) (o := 0) I f56_3 I I) I <| Z1 I (Zy (cs := (Z8 a0).cells) (v := (.int .i64 a0.Revision)) I o3 I I I) I <| Z1 I (Zr (m := 2) (o := 0) I f56_2 I I) I ?_
 refine Z1 I (Zy (cs := (Z8 a0).cells) (v := (.int .i64 a0.Parent)) I o3 I I I) I <| Z1 I (Zr (m := 2) (o := 0) I f56_4 I I) I <| Z1 I (Zy (cs := (Z8 a0).cells) (v := (.int .i64 a0.Clock)) I o3 I I I) I <| Z1 I (Zr (m := 2) (o := 0) I f56_5 I I) I <| Z1 I (Zy (cs := (Z8 a0).cells) (v := (.int .i64 a0.Kind)) I o3 I I I) I <| Z1 I (Zd7 (vs := [(0, (.int .i64 a0.Trace)), (1, (.int .i64 a0.Id)), (2, (.int .i64 a0.Revision)), (3, (.int .i64 a0.Parent)), (4, (.int .i64 a0.Clock)), (5, (.int .i64 a0.Kind))]) (cs := [(.int .i64 a0.Trace), (.int .i64 a0.Id), (.int .i64 a0.Revision), (.int .i64 a0.Parent), (.int .i64 a0.Clock), (.int .i64 a0.Kind)]) I ar255 ⟨rfl, rfl, rfl, rfl, rfl, rfl, rfl, rfl, rfl, rfl, rfl, rfl, trivial⟩ I) I <| Z1 I (Z21 (cs := [(.int .i64 0), (.int .i64 0), (.int .i64 0), (.int .i64 0), (.int .i64 0), (.int .i64 0)]) I z255 I I I) I <| Z1 I (Z1b (cs := [(.int .i64 0), (.int .i64 0), (.int .i64 0), (.int .i64 0), (.int .i64 0), (.int .i64 0)]) (vs := [(.int .i64 a0.Trace), (.int .i64 a0.Id), (.int .i64 a0.Revision), (.int .i64 a0.Parent), (.int .i64 a0.Clock), (.int .i64 a0.Kind)]) (ds := [(.int .i64 a0.Trace), (.int .i64 a0.Id), (.int .i64 a0.Revision), (.int .i64 a0.Parent), (.int .i64 a0.Clock), (.int .i64 a0.Kind)]) (v := (.ag [(.int .i64 a0.Trace), (.int .i64 a0.Id), (.int .i64 a0.Revision), (.int .i64 a0.Parent), (.int .i64 a0.Clock), (.int .i64 a0.Kind)])) sz255 I I I I I I I I) I ?_
 refine Zh <| Zi <| Zj <| Zd <| Z1 I (Zr (m := 3) (o := 0) I f56_0 I I) I <| Z1 I (Zy (cs := (Z8 a1).cells) (v := (.int .i64 a1.Trace)) I o3 I I I) I <| Z1 I (Zr (m := 3) (o := 0) I f56_1 I I) I <| Z1 I (Zy (cs := (Z8 a1).cells) (v := (.int .i64 a1.Id)) I o3 I I I) I ?_
 refine Z1 I (Zr (m := 3) (o := 0) I f56_3 I I) I <| Z1 I (Zy (cs := (Z8 a1).cells) (v := (.int .i64 a1.Revision)) I o3 I I I) I <| Z1 I (Zr (m := 3) (o := 0) I f56_2 I I) I <| Z1 I (Zy (cs := (Z8 a1).cells) (v := (.int .i64 a1.Parent)) I o3 I I I) I <| Z1 I (Zr (m := 3) (o := 0) I f56_4 I I) I <| Z1 I (Zy (cs := (Z8 a1).cells) (v := (.int .i64 a1.Clock)) I o3 I I I) I <| Z1 I (Zr (m := 3) (o := 0) I f56_5 I I) I <| Z1 I (Zy (cs := (Z8 a1).cells) (v := (.int .i64 a1.Kind)) I o3 I I I) I ?_
 refine Z1 I (Zd7 (vs := [(0, (.int .i64 a1.Trace)), (1, (.int .i64 a1.Id)), (2, (.int .i64 a1.Revision)), (3, (.int .i64 a1.Parent)), (4, (.int .i64 a1.Clock)), (5, (.int .i64 a1.Kind))]) (cs := [(.int .i64 a1.Trace), (.int .i64 a1.Id), (.int .i64 a1.Revision), (.int .i64 a1.Parent), (.int .i64 a1.Clock), (.int .i64 a1.Kind)]) I ar255 ⟨rfl, rfl, rfl, rfl, rfl, rfl, rfl, rfl, rfl, rfl, rfl, rfl, trivial⟩ I) I <| Z1 I (Z21 (cs := [(.int .i64 0), (.int .i64 0), (.int .i64 0), (.int .i64 0), (.int .i64 0), (.int .i64 0)]) I z255 I I I) I <| Z1 I (Z1b (cs := [(.int .i64 0), (.int .i64 0), (.int .i64 0), (.int .i64 0), (.int .i64 0), (.int .i64 0)]) (vs := [(.int .i64 a1.Trace), (.int .i64 a1.Id), (.int .i64 a1.Revision), (.int .i64 a1.Parent), (.int .i64 a1.Clock), (.int .i64 a1.Kind)]) (ds := [(.int .i64 a1.Trace), (.int .i64 a1.Id), (.int .i64 a1.Revision), (.int .i64 a1.Parent), (.int .i64 a1.Clock), (.int .i64 a1.Kind)]) (v := (.ag [(.int .i64 a1.Trace), (.int .i64 a1.Id), (.int .i64 a1.Revision), (.int .i64 a1.Parent), (.int .i64 a1.Clock), (.int .i64 a1.Kind)])) sz255 I I I I I I I I) I <| Zh <| Zi <| Zj <| AWp.ghost (st' := ⟨[(2, (.ptr 2 0)), (3, (.ptr 3 0)), (4, (.int .i64 0)), (5, (.ip [(.int .i64 a0.Trace), (.int .i64 a0.Id), (.int .i64 a0.Revision), (.int .i64 a0.Parent), (.int .i64 a0.Clock), (.int .i64 a0.Kind)])), (6, (.ptr 6 0))], [(2, (.box (Z8 a0).cells)), (3, (.box (Z8 a1).cells)), (6, (.box [(.int .i64 a1.Trace), (.int .i64 a1.Id), (.int .i64 a1.Revision), (.int .i64 a1.Parent), (.int .i64 a1.Clock), (.int .i64 a1.Kind)]))]⟩) (fun a w h => (Z1g ⟨[(2, (.ptr 2 0)), (3, (.ptr 3 0)), (4, (.int .i64 0)), (5, (.ip [(.int .i64 a0.Trace), (.int .i64 a0.Id), (.int .i64 a0.Revision), (.int .i64 a0.Parent), (.int .i64 a0.Clock), (.int .i64 a0.Kind)])), (6, (.ptr 6 0))], [(2, (.box (Z8 a0).cells)), (3, (.box (Z8 a1).cells)), (6, (.box [(.int .i64 a1.Trace), (.int .i64 a1.Id), (.int .i64 a1.Revision), (.int .i64 a1.Parent), (.int .i64 a1.Clock), (.int .i64 a1.Kind)]))]⟩ (Z3o (m := 5) (cs := [(.int .i64 a0.Trace), (.int .i64 a0.Id), (.int .i64 a0.Revision), (.int .i64 a0.Parent), (.int .i64 a0.Clock), (.int .i64 a0.Kind)]) I a w (Z1g ⟨[(2, (.ptr 2 0)), (3, (.ptr 3 0)), (4, (.int .i64 0)), (5, (.ptr 5 0)), (6, (.ptr 6 0))], [(5, (.box [(.int .i64 a0.Trace), (.int .i64 a0.Id), (.int .i64 a0.Revision), (.int .i64 a0.Parent), (.int .i64 a0.Clock), (.int .i64 a0.Kind)])), (2, (.box (Z8 a0).cells)), (3, (.box (Z8 a1).cells)), (6, (.box [(.int .i64 a1.Trace), (.int .i64 a1.Id), (.int .i64 a1.Revision), (.int .i64 a1.Parent), (.int .i64 a1.Clock), (.int .i64 a1.Kind)]))]⟩ h ⟨rfl, rfl, rfl, rfl, rfl, trivial⟩ ⟨rfl, rfl, rfl, rfl, trivial⟩)) ⟨rfl, rfl, rfl, rfl, rfl, trivial⟩ ⟨rfl, rfl, rfl, trivial⟩)) <| AWp.ghost (st' := ⟨[(2, (.ptr 2 0)), (3, (.ptr 3 0)), (4, (.int .i64 0)), (5, (.ip [(.int .i64 a0.Trace), (.int .i64 a0.Id), (.int .i64 a0.Revision), (.int .i64 a0.Parent), (.int .i64 a0.Clock), (.int .i64 a0.Kind)])), (6, (.ip [(.int .i64 a1.Trace), (.int .i64 a1.Id), (.int .i64 a1.Revision), (.int .i64 a1.Parent), (.int .i64 a1.Clock), (.int .i64 a1.Kind)]))], [(2, (.box (Z8 a0).cells)), (3, (.box (Z8 a1).cells))]⟩) (fun a w h => (Z1g ⟨[(2, (.ptr 2 0)), (3, (.ptr 3 0)), (4, (.int .i64 0)), (5, (.ip [(.int .i64 a0.Trace), (.int .i64 a0.Id), (.int .i64 a0.Revision), (.int .i64 a0.Parent), (.int .i64 a0.Clock), (.int .i64 a0.Kind)])), (6, (.ip [(.int .i64 a1.Trace), (.int .i64 a1.Id), (.int .i64 a1.Revision), (.int .i64 a1.Parent), (.int .i64 a1.Clock), (.int .i64 a1.Kind)]))], [(2, (.box (Z8 a0).cells)), (3, (.box (Z8 a1).cells))]⟩ (Z3o (m := 6) (cs := [(.int .i64 a1.Trace), (.int .i64 a1.Id), (.int .i64 a1.Revision), (.int .i64 a1.Parent), (.int .i64 a1.Clock), (.int .i64 a1.Kind)]) I a w (Z1g ⟨[(2, (.ptr 2 0)), (3, (.ptr 3 0)), (4, (.int .i64 0)), (5, (.ip [(.int .i64 a0.Trace), (.int .i64 a0.Id), (.int .i64 a0.Revision), (.int .i64 a0.Parent), (.int .i64 a0.Clock), (.int .i64 a0.Kind)])), (6, (.ptr 6 0))], [(6, (.box [(.int .i64 a1.Trace), (.int .i64 a1.Id), (.int .i64 a1.Revision), (.int .i64 a1.Parent), (.int .i64 a1.Clock), (.int .i64 a1.Kind)])), (2, (.box (Z8 a0).cells)), (3, (.box (Z8 a1).cells))]⟩ h ⟨rfl, rfl, rfl, rfl, rfl, trivial⟩ ⟨rfl, rfl, rfl, trivial⟩)) ⟨rfl, rfl, rfl, rfl, rfl, trivial⟩ ⟨rfl, rfl, trivial⟩)) ?_
 refine Z1r mixed <| Zb 0 I (st_sliceI (l := [a0.Trace, a0.Id, a0.Revision, a0.Parent, a0.Clock, a0.Kind]) (enc := Z1i) (cs := [(.int .i64 a0.Trace), (.int .i64 a0.Id), (.int .i64 a0.Revision), (.int .i64 a0.Parent), (.int .i64 a0.Clock), (.int .i64 a0.Kind)]) I u255 sz3 I I I I Z4f) <| Zb 1 I (st_sliceI (l := [a1.Trace, a1.Id, a1.Revision, a1.Parent, a1.Clock, a1.Kind]) (enc := Z1i) (cs := [(.int .i64 a1.Trace), (.int .i64 a1.Id), (.int .i64 a1.Revision), (.int .i64 a1.Parent), (.int .i64 a1.Clock), (.int .i64 a1.Kind)]) I u255 sz3 I I I I Z4f) ?_
 have ⟨v2, hv2, h⟩ := Z1d h
 refine Zb 2 I (Z1e (ar := [(.sl 1 ([a0.Trace, a0.Id, a0.Revision, a0.Parent, a0.Clock, a0.Kind].map Z1i) false), (.sl 1 ([a1.Trace, a1.Id, a1.Revision, a1.Parent, a1.Clock, a1.Kind].map Z1i) false)]) (caps := []) Tryz.call169 (F169_ok K [a0.Trace, a0.Id, a0.Revision, a0.Parent, a0.Clock, a0.Kind] [a1.Trace, a1.Id, a1.Revision, a1.Parent, a1.Clock, a1.Kind] v2 hv2) I I ⟨rfl, rfl, trivial⟩ I) <| Zb 3 I (Zr (m := 2) (o := 0) I Z87 I I) <| Zb 4 I (Zy (cs := (Z8 a0).cells) (v := (.str a0.Service)) I o9 I I I) <| Zb 5 I (Zr (m := 3) (o := 0) I Z87 I I) <| Zb 6 I (Zy (cs := (Z8 a1).cells) (v := (.str a1.Service)) I o9 I I I) ?_
 have ⟨v4, hv4, h⟩ := Z1d h
 refine Zb 7 I (Z1e (ar := [(.str a0.Service), (.str a1.Service)]) (caps := []) Tryz.call69 (Z8i K a0.Service a1.Service v4 hv4) I I ⟨rfl, rfl, trivial⟩ I) <| Zb 8 I (Zr (m := 2) (o := 0) I f56_7 I I) <| Zb 9 I (Zy (cs := (Z8 a0).cells) (v := (.str a0.Version)) I o9 I I I) <| Zb 10 I (Zr (m := 3) (o := 0) I f56_7 I I) <| Zb 11 I (Zy (cs := (Z8 a1).cells) (v := (.str a1.Version)) I o9 I I I) ?_
 have ⟨v6, hv6, h⟩ := Z1d h
 refine Zb 12 I (Z1e (ar := [(.str a0.Version), (.str a1.Version)]) (caps := []) Tryz.call69 (Z8i K a0.Version a1.Version v6 hv6) I I ⟨rfl, rfl, trivial⟩ I) <| Zb 13 I (Zr (m := 2) (o := 0) I f56_8 I I) <| Zb 14 I (Zy (cs := (Z8 a0).cells) (v := (.str a0.Operation)) I o9 I I I) <| Zb 15 I (Zr (m := 3) (o := 0) I f56_8 I I) <| Zb 16 I (Zy (cs := (Z8 a1).cells) (v := (.str a1.Operation)) I o9 I I I) ?_
 have ⟨v8, hv8, h⟩ := Z1d h
 refine Zb 17 I (Z1e (ar := [(.str a0.Operation), (.str a1.Operation)]) (caps := []) Tryz.call69 (Z8i K a0.Operation a1.Operation v8 hv8) I I ⟨rfl, rfl, trivial⟩ I) <| Zb 18 I (Zr (m := 2) (o := 0) I f56_9 I I) <| Zb 19 I (Zy (cs := (Z8 a0).cells) (v := (.int .i64 a0.Start)) I o3 I I I) <| Zb 20 I (Zr (m := 3) (o := 0) I f56_9 I I) <| Zb 21 I (Zy (cs := (Z8 a1).cells) (v := (.int .i64 a1.Start)) I o3 I I I) ?_
 have ⟨v10, hv10, h⟩ := Z1d h
 refine Zb 22 I (Z1e (ar := [(.int .i64 a0.Start), (.int .i64 a1.Start)]) (caps := []) Tryz.call68 (Zc4 K a0.Start a1.Start v10 hv10) I I ⟨rfl, rfl, trivial⟩ I) <| Zb 23 I (Zr (m := 2) (o := 0) I f56_10 I I) <| Zb 24 I (Zy (cs := (Z8 a0).cells) (v := (.int .i64 a0.End)) I o3 I I I) <| Zb 25 I (Zr (m := 3) (o := 0) I f56_10 I I) <| Zb 26 I (Zy (cs := (Z8 a1).cells) (v := (.int .i64 a1.End)) I o3 I I I) ?_
 have ⟨v12, hv12, h⟩ := Z1d h
 refine Zb 27 I (Z1e (ar := [(.int .i64 a0.End), (.int .i64 a1.End)]) (caps := []) Tryz.call68 (Zc4 K a0.End a1.End v12 hv12) I I ⟨rfl, rfl, trivial⟩ I) <| Zb 28 I (Zr (m := 2) (o := 0) I Zao I I) <| Zb 29 I (Zy (cs := (Z8 a0).cells) (v := (.bool a0.Error)) I o4 I I I) ?_
 have ⟨v14, hv14, h⟩ := Z1d h
 refine Zb 30 I (Z1e (ar := [(.bool a0.Error)]) (caps := []) Tryz.call170 (F170_ok K a0.Error v14 hv14) I I ⟨rfl, trivial⟩ I) <| Zb 31 I (Zr (m := 3) (o := 0) I Zao I I) <| Zb 32 I (Zy (cs := (Z8 a1).cells) (v := (.bool a1.Error)) I o4 I I I) ?_
 have ⟨v16, hv16, h⟩ := Z1d h
 refine Zb 33 I (Z1e (ar := [(.bool a1.Error)]) (caps := []) Tryz.call170 (F170_ok K a1.Error v16 hv16) I I ⟨rfl, trivial⟩ I) <| Zb 34 I (Z1k (k := .i64) (a := v14) (b := v16) (c := (IntKind.i64.wrap (v14 - v16))) I I I I) <| Zb 35 I (Zr (m := 2) (o := 0) I Zds I I) <| Zb 36 I (Zy (cs := (Z8 a0).cells) (v := (.sl 4 (a0.Attrs.map Zv) false)) I o53 I I I) <| Zb 37 I (Zr (m := 3) (o := 0) I Zds I I) <| Zb 38 I (Zy (cs := (Z8 a1).cells) (v := (.sl 4 (a1.Attrs.map Zv) false)) I o53 I I I) ?_
 have ⟨v18, hv18, h⟩ := Z1d h
 refine Zb 39 I (Z1e (ar := [(.sl 4 (a0.Attrs.map Zv) false), (.sl 4 (a1.Attrs.map Zv) false)]) (caps := []) Tryz.call171 (F171_ok K a0.Attrs a1.Attrs v18 hv18) I I ⟨rfl, rfl, trivial⟩ I) <| Zb 40 I (Zr (m := 2) (o := 0) I f56_13 I I) <| Zb 41 I (Zy (cs := (Z8 a0).cells) (v := (.sl 2 (a0.Links.map Z11) false)) I o54 I I I) <| Zb 42 I (Zr (m := 3) (o := 0) I f56_13 I I) <| Zb 43 I (Zy (cs := (Z8 a1).cells) (v := (.sl 2 (a1.Links.map Z11) false)) I o54 I I I) ?_
 have ⟨v20, hv20, h⟩ := Z1d h
 refine Zb 44 I (Z1e (ar := [(.sl 2 (a0.Links.map Z11) false), (.sl 2 (a1.Links.map Z11) false), (.clo 173 [])]) (caps := []) Tryz.call172 (F172_ok K a0.Links a1.Links v20 hv20) I I ⟨rfl, rfl, rfl, trivial⟩ I) <| Zb 45 I (Z1l (vs := [(.int .i64 v2), (.int .i64 v4), (.int .i64 v6), (.int .i64 v8), (.int .i64 v10), (.int .i64 v12), (.int .i64 (IntKind.i64.wrap (v14 - v16))), (.int .i64 v18), (.int .i64 v20)]) (enc := Z1i) (l := [v2, v4, v6, v8, v10, v12, (IntKind.i64.wrap (v14 - v16)), v18, v20]) I el65 I I ⟨rfl, rfl, rfl, rfl, rfl, rfl, rfl, rfl, rfl, trivial⟩ I Z4f I I I I) ?_
 have ⟨v22, hv22, h⟩ := Z1d h
 refine Zb 46 I (Z8o (rd := [(78, (.vec 1 (List.map Z1i [v2, v4, v6, v8, v10, v12, (IntKind.i64.wrap (v14 - v16)), v18, v20])))]) (ar := [(.vs 78)]) (caps := []) Tryz.call67 (F67_ok K [v2, v4, v6, v8, v10, v12, (IntKind.i64.wrap (v14 - v16)), v18, v20] v22 hv22) I I ⟨rfl, trivial⟩ (Z7h ⟨rfl, trivial⟩) I I I) <| Zb 47 I (Zm (v := (.int .i64 v22)) I I) <| Z1t (by kernel_rfl) I <| Zi <| Z1c ?_
 have h := Option.some.inj h
 subst h
 refine (hret _ ?_).1
 exact ⟨[(.int .i64 v22)], ⟨rfl, trivial⟩, rfl, trivial⟩
def F135 (K : Nat) (a000 : (List Zg)) : Option ((List Zg)) :=
 (F166 K a000).bind fun v2 =>
  (sortF (fun a b => F137 K a b) v2).bind fun v4 =>
   some v4
theorem F135_ok (K : Nat) (a000 : (List Zg)) (r : (List Zg)) (h : F135 K a000 = some r) : ACall P 135 ⟨[(.clo 168 [(.ip [(.sl 14 (a000.map Z8) false)])]), (.clo 137 [])], [], .vs 4, [(4, .vec 14 (List.map Z8 r))], [4]⟩ := by
 refine Z1q Tryz.func135 Tryz.results135 rfl Tryz.ntmps135 rfl rfl rfl ?_
 intro E Q hP hN hro hret
 obtain ⟨P', nt', w0, F0, p0, S0, β0, ro0⟩ := E
 simp only at hP hN
 subst hP hN
 dsimp only [argT]
 unfold F135 at h
 refine Zj <| Zd <| Z1 I (Zm (v := (.sl 14 [] false)) I I) I <| Zh <| Zi <| Zj <| Zd <| Z1 I (Zl (v := (.clo 168 [(.ip [(.sl 14 (a000.map Z8) false)])])) I I) I ?_
 have ⟨v2, hv2, h⟩ := Z1d h
 refine Z1 I (Z8s (sz := 14) (es := (List.map Z8 v2)) (ar := [(.clo 168 [(.ip [(.sl 14 (a000.map Z8) false)])])]) (caps := []) Tryz.call166 ((F166_ok K a000 v2 hv2).sw 2 7) I I ⟨rfl, trivial⟩ I) I <| Z1 I (Zm (v := (.vs 7)) I I) I <| Zh <| Zi <| Zj <| Zd <| Z1 I (Zl (v := (.vs 7)) I I) I <| Z1 I (Zl (v := (.clo 137 [])) I I) I ?_
 have ⟨v4, hv4, h⟩ := Z1d h
 refine Z1 I (Z37 (d := some 10) (c := ⟨[(.vs 7), (.clo 137 [])], [(7, (.vec 14 (List.map Z8 v2)))], .tup [], [(7, .vec 14 (List.map Z8 v4))], []⟩) (ar := [(.vs 7), (.clo 137 [])]) (caps := []) (news := []) (forg := []) Tryz.call167 (sort_ok (n := 7) (enc := Z8) (l := v2) (caps := []) (c := (fun a b => F137 K a b)) sortC167 Tryz.call137 Z2v (fun _ => I) (fun a b m hm => F137_ok K a b m hm) hv4) I I ⟨rfl, rfl, trivial⟩ I ⟨rfl, trivial⟩ I) I <| Zh <| Zi <| Zj <| Zd <| Z1 I (Zl (v := (.vs 7)) I I) I <| Z1 I (Zm (v := (.vs 7)) I I) I <| Zh ?_
 refine Zi <| Z1c <| At.ghost (st' := ⟨[(4, (.vs 4))], [(4, (.vec 14 (List.map Z8 v4)))]⟩) (fun a w h => (Z1g ⟨[(4, (.vs 4))], [(4, (.vec 14 (List.map Z8 v4)))]⟩ (Z51 (a := 7) (b := 4) I I a w (Z1g ⟨[(4, (.vs 7))], [(7, (.vec 14 (List.map Z8 v4)))]⟩ h ⟨rfl, trivial⟩ ⟨rfl, trivial⟩)) ⟨rfl, trivial⟩ ⟨rfl, trivial⟩)) ?_
 have h := Option.some.inj h
 subst h
 refine (hret _ ?_).1
 exact ⟨[(.vs 4)], ⟨rfl, trivial⟩, rfl, ⟨rfl, trivial⟩⟩
def F138 (K : Nat) (a0 : Zg) (a1 : Zg) : Option (Bool) :=
 (F137 K a0 a1).bind fun v2 =>
  some (v2 == 0)
theorem F138_ok (K : Nat) (a0 : Zg) (a1 : Zg) (r : Bool) (h : F138 K a0 a1 = some r) : ACall P 138 ⟨[(Z8 a0), (Z8 a1)], [], (.bool r), [], []⟩ := by
 refine Z1q Tryz.func138 Tryz.results138 rfl Tryz.ntmps138 rfl rfl rfl ?_
 intro E Q hP hN hro hret
 obtain ⟨P', nt', w0, F0, p0, S0, β0, ro0⟩ := E
 simp only at hP hN
 subst hP hN
 dsimp only [argT]
 unfold F138 at h
 refine Zj <| Zd <| Z1 I (Z2o (v := (Z8 a0)) (cs := (Z8 a0).cells) I I I I I) I <| Z1 I (Z2o (v := (Z8 a1)) (cs := (Z8 a1).cells) I I I I I) I <| Z1 I (Zm (v := (.bool false)) I I) I <| Zh <| Zi <| Zj ?_
 refine Zd <| Z1 I (Z1n (cs := (Z8 a0).cells) (vs := (Z8 a0).cells) I a56 I I I I) I <| Z1 I (Z1n (cs := (Z8 a1).cells) (vs := (Z8 a1).cells) I a56 I I I I) I ?_
 have ⟨v2, hv2, h⟩ := Z1d h
 refine Z1 I (Z1e (ar := [(Z8 a0), (Z8 a1)]) (caps := []) Tryz.call137 (F137_ok K a0 a1 v2 hv2) I I ⟨rfl, rfl, trivial⟩ I) I <| Z1 I (Z1x (k := .i64) (a := v2) (b := 0) (c := (v2 == 0)) I I I I) I <| Z1 I (Zm (v := (.bool (v2 == 0))) I I) I <| Zh <| Zi <| Z1c ?_
 have h := Option.some.inj h
 subst h
 refine (hret _ ?_).1
 exact ⟨[(.bool (v2 == 0))], ⟨rfl, trivial⟩, rfl, trivial⟩
def Zb6 (K : Nat) (a0 : (List Zg)) : Option ((List Zg)) :=
 some a0
def Z53 (K : Nat) (v18 : Int) (v19 : (List Zg)) : Option ((List Zg)) :=
 if (0 : Int) ≤ v18 ∧ v18 ≤ (v19.length : Int) ∧ (v19.length : Int) ≤ (v19.length : Nat) then
  if (0 + v18.toNat) + ((v19.length : Int).toNat - v18.toNat) ≤ v19.length then
   if (0 + v18.toNat) + ((v19.length : Int).toNat - v18.toNat) ≤ v19.length then
    if (0 : Int) ≤ 0 ∧ 0 ≤ v18 ∧ v18 ≤ ((v19.take (0 + v18.toNat) ++ List.replicate ((v19.length : Int).toNat - v18.toNat) Z2 ++ v19.drop ((0 + v18.toNat) + ((v19.length : Int).toNat - v18.toNat))).length : Nat) then
     if (0 + (0 : Int).toNat) + (v18.toNat - (0 : Int).toNat) ≤ (v19.take (0 + v18.toNat) ++ List.replicate ((v19.length : Int).toNat - v18.toNat) Z2 ++ v19.drop ((0 + v18.toNat) + ((v19.length : Int).toNat - v18.toNat))).length then
      some (((v19.take (0 + v18.toNat) ++ List.replicate ((v19.length : Int).toNat - v18.toNat) Z2 ++ v19.drop ((0 + v18.toNat) + ((v19.length : Int).toNat - v18.toNat))).drop (0 + (0 : Int).toNat)).take (v18.toNat - (0 : Int).toNat))
     else none
    else none
   else none
  else none
 else none
def Z7e (K : Nat) (b27 : Int → Int → (List Zg) → Option ((List Zg))) (v15 : Int) (v37 : Int) (v38 : (List Zg)) : Option ((List Zg)) :=
 b27 v37 (IntKind.i64.wrap (v15 + 1)) v38
def Z4k (K : Nat) (v1 : Int) (a0 : (List Zg)) (c21 : Int → (List Zg) → Option ((List Zg))) : Nat → Int → Int → (List Zg) → Option ((List Zg))
 | 0, _, _, _ => none
 | k17 + 1, v14, v15, v16 =>
  if (0 + v1.toNat) + ((a0.length : Int).toNat - v1.toNat) ≤ v16.length then
   if (decide (v15 < ((((a0.length : Int).toNat - v1.toNat) : Nat) : Int))) = true then
    if (0 + v1.toNat) + ((a0.length : Int).toNat - v1.toNat) ≤ v16.length then
     if (0 : Int) ≤ v15 ∧ v15 < (((a0.length : Int).toNat - v1.toNat) : Nat) then
      if ((0 + v1.toNat) + v15.toNat) < v16.length then
       if (0 + v1.toNat) + ((a0.length : Int).toNat - v1.toNat) ≤ v16.length then
        if (0 : Int) ≤ (IntKind.i64.wrap (v15 - 1)) ∧ (IntKind.i64.wrap (v15 - 1)) < (((a0.length : Int).toNat - v1.toNat) : Nat) then
         if ((0 + v1.toNat) + (IntKind.i64.wrap (v15 - 1)).toNat) < v16.length then
          (F138 K (v16.getD ((0 + v1.toNat) + v15.toNat) Z2) (v16.getD ((0 + v1.toNat) + (IntKind.i64.wrap (v15 - 1)).toNat) Z2)).bind fun v36 =>
           if (!v36) = true then
            if (0 + v1.toNat) + ((a0.length : Int).toNat - v1.toNat) ≤ v16.length then
             if (0 : Int) ≤ v15 ∧ v15 < (((a0.length : Int).toNat - v1.toNat) : Nat) then
              if ((0 + v1.toNat) + v15.toNat) < v16.length then
               if (0 : Int) ≤ v14 ∧ v14 < (v16.length : Nat) then
                if v14.toNat < v16.length then
                 Z7e K (Z4k K v1 a0 c21 k17) v15 (IntKind.i64.wrap (v14 + 1)) (v16.set v14.toNat (v16.getD ((0 + v1.toNat) + v15.toNat) Z2))
                else none
               else none
              else none
             else none
            else none
           else
            Z7e K (Z4k K v1 a0 c21 k17) v15 v14 v16
         else none
        else none
       else none
      else none
     else none
    else none
   else
    c21 v14 v16
  else none
def Z83 (K : Nat) (a0 : (List Zg)) (c4 : Option ((List Zg))) : Nat → Int → Option ((List Zg))
 | 0, _ => none
 | k2 + 1, v1 =>
  if (decide (v1 < (a0.length : Int))) = true then
   if (0 : Int) ≤ v1 ∧ v1 < (a0.length : Nat) then
    if v1.toNat < a0.length then
     if (0 : Int) ≤ (IntKind.i64.wrap (v1 - 1)) ∧ (IntKind.i64.wrap (v1 - 1)) < (a0.length : Nat) then
      if (IntKind.i64.wrap (v1 - 1)).toNat < a0.length then
       (F138 K (a0.getD v1.toNat Z2) (a0.getD (IntKind.i64.wrap (v1 - 1)).toNat Z2)).bind fun v11 =>
        if v11 = true then
         if (0 : Int) ≤ v1 ∧ v1 ≤ (a0.length : Int) ∧ (a0.length : Int) ≤ (a0.length : Nat) then
          if (0 + v1.toNat) + ((a0.length : Int).toNat - v1.toNat) ≤ a0.length then
           Z4k K v1 a0 (Z53 K) K v1 1 a0
          else none
         else none
        else
         (Z83 K a0 c4 k2) (IntKind.i64.wrap (v1 + 1))
      else none
     else none
    else none
   else none
  else
   c4
def F134 (K : Nat) (a0 : (List Zg)) : Option ((List Zg)) :=
 if (decide ((a0.length : Int) < 2)) = true then
  some a0
 else
  Z83 K a0 (Zb6 K a0) K 1
theorem F134_ok (K : Nat) (a0 : (List Zg)) (r : (List Zg)) (h : F134 K a0 = some r) : ACall P 134 ⟨[(.vs 0), (.clo 138 [])], [(0, .vec 14 (List.map Z8 a0))], .vs 0, [(0, .vec 14 (List.map Z8 r))], [0]⟩ := by
 refine Z1q Tryz.func134 Tryz.results134 rfl Tryz.ntmps134 rfl rfl rfl ?_
 intro E Q hP hN hro hret
 obtain ⟨P', nt', w0, F0, p0, S0, β0, ro0⟩ := E
 simp only at hP hN
 subst hP hN
 dsimp only [argT]
 unfold F134 at h
 refine Zj <| Zd <| Z1 I (Zm (v := (.sl 14 [] false)) I I) I <| Zh <| Zi <| Zj <| Zj <| Zd ?_
 refine Z1 I (Zl (v := (.vs 0)) I I) I <| Z1 I (Z62 (l := a0) (enc := Z8) I u37 I I) I <| Z1 I (Z1x (k := .i64) (a := (a0.length : Int)) (b := 2) (c := (decide ((a0.length : Int) < 2))) I I I I) I <| Zh <| Zi ?_
 have hif := Z1w h
 refine Z16 I (fun hc => ?_) (fun hc => ?_)
 ·have h := hif.1 hc
  refine Zj <| Zd <| Z1 I (Zl (v := (.vs 0)) I I) I <| Z1 I (Zm (v := (.vs 0)) I I) I <| Zh <| Zi <| Z1c <| Z18 ?_
  have h := Option.some.inj h
  subst h
  refine (hret _ ?_).1
  exact ⟨[(.vs 0)], ⟨rfl, trivial⟩, rfl, ⟨rfl, trivial⟩⟩
 ·have h := hif.2 hc
  refine Z1a <| Zi <| Zj <| Zj <| Zd <| Z1 I (Zm (v := (.int .i64 1)) I I) I <| Zh <| Zi ?_
  refine AWp.weaken (st' := ⟨[(0, (.vs 0)), (1, (.clo 138 [])), (5, (.int .i64 1))], [(0, (.vec 14 (List.map Z8 a0)))]⟩) ⟨rfl, rfl, rfl, trivial⟩ ⟨rfl, trivial⟩ ?_
  refine Z1o (V := Int) (X := Unit) (lp := fun k v => Z83 K a0 (Zb6 K a0) k v = some r) (sh := fun v => ⟨[(0, (.vs 0)), (1, (.clo 138 [])), (5, (.int .i64 v))], [(0, (.vec 14 (List.map Z8 a0)))]⟩) (x := fun v => Zb6 K a0 = some r) (shx := fun v => ⟨[(0, (.vs 0))], [(0, (.vec 14 (List.map Z8 a0)))]⟩) (k := K) (v := 1) h ?_ ?_
  ·intro v h
   try dsimp only at h ⊢
   unfold Zb6 at h
   refine Zi <| Zj <| Zd <| Z1 I (Zl (v := (.vs 0)) I I) I <| Z1 I (Zm (v := (.vs 0)) I I) I <| Zh <| Zi <| Z1c ?_
   have h := Option.some.inj h
   subst h
   refine (hret _ ?_).1
   exact ⟨[(.vs 0)], ⟨rfl, trivial⟩, rfl, ⟨rfl, trivial⟩⟩
  ·intro N k2 v h IH2 J2
   revert h
   revert v
   intro v1 h
   try dsimp only at h IH2 J2 ⊢
   cases k2 with
   | zero => cases h
   | succ k2 =>
    rw [Z83] at h
    refine Zj <| Zj <| Zd <| Z1 I (Zl (v := (.int .i64 v1)) I I) I <| Z1 I (Zl (v := (.vs 0)) I I) I <| Z1 I (Z62 (l := a0) (enc := Z8) I u37 I I) I <| Z1 I (Z1x (k := .i64) (a := v1) (b := (a0.length : Int)) (c := (decide (v1 < (a0.length : Int)))) I I I I) I <| Zh ?_
    refine Zi ?_
    have hif := Z1w h
    refine Z16 I (fun hc => ?_) (fun hc => ?_)
    ·have h := hif.1 hc
     refine Z1a <| Zi <| Zj <| AWp.block <| Zj <| Z1r mixed <| Zb 0 I (Zl (v := (.clo 138 [])) I I) <| Zb 1 I (Zl (v := (.vs 0)) I I) ?_
     refine Zb 2 I (Zl (v := (.int .i64 v1)) I I) ?_
     have ⟨hg6, h⟩ := Z14 h
     refine Zb 3 I (Z2r (k := .i64) (v := (.vs 0)) (n := 0) (off := 0) (len := a0.length) (es := (List.map Z8 a0)) (j := v1) (m := v1.toNat) I s37 I I (Z2u _ _ _) I hg6 (Nat.zero_add _)) ?_
     have ⟨hg7, h⟩ := Z14 h
     refine Zb 4 I (Z5f (l := a0) (enc := Z8) (z := Z2) (vs := (Z8 (a0.getD v1.toNat Z2)).cells) I a56 I I hg7 I I) <| Zb 5 I (Zl (v := (.vs 0)) I I) <| Zb 6 I (Zl (v := (.int .i64 v1)) I I) <| Zb 7 I (Z1k (k := .i64) (a := v1) (b := 1) (c := (IntKind.i64.wrap (v1 - 1))) I I I I) ?_
     have ⟨hg8, h⟩ := Z14 h
     refine Zb 8 I (Z2r (k := .i64) (v := (.vs 0)) (n := 0) (off := 0) (len := a0.length) (es := (List.map Z8 a0)) (j := (IntKind.i64.wrap (v1 - 1))) (m := (IntKind.i64.wrap (v1 - 1)).toNat) I s37 I I (Z2u _ _ _) I hg8 (Nat.zero_add _)) ?_
     have ⟨hg9, h⟩ := Z14 h
     refine Zb 9 I (Z5f (l := a0) (enc := Z8) (z := Z2) (vs := (Z8 (a0.getD (IntKind.i64.wrap (v1 - 1)).toNat Z2)).cells) I a56 I I hg9 I I) ?_
     have ⟨v11, hv11, h⟩ := Z1d h
     refine Zb 10 I (Z1e (ar := [(Z8 (a0.getD v1.toNat Z2)), (Z8 (a0.getD (IntKind.i64.wrap (v1 - 1)).toNat Z2))]) (caps := []) Tryz.call138 (F138_ok K (a0.getD v1.toNat Z2) (a0.getD (IntKind.i64.wrap (v1 - 1)).toNat Z2) v11 hv11) I I ⟨rfl, rfl, trivial⟩ I) <| Z1t (by kernel_rfl) I <| Zi ?_
     have hif := Z1w h
     refine Z16 I (fun hc => ?_) (fun hc => ?_)
     ·have h := hif.1 hc
      refine Zj <| Zd <| Z1 I (Zl (v := (.vs 0)) I I) I <| Z1 I (Zl (v := (.int .i64 v1)) I I) I ?_
      have ⟨hg12, h⟩ := Z14 h
      have ⟨hg13, h⟩ := Z14 h
      refine Z1 I (Z7q (v := (.vs 0)) (n := 0) (off := 0) (len := a0.length) (l := a0) (enc := Z8) (kl := .i64) (lo := v1) I s37 I I (Z2u _ _ _) I hg12 I) I <| Z1 I (Zm (v := (.vsub 0 (0 + v1.toNat) ((a0.length : Int).toNat - v1.toNat) false)) I I) I <| Zh <| Zi <| Zj <| Zj <| Zd <| Z1 I (Zm (v := (.int .i64 1)) I I) I ?_
      refine Zh <| Zi <| AWp.weaken (st' := ⟨[(0, (.vs 0)), (1, (.clo 138 [])), (5, (.int .i64 v1)), (6, (.vsub 0 (0 + v1.toNat) ((a0.length : Int).toNat - v1.toNat) false)), (7, (.int .i64 1))], [(0, (.vec 14 (List.map Z8 a0)))]⟩) ⟨rfl, rfl, rfl, rfl, rfl, trivial⟩ ⟨rfl, trivial⟩ ?_
      refine Z1o (V := Int × Int × (List Zg)) (X := Int × (List Zg)) (lp := fun k v => Z4k K v1 a0 (Z53 K) k v.1 v.2.1 v.2.2 = some r) (sh := fun v => ⟨[(0, (.vs 0)), (1, (.clo 138 [])), (5, (.int .i64 v.1)), (6, (.vsub 0 (0 + v1.toNat) ((a0.length : Int).toNat - v1.toNat) false)), (7, (.int .i64 v.2.1))], [(0, (.vec 14 (List.map Z8 v.2.2)))]⟩) (x := fun v => Z53 K v.1 v.2 = some r) (shx := fun v => ⟨[(0, (.vs 0)), (5, (.int .i64 v.1))], [(0, (.vec 14 (List.map Z8 v.2)))]⟩) (k := K) (v := (v1, 1, a0)) h ?_ ?_
      ·intro v h
       obtain ⟨v18, v19⟩ := v
       try dsimp only at h ⊢
       unfold Z53 at h
       refine Zi <| Zj <| Zd <| Z1 I (Zl (v := (.vs 0)) I I) I <| Z1 I (Zl (v := (.int .i64 v18)) I I) I ?_
       have ⟨hg22, h⟩ := Z14 h
       have ⟨hg23, h⟩ := Z14 h
       refine Z1 I (Z7q (v := (.vs 0)) (n := 0) (off := 0) (len := v19.length) (l := v19) (enc := Z8) (kl := .i64) (lo := v18) I s37 I I (Z2u _ _ _) I hg22 I) I ?_
       have ⟨hg24, h⟩ := Z14 h
       refine Z1 I (st_clear (v := (.vsub 0 (0 + v18.toNat) ((v19.length : Int).toNat - v18.toNat) false)) (n := 0) (off := (0 + v18.toNat)) (len := ((v19.length : Int).toNat - v18.toNat)) (l := v19) (enc := Z8) el37 ze56 I I I (Z8w hg24) Z2v) I <| Zh <| Zi <| Zj <| Zd <| Z1 I (Zl (v := (.vs 0)) I I) I <| Z1 I (Zl (v := (.int .i64 v18)) I I) I ?_
       have ⟨hg25, h⟩ := Z14 h
       have ⟨hg26, h⟩ := Z14 h
       refine Z1 I (Z7z (v := (.vs 0)) (n := 0) (off := 0) (len := (v19.take (0 + v18.toNat) ++ List.replicate ((v19.length : Int).toNat - v18.toNat) Z2 ++ v19.drop ((0 + v18.toNat) + ((v19.length : Int).toNat - v18.toNat))).length) (l := (v19.take (0 + v18.toNat) ++ List.replicate ((v19.length : Int).toNat - v18.toNat) Z2 ++ v19.drop ((0 + v18.toNat) + ((v19.length : Int).toNat - v18.toNat)))) (enc := Z8) (kh := .i64) (hi := v18) I s37 I I (Z2u _ _ _) I hg25 I) I <| Z1 I (Zm (v := (.vsub 0 (0 + (0 : Int).toNat) (v18.toNat - (0 : Int).toNat) false)) I I) I <| Zh <| Zi <| Z1c <| Z1u <| Z18 ?_
       refine Z18 (Z1u ?_)
       refine Z18 <| At.ghost (st' := ⟨[(4, (.vs 0))], [(0, (.vec 14 (List.map Z8 (((v19.take (0 + v18.toNat) ++ List.replicate ((v19.length : Int).toNat - v18.toNat) Z2 ++ v19.drop ((0 + v18.toNat) + ((v19.length : Int).toNat - v18.toNat))).drop (0 + (0 : Int).toNat)).take (v18.toNat - (0 : Int).toNat)))))]⟩) (fun a w h => (Z1g ⟨[(4, (.vs 0))], [(0, (.vec 14 (List.map Z8 (((v19.take (0 + v18.toNat) ++ List.replicate ((v19.length : Int).toNat - v18.toNat) Z2 ++ v19.drop ((0 + v18.toNat) + ((v19.length : Int).toNat - v18.toNat))).drop (0 + (0 : Int).toNat)).take (v18.toNat - (0 : Int).toNat)))))]⟩ (ghost_trunc (k := 4) (m := 0) (sz := 14) (off := (0 + (0 : Int).toNat)) (len := (v18.toNat - (0 : Int).toNat)) (enc := Z8) (l := (v19.take (0 + v18.toNat) ++ List.replicate ((v19.length : Int).toNat - v18.toNat) Z2 ++ v19.drop ((0 + v18.toNat) + ((v19.length : Int).toNat - v18.toNat)))) I hg26 a w (Z1g ⟨[(4, (.vsub 0 (0 + (0 : Int).toNat) (v18.toNat - (0 : Int).toNat) false))], [(0, (.vec 14 (List.map Z8 (v19.take (0 + v18.toNat) ++ List.replicate ((v19.length : Int).toNat - v18.toNat) Z2 ++ v19.drop ((0 + v18.toNat) + ((v19.length : Int).toNat - v18.toNat))))))]⟩ h ⟨rfl, trivial⟩ ⟨rfl, trivial⟩)) ⟨rfl, trivial⟩ ⟨rfl, trivial⟩)) ?_
       have h := Option.some.inj h
       subst h
       refine (hret _ ?_).1
       exact ⟨[(.vs 0)], ⟨rfl, trivial⟩, rfl, ⟨rfl, trivial⟩⟩
      ·intro N k17 v h IH17 J17
       obtain ⟨v14, v15, v16⟩ := v
       try dsimp only at h IH17 J17 ⊢
       cases k17 with
       | zero => cases h
       | succ k17 =>
        rw [Z4k] at h
        refine Zj <| Zj <| Zd <| Z1 I (Zl (v := (.int .i64 v15)) I I) I <| Z1 I (Zl (v := (.vsub 0 (0 + v1.toNat) ((a0.length : Int).toNat - v1.toNat) false)) I I) I ?_
        have ⟨hg28, h⟩ := Z14 h
        refine Z1 I (stx_lenVS (v := (.vsub 0 (0 + v1.toNat) ((a0.length : Int).toNat - v1.toNat) false)) (n := 0) (off := (0 + v1.toNat)) (len := ((a0.length : Int).toNat - v1.toNat)) (l := v16) (enc := Z8) I u37 I I (Z8w hg28)) I <| Z1 I (Z1x (k := .i64) (a := v15) (b := ((((a0.length : Int).toNat - v1.toNat) : Nat) : Int)) (c := (decide (v15 < ((((a0.length : Int).toNat - v1.toNat) : Nat) : Int)))) I I I I) I <| Zh <| Zi ?_
        have hif := Z1w h
        refine Z16 I (fun hc => ?_) (fun hc => ?_)
        ·have h := hif.1 hc
         refine Z1a <| Zi <| Zj <| AWp.block <| Zj <| Z1r mixed <| Zb 0 I (Zl (v := (.clo 138 [])) I I) <| Zb 1 I (Zl (v := (.vsub 0 (0 + v1.toNat) ((a0.length : Int).toNat - v1.toNat) false)) I I) ?_
         refine Zb 2 I (Zl (v := (.int .i64 v15)) I I) ?_
         have ⟨hg29, h⟩ := Z14 h
         have ⟨hg30, h⟩ := Z14 h
         refine Zb 3 I (Z2r (k := .i64) (v := (.vsub 0 (0 + v1.toNat) ((a0.length : Int).toNat - v1.toNat) false)) (n := 0) (off := (0 + v1.toNat)) (len := ((a0.length : Int).toNat - v1.toNat)) (es := (List.map Z8 v16)) (j := v15) (m := ((0 + v1.toNat) + v15.toNat)) I s37 I I (Z8w hg29) I hg30 (I)) ?_
         have ⟨hg31, h⟩ := Z14 h
         refine Zb 4 I (Z5f (l := v16) (enc := Z8) (z := Z2) (vs := (Z8 (v16.getD ((0 + v1.toNat) + v15.toNat) Z2)).cells) I a56 I I hg31 I I) <| Zb 5 I (Zl (v := (.vsub 0 (0 + v1.toNat) ((a0.length : Int).toNat - v1.toNat) false)) I I) <| Zb 6 I (Zl (v := (.int .i64 v15)) I I) <| Zb 7 I (Z1k (k := .i64) (a := v15) (b := 1) (c := (IntKind.i64.wrap (v15 - 1))) I I I I) ?_
         have ⟨hg32, h⟩ := Z14 h
         have ⟨hg33, h⟩ := Z14 h
         refine Zb 8 I (Z2r (k := .i64) (v := (.vsub 0 (0 + v1.toNat) ((a0.length : Int).toNat - v1.toNat) false)) (n := 0) (off := (0 + v1.toNat)) (len := ((a0.length : Int).toNat - v1.toNat)) (es := (List.map Z8 v16)) (j := (IntKind.i64.wrap (v15 - 1))) (m := ((0 + v1.toNat) + (IntKind.i64.wrap (v15 - 1)).toNat)) I s37 I I (Z8w hg32) I hg33 (I)) ?_
         have ⟨hg34, h⟩ := Z14 h
         refine Zb 9 I (Z5f (l := v16) (enc := Z8) (z := Z2) (vs := (Z8 (v16.getD ((0 + v1.toNat) + (IntKind.i64.wrap (v15 - 1)).toNat) Z2)).cells) I a56 I I hg34 I I) ?_
         have ⟨v36, hv36, h⟩ := Z1d h
         refine Zb 10 I (Z1e (ar := [(Z8 (v16.getD ((0 + v1.toNat) + v15.toNat) Z2)), (Z8 (v16.getD ((0 + v1.toNat) + (IntKind.i64.wrap (v15 - 1)).toNat) Z2))]) (caps := []) Tryz.call138 (F138_ok K (v16.getD ((0 + v1.toNat) + v15.toNat) Z2) (v16.getD ((0 + v1.toNat) + (IntKind.i64.wrap (v15 - 1)).toNat) Z2) v36 hv36) I I ⟨rfl, rfl, trivial⟩ I) <| Zb 11 I (Z3q (b := v36) I I) <| Z1t (by kernel_rfl) I <| Zi ?_
         refine AWp.join (V := Int × (List Zg)) (lp := fun v => Z7e K (Z4k K v1 a0 (Z53 K) k17) v15 v.1 v.2 = some r) (sh := fun v => ⟨[(0, (.vs 0)), (1, (.clo 138 [])), (5, (.int .i64 v.1)), (6, (.vsub 0 (0 + v1.toNat) ((a0.length : Int).toNat - v1.toNat) false)), (7, (.int .i64 v15))], [(0, (.vec 14 (List.map Z8 v.2)))]⟩) ?_ ?_
         ·intro v h
          obtain ⟨v37, v38⟩ := v
          try dsimp only at h ⊢
          unfold Z7e at h
          refine At.end <| Zi <| Zd <| Z1 I (Zl (v := (.int .i64 v15)) I I) I <| Z1 I (Z1k (k := .i64) (a := v15) (b := 1) (c := (IntKind.i64.wrap (v15 + 1))) I I I I) I <| Z1 I (Zm (v := (.int .i64 (IntKind.i64.wrap (v15 + 1)))) I I) I <| Zh ?_
          exact Z13 (st' := ⟨[(0, (.vs 0)), (1, (.clo 138 [])), (5, (.int .i64 v37)), (6, (.vsub 0 (0 + v1.toNat) ((a0.length : Int).toNat - v1.toNat) false)), (7, (.int .i64 (IntKind.i64.wrap (v15 + 1))))], [(0, (.vec 14 (List.map Z8 v38)))]⟩) ⟨rfl, rfl, rfl, rfl, rfl, trivial⟩ ⟨rfl, trivial⟩ (IH17 _ (v37, (IntKind.i64.wrap (v15 + 1)), v38) (Nat.lt_succ_self _) h)
         ·intro J39
          have hif := Z1w h
          refine Z16 I (fun hc => ?_) (fun hc => ?_)
          ·have h := hif.1 hc
           refine Zj <| Zd <| Z1 I (Zl (v := (.vs 0)) I I) I <| Z1 I (Zl (v := (.int .i64 v14)) I I) I <| Z1 I (Zl (v := (.vsub 0 (0 + v1.toNat) ((a0.length : Int).toNat - v1.toNat) false)) I I) I <| Z1 I (Zl (v := (.int .i64 v15)) I I) I ?_
           have ⟨hg40, h⟩ := Z14 h
           have ⟨hg41, h⟩ := Z14 h
           refine Z1 I (Z2r (k := .i64) (v := (.vsub 0 (0 + v1.toNat) ((a0.length : Int).toNat - v1.toNat) false)) (n := 0) (off := (0 + v1.toNat)) (len := ((a0.length : Int).toNat - v1.toNat)) (es := (List.map Z8 v16)) (j := v15) (m := ((0 + v1.toNat) + v15.toNat)) I s37 I I (Z8w hg40) I hg41 (I)) I ?_
           have ⟨hg42, h⟩ := Z14 h
           refine Z1 I (Z5f (l := v16) (enc := Z8) (z := Z2) (vs := (Z8 (v16.getD ((0 + v1.toNat) + v15.toNat) Z2)).cells) I a56 I I hg42 I I) I ?_
           have ⟨hg43, h⟩ := Z14 h
           refine Z1 I (Z2r (k := .i64) (v := (.vs 0)) (n := 0) (off := 0) (len := v16.length) (es := (List.map Z8 v16)) (j := v14) (m := v14.toNat) I s37 I I (Z2u _ _ _) I hg43 (Nat.zero_add _)) I ?_
           have ⟨hg44, h⟩ := Z14 h
           refine Z1 I (Z8z (l := v16) (enc := Z8) (z := Z2) (a := (v16.getD ((0 + v1.toNat) + v15.toNat) Z2)) (v := (Z8 (v16.getD ((0 + v1.toNat) + v15.toNat) Z2))) sz56 I I hg44 I Z2v I I I I) I <| Zh <| Zi <| Zd <| Z1 I (Zl (v := (.int .i64 v14)) I I) I <| Z1 I (Z1k (k := .i64) (a := v14) (b := 1) (c := (IntKind.i64.wrap (v14 + 1))) I I I I) I <| Z1 I (Zm (v := (.int .i64 (IntKind.i64.wrap (v14 + 1)))) I I) I <| Zh ?_
           exact Z13 (st' := ⟨[(0, (.vs 0)), (1, (.clo 138 [])), (5, (.int .i64 (IntKind.i64.wrap (v14 + 1)))), (6, (.vsub 0 (0 + v1.toNat) ((a0.length : Int).toNat - v1.toNat) false)), (7, (.int .i64 v15))], [(0, (.vec 14 (List.map Z8 (v16.set v14.toNat (v16.getD ((0 + v1.toNat) + v15.toNat) Z2)))))]⟩) ⟨rfl, rfl, rfl, rfl, rfl, trivial⟩ ⟨rfl, trivial⟩ (J39 ((IntKind.i64.wrap (v14 + 1)), (v16.set v14.toNat (v16.getD ((0 + v1.toNat) + v15.toNat) Z2))) h)
          ·have h := hif.2 hc
           refine Z1a ?_
           exact Z13 (st' := ⟨[(0, (.vs 0)), (1, (.clo 138 [])), (5, (.int .i64 v14)), (6, (.vsub 0 (0 + v1.toNat) ((a0.length : Int).toNat - v1.toNat) false)), (7, (.int .i64 v15))], [(0, (.vec 14 (List.map Z8 v16)))]⟩) ⟨rfl, rfl, rfl, rfl, rfl, trivial⟩ ⟨rfl, trivial⟩ (J39 (v14, v16) h)
        ·have h := hif.2 hc
         refine AWp.exit <| At.thru ?_
         exact Z13 (st' := ⟨[(0, (.vs 0)), (5, (.int .i64 v14))], [(0, (.vec 14 (List.map Z8 v16)))]⟩) ⟨rfl, rfl, trivial⟩ ⟨rfl, trivial⟩ (J17 (v14, v16) h)
     ·have h := hif.2 hc
      refine Z1a <| At.end <| Zi <| Zd <| Z1 I (Zl (v := (.int .i64 v1)) I I) I <| Z1 I (Z1k (k := .i64) (a := v1) (b := 1) (c := (IntKind.i64.wrap (v1 + 1))) I I I I) I <| Z1 I (Zm (v := (.int .i64 (IntKind.i64.wrap (v1 + 1)))) I I) I <| Zh ?_
      exact Z13 (st' := ⟨[(0, (.vs 0)), (1, (.clo 138 [])), (5, (.int .i64 (IntKind.i64.wrap (v1 + 1))))], [(0, (.vec 14 (List.map Z8 a0)))]⟩) ⟨rfl, rfl, rfl, trivial⟩ ⟨rfl, trivial⟩ (IH2 _ (IntKind.i64.wrap (v1 + 1)) (Nat.lt_succ_self _) h)
    ·have h := hif.2 hc
     refine AWp.exit <| At.thru ?_
     exact Z13 (st' := ⟨[(0, (.vs 0))], [(0, (.vec 14 (List.map Z8 a0)))]⟩) ⟨rfl, trivial⟩ ⟨rfl, trivial⟩ (J2 () h)
def F92 (K : Nat) (a0 : (List Zg)) : Option ((List Zg)) :=
 (F136 K a0).bind fun v2 =>
  (F135 K v2).bind fun v4 =>
   (F134 K v4).bind fun v6 =>
    some v6
theorem F92_ok (K : Nat) (a0 : (List Zg)) (r : (List Zg)) (h : F92 K a0 = some r) : ACall P 92 ⟨[(.sl 14 (a0.map Z8) false)], [], (.sl 14 (r.map Z8) false), [], []⟩ := by
 refine Z1q Tryz.func92 Tryz.results92 rfl Tryz.ntmps92 rfl rfl rfl ?_
 intro E Q hP hN hro hret
 obtain ⟨P', nt', w0, F0, p0, S0, β0, ro0⟩ := E
 simp only at hP hN
 subst hP hN
 dsimp only [argT]
 unfold F92 at h
 refine Zj <| Zd <| Z1 I (Zm (v := (.sl 14 [] false)) I I) I <| Zh <| Zi <| Zj <| Zd <| Z1 I (Zl (v := (.sl 14 (a0.map Z8) false)) I I) I ?_
 have ⟨v2, hv2, h⟩ := Z1d h
 refine Z1 I (Z1e (ar := [(.sl 14 (a0.map Z8) false)]) (caps := []) Tryz.call136 (F136_ok K a0 v2 hv2) I I ⟨rfl, trivial⟩ I) I ?_
 have ⟨v4, hv4, h⟩ := Z1d h
 refine Z1 I (Z8s (sz := 14) (es := (List.map Z8 v4)) (ar := [(.clo 168 [(.ip [(.sl 14 (v2.map Z8) false)])]), (.clo 137 [])]) (caps := []) Tryz.call135 ((F135_ok K v2 v4 hv4).sw 4 5) I I ⟨rfl, rfl, trivial⟩ I) I ?_
 have ⟨v6, hv6, h⟩ := Z1d h
 refine Z1 I (Z37 (d := some 6) (c := ⟨[(.vs 5), (.clo 138 [])] ++ [], [(5, (.vec 14 (List.map Z8 v4)))], .vs 5, [(5, .vec 14 (List.map Z8 v6))], [5]⟩) (ar := [(.vs 5), (.clo 138 [])]) (caps := []) (news := []) (forg := [5]) Tryz.call134 ((F134_ok K v4 v6 hv6).sw 0 5) I I ⟨rfl, rfl, trivial⟩ I ⟨rfl, trivial⟩ I) I <| Z1 I (Zm (v := (.vs 5)) I I) I <| Zh <| Zi <| Z1c <| At.ghost (st' := ⟨[(2, (.sl 14 (v6.map Z8) false))], []⟩) (fun a w h => (Z1g ⟨[(2, (.sl 14 (v6.map Z8) false))], []⟩ (Z2i (m := 5) (sz := 14) (es := (List.map Z8 v6)) a w (Z1g ⟨[(2, (.vs 5))], [(5, (.vec 14 (List.map Z8 v6)))]⟩ h ⟨rfl, trivial⟩ ⟨rfl, trivial⟩)) ⟨rfl, trivial⟩ trivial)) ?_
 have h := Option.some.inj h
 subst h
 refine (hret _ ?_).1
 exact ⟨[(.sl 14 (v6.map Z8) false)], ⟨rfl, trivial⟩, rfl, trivial⟩
def F95 (K : Nat) (a0 : Zg) : Option (Z22) :=
 some (⟨a0.Trace, a0.Id⟩ : Z22)
theorem F95_ok (K : Nat) (a0 : Zg) (r : Z22) (h : F95 K a0 = some r) : ACall P 95 ⟨[(Z8 a0)], [], (Z11 r), [], []⟩ := by
 refine Z1q Tryz.func95 Tryz.results95 rfl Tryz.ntmps95 rfl rfl rfl ?_
 intro E Q hP hN hro hret
 obtain ⟨P', nt', w0, F0, p0, S0, β0, ro0⟩ := E
 simp only at hP hN
 subst hP hN
 dsimp only [argT]
 unfold F95 at h
 refine Zj <| Zd <| Z1 I (Z2o (v := (Z8 a0)) (cs := (Z8 a0).cells) I I I I I) I <| Z1 I (Z21 (cs := [(.int .i64 0), (.int .i64 0)]) I z177 I I I) I <| Zh <| Zi <| Zj <| Zd ?_
 refine Z1 I (Zr (m := 1) (o := 0) I f56_0 I I) I <| Z1 I (Zy (cs := (Z8 a0).cells) (v := (.int .i64 a0.Trace)) I o3 I I I) I <| Z1 I (Zr (m := 1) (o := 0) I f56_1 I I) I <| Z1 I (Zy (cs := (Z8 a0).cells) (v := (.int .i64 a0.Id)) I o3 I I I) I <| Z1 I (Z29 (vs := [(0, (.int .i64 a0.Trace)), (1, (.int .i64 a0.Id))]) (cs := [(.int .i64 a0.Trace), (.int .i64 a0.Id)]) I st177 ⟨rfl, rfl, rfl, rfl, trivial⟩ I) I <| Z1 I (Z1b (cs := [(.int .i64 0), (.int .i64 0)]) (vs := [(.int .i64 a0.Trace), (.int .i64 a0.Id)]) (ds := [(.int .i64 a0.Trace), (.int .i64 a0.Id)]) (v := (.ag [(.int .i64 a0.Trace), (.int .i64 a0.Id)])) sz177 I I I I I I I I) I <| Zh <| Zi ?_
 refine Z1c ?_
 have h := Option.some.inj h
 subst h
 refine (hret _ ?_).1
 exact ⟨[(.ag [(.int .i64 a0.Trace), (.int .i64 a0.Id)])], ⟨⟨2, _, rfl, rfl, .inr ⟨_, a177, rfl, rfl⟩⟩, trivial⟩, rfl, trivial⟩
def F94 (K : Nat) (a0 : Int) (a1 : (List Zg)) : Option (Bool) :=
 if ((IntKind.i64.wrap (a0 + 1)) == (a1.length : Int)) = true then
  some true
 else
  if (0 : Int) ≤ (IntKind.i64.wrap (a0 + 1)) ∧ (IntKind.i64.wrap (a0 + 1)) < a1.length then
   (F95 K (a1.getD (IntKind.i64.wrap (a0 + 1)).toNat Z2)).bind fun v3 =>
    if (0 : Int) ≤ a0 ∧ a0 < a1.length then
     (F95 K (a1.getD a0.toNat Z2)).bind fun v6 =>
      some (!((v3.Trace == v6.Trace) && ((v3.Id == v6.Id) && true)))
    else none
  else none
theorem F94_ok (K : Nat) (a0 : Int) (a1 : (List Zg)) (r : Bool) (h : F94 K a0 a1 = some r) : ACall P 94 ⟨[(.int .i64 a0), (.ip [(.sl 14 (a1.map Z8) false)])], [], (.bool r), [], []⟩ := by
 refine Z1q Tryz.func94 Tryz.results94 rfl Tryz.ntmps94 rfl rfl rfl ?_
 intro E Q hP hN hro hret
 obtain ⟨P', nt', w0, F0, p0, S0, β0, ro0⟩ := E
 simp only at hP hN
 subst hP hN
 dsimp only [argT]
 unfold F94 at h
 refine Zj <| Zd <| Z1 I (Zm (v := (.bool false)) I I) I <| Zh <| Zi <| Zj <| Z1r mixed <| Zb 0 I (Zl (v := (.int .i64 a0)) I I) ?_
 refine Zb 1 I (Z1k (k := .i64) (a := a0) (b := 1) (c := (IntKind.i64.wrap (a0 + 1))) I I I I) <| Zb 2 I (Z28 (cs := [(.sl 14 (a1.map Z8) false)]) (v := (.sl 14 (a1.map Z8) false)) I o37 I I) <| Zb 3 I (Z2d (l := a1) (enc := Z8) I s37 I) <| Zb 4 I (Z1x (k := .i64) (a := (IntKind.i64.wrap (a0 + 1))) (b := (a1.length : Int)) (c := ((IntKind.i64.wrap (a0 + 1)) == (a1.length : Int))) I I I I) <| Zb 5 I (Zl (v := (.bool ((IntKind.i64.wrap (a0 + 1)) == (a1.length : Int)))) I I) ?_
 have hif := Z1w h
 refine AOpsD.split (fun hc => ?_) (fun hc => ?_)
 ·have h := hif.1 hc
  refine Zx 6 I I I I I I I <| Zx 7 I I I I I I I <| Zx 8 I I I I I I I <| Zx 9 I I I I I I I <| Zx 10 I I I I I I I <| Zx 11 I I I I I I I <| Zx 12 I I I I I I I <| Zx 13 I I I I I I I ?_
  refine Zx 14 I I I I I I I <| Zx 15 I I I I I I I <| Zx 16 I I I I I I I <| Zx 17 I I I I I I I <| Zb 18 I (Z23 (v := (.bool true)) I I I) <| Zb 19 I (Zm (v := (.bool true)) I I) <| Z1t (by kernel_rfl) I <| Zi ?_
  refine Z1c ?_
  have h := Option.some.inj h
  subst h
  refine (hret _ ?_).1
  exact ⟨[(.bool true)], ⟨rfl, trivial⟩, rfl, trivial⟩
 ·have h := hif.2 hc
  refine Z12 6 I I I I (Z28 (cs := [(.sl 14 (a1.map Z8) false)]) (v := (.sl 14 (a1.map Z8) false)) I o37 I I) <| Z12 7 I I I I (Zl (v := (.int .i64 a0)) I I) <| Z12 8 I I I I (Z1k (k := .i64) (a := a0) (b := 1) (c := (IntKind.i64.wrap (a0 + 1))) I I I I) ?_
  have ⟨hg1, h⟩ := Z14 h
  refine Z12 9 I I I I (Z1s (k := .i64) (l := a1) (enc := Z8) (z := Z2) (n := (IntKind.i64.wrap (a0 + 1))) (cs := (Z8 (a1.getD (IntKind.i64.wrap (a0 + 1)).toNat Z2)).cells) (full := false) I s37 I I hg1 I) <| Z12 10 I I I I (Z2h (cs := (Z8 (a1.getD (IntKind.i64.wrap (a0 + 1)).toNat Z2)).cells) (vs := (Z8 (a1.getD (IntKind.i64.wrap (a0 + 1)).toNat Z2)).cells) I a56 I I I) ?_
  have ⟨v3, hv3, h⟩ := Z1d h
  refine Z12 11 I I I I (Z1e (ar := [(Z8 (a1.getD (IntKind.i64.wrap (a0 + 1)).toNat Z2))]) (caps := []) Tryz.call95 (F95_ok K (a1.getD (IntKind.i64.wrap (a0 + 1)).toNat Z2) v3 hv3) I I ⟨rfl, trivial⟩ I) <| Z12 12 I I I I (Z28 (cs := [(.sl 14 (a1.map Z8) false)]) (v := (.sl 14 (a1.map Z8) false)) I o37 I I) <| Z12 13 I I I I (Zl (v := (.int .i64 a0)) I I) ?_
  have ⟨hg4, h⟩ := Z14 h
  refine Z12 14 I I I I (Z1s (k := .i64) (l := a1) (enc := Z8) (z := Z2) (n := a0) (cs := (Z8 (a1.getD a0.toNat Z2)).cells) (full := false) I s37 I I hg4 I) <| Z12 15 I I I I (Z2h (cs := (Z8 (a1.getD a0.toNat Z2)).cells) (vs := (Z8 (a1.getD a0.toNat Z2)).cells) I a56 I I I) ?_
  have ⟨v6, hv6, h⟩ := Z1d h
  refine Z12 16 I I I I (Z1e (ar := [(Z8 (a1.getD a0.toNat Z2))]) (caps := []) Tryz.call95 (F95_ok K (a1.getD a0.toNat Z2) v6 hv6) I I ⟨rfl, trivial⟩ I) <| Z12 17 I I I I (st_cmpA (xs := (Z11 v3).cells) (ys := (Z11 v6).cells) (b := ((v3.Trace == v6.Trace) && ((v3.Id == v6.Id) && true))) (c := (!((v3.Trace == v6.Trace) && ((v3.Id == v6.Id) && true)))) I eq177 I I I I) <| Zb 18 I (Z20 (v := (.bool (!((v3.Trace == v6.Trace) && ((v3.Id == v6.Id) && true))))) I I I) <| Zb 19 I (Zm (v := (.bool (!((v3.Trace == v6.Trace) && ((v3.Id == v6.Id) && true))))) I I) <| Z1t (by kernel_rfl) I <| Zi <| Z1c ?_
  have h := Option.some.inj h
  subst h
  refine (hret _ ?_).1
  exact ⟨[(.bool (!((v3.Trace == v6.Trace) && ((v3.Id == v6.Id) && true))))], ⟨rfl, trivial⟩, rfl, trivial⟩
def F90 (K : Nat) (a0 : (List Z1f)) : Option ((List Z1f)) :=
 if ([] : List Z1f).length + a0.length ≤ 1073741824 then
  some a0
 else none
theorem F90_ok (K : Nat) (a0 : (List Z1f)) (r : (List Z1f)) (h : F90 K a0 = some r) : ACall P 90 ⟨[(.sl 4 (a0.map Zv) false)], [], (.sl 4 (r.map Zv) false), [], []⟩ := by
 refine Z1q Tryz.func90 Tryz.results90 rfl Tryz.ntmps90 rfl rfl rfl ?_
 intro E Q hP hN hro hret
 obtain ⟨P', nt', w0, F0, p0, S0, β0, ro0⟩ := E
 simp only at hP hN
 subst hP hN
 dsimp only [argT]
 unfold F90 at h
 refine Zj <| Zd <| Z1 I (Zm (v := (.sl 4 [] true)) I I) I <| Zh <| Zi <| Zj <| Zj <| Zd ?_
 refine Z1 I (Zl (v := (.sl 4 (a0.map Zv) false)) I I) I ?_
 refine AOps.consNil (enc := Zv) (es := a0) (full := false) I u53 I (fun x1 hbx1 => ?_)
 refine Zh <| Zi ?_
 refine Z16 I (fun hc => ?_) (fun hc => ?_)
 ·have hz := hbx1 hc
  have h : (some []) = some r := by simp only [hz] at h ⊢; simpa using h
  refine Zj <| Zd <| Z1 I (Zm (v := (.sl 4 [] true)) I I) I <| Zh <| Zi <| Z1c <| Z18 <| At.ghost (st' := ⟨[(2, (.sl 4 [] false))], []⟩) (fun a w h => (Z1g ⟨[(2, (.sl 4 [] false))], []⟩ (Zc9 a w (Z1g ⟨[(2, (.sl 4 [] true))], []⟩ h ⟨rfl, trivial⟩ trivial)) ⟨rfl, trivial⟩ trivial)) ?_
  have h := Option.some.inj h
  subst h
  refine (hret _ ?_).1
  exact ⟨[(.sl 4 [] false)], ⟨rfl, trivial⟩, rfl, trivial⟩
 ·refine Z1a <| Zi <| Zj <| Zd <| Z1 I (Z1l (vs := []) (enc := Zv) (l := ([] : List Z1f)) I el53 I I trivial I Z65 I I I I) I <| Z1 I (Zl (v := (.sl 4 (a0.map Zv) false)) I I) I ?_
  have ⟨hg2, h⟩ := Z14 h
  refine Z1 I (Z2t (m := 5) (enc := Zv) (l := ([] : List Z1f)) (l' := a0) (src := (.sl 4 (a0.map Zv) false)) (rd := []) I I el53 I u53 I I I ⟨rfl, rfl, rfl⟩ noReads Z65 hg2) I <| Z1 I (Zm (v := (.vs 5)) I I) I <| Zh <| Zi <| Z1c <| At.ghost (st' := ⟨[(2, (.sl 4 (a0.map Zv) false))], []⟩) (fun a w h => (Z1g ⟨[(2, (.sl 4 (a0.map Zv) false))], []⟩ (Z2i (m := 5) (sz := 4) (es := (List.map Zv a0)) a w (Z1g ⟨[(2, (.vs 5))], [(5, (.vec 4 (List.map Zv a0)))]⟩ h ⟨rfl, trivial⟩ ⟨rfl, trivial⟩)) ⟨rfl, trivial⟩ trivial)) ?_
  have h := Option.some.inj h
  subst h
  refine (hret _ ?_).1
  exact ⟨[(.sl 4 (a0.map Zv) false)], ⟨rfl, trivial⟩, rfl, trivial⟩
def F91 (K : Nat) (a0 : (List Z22)) : Option ((List Z22)) :=
 if ([] : List Z22).length + a0.length ≤ 1073741824 then
  some a0
 else none
theorem F91_ok (K : Nat) (a0 : (List Z22)) (r : (List Z22)) (h : F91 K a0 = some r) : ACall P 91 ⟨[(.sl 2 (a0.map Z11) false)], [], (.sl 2 (r.map Z11) false), [], []⟩ := by
 refine Z1q Tryz.func91 Tryz.results91 rfl Tryz.ntmps91 rfl rfl rfl ?_
 intro E Q hP hN hro hret
 obtain ⟨P', nt', w0, F0, p0, S0, β0, ro0⟩ := E
 simp only at hP hN
 subst hP hN
 dsimp only [argT]
 unfold F91 at h
 refine Zj <| Zd <| Z1 I (Zm (v := (.sl 2 [] true)) I I) I <| Zh <| Zi <| Zj <| Zj <| Zd ?_
 refine Z1 I (Zl (v := (.sl 2 (a0.map Z11) false)) I I) I ?_
 refine AOps.consNil (enc := Z11) (es := a0) (full := false) I u54 I (fun x1 hbx1 => ?_)
 refine Zh <| Zi ?_
 refine Z16 I (fun hc => ?_) (fun hc => ?_)
 ·have hz := hbx1 hc
  have h : (some []) = some r := by simp only [hz] at h ⊢; simpa using h
  refine Zj <| Zd <| Z1 I (Zm (v := (.sl 2 [] true)) I I) I <| Zh <| Zi <| Z1c <| Z18 <| At.ghost (st' := ⟨[(2, (.sl 2 [] false))], []⟩) (fun a w h => (Z1g ⟨[(2, (.sl 2 [] false))], []⟩ (Zc9 a w (Z1g ⟨[(2, (.sl 2 [] true))], []⟩ h ⟨rfl, trivial⟩ trivial)) ⟨rfl, trivial⟩ trivial)) ?_
  have h := Option.some.inj h
  subst h
  refine (hret _ ?_).1
  exact ⟨[(.sl 2 [] false)], ⟨rfl, trivial⟩, rfl, trivial⟩
 ·refine Z1a <| Zi <| Zj <| Zd <| Z1 I (Z1l (vs := []) (enc := Z11) (l := ([] : List Z22)) I el54 I I trivial I Z6r I I I I) I <| Z1 I (Zl (v := (.sl 2 (a0.map Z11) false)) I I) I ?_
  have ⟨hg2, h⟩ := Z14 h
  refine Z1 I (Z2t (m := 5) (enc := Z11) (l := ([] : List Z22)) (l' := a0) (src := (.sl 2 (a0.map Z11) false)) (rd := []) I I el54 I u54 I I I ⟨rfl, rfl, rfl⟩ noReads Z6r hg2) I <| Z1 I (Zm (v := (.vs 5)) I I) I <| Zh <| Zi <| Z1c <| At.ghost (st' := ⟨[(2, (.sl 2 (a0.map Z11) false))], []⟩) (fun a w h => (Z1g ⟨[(2, (.sl 2 (a0.map Z11) false))], []⟩ (Z2i (m := 5) (sz := 2) (es := (List.map Z11 a0)) a w (Z1g ⟨[(2, (.vs 5))], [(5, (.vec 2 (List.map Z11 a0)))]⟩ h ⟨rfl, trivial⟩ ⟨rfl, trivial⟩)) ⟨rfl, trivial⟩ trivial)) ?_
  have h := Option.some.inj h
  subst h
  refine (hret _ ?_).1
  exact ⟨[(.sl 2 (a0.map Z11) false)], ⟨rfl, trivial⟩, rfl, trivial⟩
def F139 (K : Nat) (a0 : Zg) : Option (Zg) :=
 (F90 K a0.Attrs).bind fun v2 =>
  (F91 K a0.Links).bind fun v4 =>
   some (⟨a0.Trace, a0.Id, a0.Parent, a0.Revision, a0.Clock, a0.Kind, a0.Service, a0.Version, a0.Operation, a0.Start, a0.End, a0.Error, v2, v4⟩ : Zg)
theorem F139_ok (K : Nat) (a0 : Zg) (r : Zg) (h : F139 K a0 = some r) : ACall P 139 ⟨[(Z8 a0)], [], (Z8 r), [], []⟩ := by
 refine Z1q Tryz.func139 Tryz.results139 rfl Tryz.ntmps139 rfl rfl rfl ?_
 intro E Q hP hN hro hret
 obtain ⟨P', nt', w0, F0, p0, S0, β0, ro0⟩ := E
 simp only at hP hN
 subst hP hN
 dsimp only [argT]
 unfold F139 at h
 refine Zj <| Zd <| Z1 I (Z2o (v := (Z8 a0)) (cs := (Z8 a0).cells) I I I I I) I <| Z1 I (Z21 (cs := [(.int .i64 0), (.int .i64 0), (.int .i64 0), (.int .i64 0), (.int .i64 0), (.int .i64 0), (.str []), (.str []), (.str []), (.int .i64 0), (.int .i64 0), (.bool false), (.sl 4 [] false), (.sl 2 [] false)]) I z56 I I I) I <| Zh <| Zi <| Zj <| Z1r mixed ?_
 refine Zb 0 I (Zr (m := 1) (o := 0) I Zds I I) <| Zb 1 I (Zy (cs := (Z8 a0).cells) (v := (.sl 4 (a0.Attrs.map Zv) false)) I o53 I I I) ?_
 have ⟨v2, hv2, h⟩ := Z1d h
 refine Zb 2 I (Z1e (ar := [(.sl 4 (a0.Attrs.map Zv) false)]) (caps := []) Tryz.call90 (F90_ok K a0.Attrs v2 hv2) I I ⟨rfl, trivial⟩ I) <| Zb 3 I (Zr (m := 1) (o := 0) I f56_13 I I) <| Zb 4 I (Zy (cs := (Z8 a0).cells) (v := (.sl 2 (a0.Links.map Z11) false)) I o54 I I I) ?_
 have ⟨v4, hv4, h⟩ := Z1d h
 refine Zb 5 I (Z1e (ar := [(.sl 2 (a0.Links.map Z11) false)]) (caps := []) Tryz.call91 (F91_ok K a0.Links v4 hv4) I I ⟨rfl, trivial⟩ I) <| Zb 6 I (Zr (m := 1) (o := 0) I Zds I I) <| Zb 7 I (Z1b (cs := (Z8 a0).cells) (vs := [(.sl 4 (v2.map Zv) false)]) (ds := [(.int .i64 a0.Trace), (.int .i64 a0.Id), (.int .i64 a0.Parent), (.int .i64 a0.Revision), (.int .i64 a0.Clock), (.int .i64 a0.Kind), (.str a0.Service), (.str a0.Version), (.str a0.Operation), (.int .i64 a0.Start), (.int .i64 a0.End), (.bool a0.Error), (.sl 4 (v2.map Zv) false), (.sl 2 (a0.Links.map Z11) false)]) (v := (.sl 4 (v2.map Zv) false)) sz53 I I I I I I I I) <| Zb 8 I (Zr (m := 1) (o := 0) I f56_13 I I) <| Zb 9 I (Z1b (cs := [(.int .i64 a0.Trace), (.int .i64 a0.Id), (.int .i64 a0.Parent), (.int .i64 a0.Revision), (.int .i64 a0.Clock), (.int .i64 a0.Kind), (.str a0.Service), (.str a0.Version), (.str a0.Operation), (.int .i64 a0.Start), (.int .i64 a0.End), (.bool a0.Error), (.sl 4 (v2.map Zv) false), (.sl 2 (a0.Links.map Z11) false)]) (vs := [(.sl 2 (v4.map Z11) false)]) (ds := [(.int .i64 a0.Trace), (.int .i64 a0.Id), (.int .i64 a0.Parent), (.int .i64 a0.Revision), (.int .i64 a0.Clock), (.int .i64 a0.Kind), (.str a0.Service), (.str a0.Version), (.str a0.Operation), (.int .i64 a0.Start), (.int .i64 a0.End), (.bool a0.Error), (.sl 4 (v2.map Zv) false), (.sl 2 (v4.map Z11) false)]) (v := (.sl 2 (v4.map Z11) false)) sz54 I I I I I I I I) <| Z1t (by kernel_rfl) I <| Zi <| Zj ?_
 refine Zd <| Z1 I (Z1n (cs := [(.int .i64 a0.Trace), (.int .i64 a0.Id), (.int .i64 a0.Parent), (.int .i64 a0.Revision), (.int .i64 a0.Clock), (.int .i64 a0.Kind), (.str a0.Service), (.str a0.Version), (.str a0.Operation), (.int .i64 a0.Start), (.int .i64 a0.End), (.bool a0.Error), (.sl 4 (v2.map Zv) false), (.sl 2 (v4.map Z11) false)]) (vs := [(.int .i64 a0.Trace), (.int .i64 a0.Id), (.int .i64 a0.Parent), (.int .i64 a0.Revision), (.int .i64 a0.Clock), (.int .i64 a0.Kind), (.str a0.Service), (.str a0.Version), (.str a0.Operation), (.int .i64 a0.Start), (.int .i64 a0.End), (.bool a0.Error), (.sl 4 (v2.map Zv) false), (.sl 2 (v4.map Z11) false)]) I a56 I I I I) I <| Z1 I (Z1b (cs := [(.int .i64 0), (.int .i64 0), (.int .i64 0), (.int .i64 0), (.int .i64 0), (.int .i64 0), (.str []), (.str []), (.str []), (.int .i64 0), (.int .i64 0), (.bool false), (.sl 4 [] false), (.sl 2 [] false)]) (vs := [(.int .i64 a0.Trace), (.int .i64 a0.Id), (.int .i64 a0.Parent), (.int .i64 a0.Revision), (.int .i64 a0.Clock), (.int .i64 a0.Kind), (.str a0.Service), (.str a0.Version), (.str a0.Operation), (.int .i64 a0.Start), (.int .i64 a0.End), (.bool a0.Error), (.sl 4 (v2.map Zv) false), (.sl 2 (v4.map Z11) false)]) (ds := [(.int .i64 a0.Trace), (.int .i64 a0.Id), (.int .i64 a0.Parent), (.int .i64 a0.Revision), (.int .i64 a0.Clock), (.int .i64 a0.Kind), (.str a0.Service), (.str a0.Version), (.str a0.Operation), (.int .i64 a0.Start), (.int .i64 a0.End), (.bool a0.Error), (.sl 4 (v2.map Zv) false), (.sl 2 (v4.map Z11) false)]) (v := (.ag [(.int .i64 a0.Trace), (.int .i64 a0.Id), (.int .i64 a0.Parent), (.int .i64 a0.Revision), (.int .i64 a0.Clock), (.int .i64 a0.Kind), (.str a0.Service), (.str a0.Version), (.str a0.Operation), (.int .i64 a0.Start), (.int .i64 a0.End), (.bool a0.Error), (.sl 4 (v2.map Zv) false), (.sl 2 (v4.map Z11) false)])) sz56 I I I I I I I I) I <| Zh <| Zi <| Z1c ?_
 have h := Option.some.inj h
 subst h
 refine (hret _ ?_).1
 exact ⟨[(.ag [(.int .i64 a0.Trace), (.int .i64 a0.Id), (.int .i64 a0.Parent), (.int .i64 a0.Revision), (.int .i64 a0.Clock), (.int .i64 a0.Kind), (.str a0.Service), (.str a0.Version), (.str a0.Operation), (.int .i64 a0.Start), (.int .i64 a0.End), (.bool a0.Error), (.sl 4 (v2.map Zv) false), (.sl 2 (v4.map Z11) false)])], ⟨⟨2, _, rfl, rfl, .inr ⟨_, a56, rfl, rfl⟩⟩, trivial⟩, rfl, trivial⟩
def Zbb (K : Nat) (v4 : (List Zg)) : Option ((List Zg)) :=
 some v4
def Z94 (K : Nat) (b7 : Int → (List Zg) → Option ((List Zg))) (v1 : Int) (v11 : (List Zg)) : Option ((List Zg)) :=
 b7 (IntKind.i64.wrap (v1 + 1)) v11
def Z8v (K : Nat) (a0 : (List Zg)) (a100 : (List Zg)) (c6 : (List Zg) → Option ((List Zg))) : Nat → Int → (List Zg) → Option ((List Zg))
 | 0, _, _ => none
 | k3 + 1, v1, v2 =>
  if (decide (v1 < (a0.length : Int))) = true then
   if (0 : Int) ≤ v1 ∧ v1 < a0.length then
    (F94 K v1 a100).bind fun v10 =>
     if v10 = true then
      (F139 K (a0.getD v1.toNat Z2)).bind fun v14 =>
       if v2.length + [v14].length ≤ 1073741824 then
        Z94 K (Z8v K a0 a100 c6 k3) v1 (v2 ++ [v14])
       else none
     else
      Z94 K (Z8v K a0 a100 c6 k3) v1 v2
   else none
  else
   c6 v2
def F93 (K : Nat) (a0 : (List Zg)) (a100 : (List Zg)) : Option ((List Zg)) :=
 Z8v K a0 a100 (Zbb K) K 0 []
theorem F93_ok (K : Nat) (a0 : (List Zg)) (a100 : (List Zg)) (r : (List Zg)) (h : F93 K a0 a100 = some r) : ACall P 93 ⟨[(.sl 14 (a0.map Z8) false), (.clo 94 [(.ip [(.sl 14 (a100.map Z8) false)])])], [], (.sl 14 (r.map Z8) false), [], []⟩ := by
 refine Z1q Tryz.func93 Tryz.results93 rfl Tryz.ntmps93 rfl rfl rfl ?_
 intro E Q hP hN hro hret
 obtain ⟨P', nt', w0, F0, p0, S0, β0, ro0⟩ := E
 simp only at hP hN
 subst hP hN
 dsimp only [argT]
 unfold F93 at h
 refine Zj <| Zd <| Z1 I (Zm (v := (.sl 14 [] false)) I I) I <| Zh <| Zi <| Zj <| Zd <| Z1 I (Zm (v := (.sl 14 [] true)) I I) I ?_
 refine Zh <| Zi <| Zj <| Zj <| Zd <| Z1 I (Zl (v := (.sl 14 (a0.map Z8) false)) I I) I <| Z1 I (Z2d (l := a0) (enc := Z8) I s37 I) I <| Z1 I (Zl (v := (.int .i64 0)) I I) I ?_
 refine Zh <| Zi <| AWp.ghost (st' := ⟨[(1, (.clo 94 [(.ip [(.sl 14 (a100.map Z8) false)])])), (5, (.vs 5)), (8, (.sl 14 (a0.map Z8) false)), (9, (.int .i64 (a0.length : Int))), (10, (.int .i64 0))], [(5, (.vec 14 (List.map Z8 ([] : List Zg))))]⟩) (fun a w h => (Z1g ⟨[(1, (.clo 94 [(.ip [(.sl 14 (a100.map Z8) false)])])), (5, (.vs 5)), (8, (.sl 14 (a0.map Z8) false)), (9, (.int .i64 (a0.length : Int))), (10, (.int .i64 0))], [(5, (.vec 14 (List.map Z8 ([] : List Zg))))]⟩ (Z5k (k := 5) (m := 5) (sz := 14) I I a w (Z1g ⟨[(5, (.sl 14 [] true)), (1, (.clo 94 [(.ip [(.sl 14 (a100.map Z8) false)])])), (8, (.sl 14 (a0.map Z8) false)), (9, (.int .i64 (a0.length : Int))), (10, (.int .i64 0))], []⟩ h ⟨rfl, rfl, rfl, rfl, rfl, trivial⟩ trivial)) ⟨rfl, rfl, rfl, rfl, rfl, trivial⟩ ⟨rfl, trivial⟩)) <| AWp.weaken (st' := ⟨[(1, (.clo 94 [(.ip [(.sl 14 (a100.map Z8) false)])])), (5, (.vs 5)), (8, (.sl 14 (a0.map Z8) false)), (9, (.int .i64 (a0.length : Int))), (10, (.int .i64 0))], [(5, (.vec 14 (List.map Z8 [])))]⟩) ⟨rfl, rfl, rfl, rfl, rfl, trivial⟩ ⟨rfl, trivial⟩ ?_
 refine Z1o (V := Int × (List Zg)) (X := (List Zg)) (lp := fun k v => Z8v K a0 a100 (Zbb K) k v.1 v.2 = some r) (sh := fun v => ⟨[(1, (.clo 94 [(.ip [(.sl 14 (a100.map Z8) false)])])), (5, (.vs 5)), (8, (.sl 14 (a0.map Z8) false)), (9, (.int .i64 (a0.length : Int))), (10, (.int .i64 v.1))], [(5, (.vec 14 (List.map Z8 v.2)))]⟩) (x := fun v => Zbb K v = some r) (shx := fun v => ⟨[(5, (.vs 5))], [(5, (.vec 14 (List.map Z8 v)))]⟩) (k := K) (v := (0, [])) h ?_ ?_
 ·intro v h
  revert h
  revert v
  intro v4 h
  try dsimp only at h ⊢
  unfold Zbb at h
  refine Zi <| Zj <| Zd <| Z1 I (Zl (v := (.vs 5)) I I) I <| Z1 I (Zm (v := (.vs 5)) I I) I <| Zh <| Zi <| Z1c ?_
  refine At.ghost (st' := ⟨[(4, (.sl 14 (v4.map Z8) false))], []⟩) (fun a w h => (Z1g ⟨[(4, (.sl 14 (v4.map Z8) false))], []⟩ (Z2i (m := 5) (sz := 14) (es := (List.map Z8 v4)) a w (Z1g ⟨[(4, (.vs 5))], [(5, (.vec 14 (List.map Z8 v4)))]⟩ h ⟨rfl, trivial⟩ ⟨rfl, trivial⟩)) ⟨rfl, trivial⟩ trivial)) ?_
  have h := Option.some.inj h
  subst h
  refine (hret _ ?_).1
  exact ⟨[(.sl 14 (v4.map Z8) false)], ⟨rfl, trivial⟩, rfl, trivial⟩
 ·intro N k3 v h IH3 J3
  obtain ⟨v1, v2⟩ := v
  try dsimp only at h IH3 J3 ⊢
  cases k3 with
  | zero => cases h
  | succ k3 =>
   rw [Z8v] at h
   refine Zj <| Zd <| Z1 I (Z1x (k := .i64) (a := v1) (b := (a0.length : Int)) (c := (decide (v1 < (a0.length : Int)))) I I I I) I <| Zh <| Zi <| Zj ?_
   have hif := Z1w h
   refine Z16 I (fun hc => ?_) (fun hc => ?_)
   ·have h := hif.1 hc
    refine Z1a <| Zi <| Zj <| AWp.block <| Zj <| Zd <| Z1 I (Zl (v := (.int .i64 v1)) I I) I ?_
    have ⟨hg8, h⟩ := Z14 h
    refine Z1 I (Z1s (k := .i64) (l := a0) (enc := Z8) (z := Z2) (n := v1) (cs := (Z8 (a0.getD v1.toNat Z2)).cells) (full := false) I s37 I I hg8 I) I <| Z1 I (Z2h (cs := (Z8 (a0.getD v1.toNat Z2)).cells) (vs := (Z8 (a0.getD v1.toNat Z2)).cells) I a56 I I I) I <| Z1 I (Z21 (cs := [(.int .i64 0), (.int .i64 0), (.int .i64 0), (.int .i64 0), (.int .i64 0), (.int .i64 0), (.str []), (.str []), (.str []), (.int .i64 0), (.int .i64 0), (.bool false), (.sl 4 [] false), (.sl 2 [] false)]) I z56 I I I) I <| Z1 I (Zm (v := (.int .i64 v1)) I I) I <| Z1 I (Z1b (cs := [(.int .i64 0), (.int .i64 0), (.int .i64 0), (.int .i64 0), (.int .i64 0), (.int .i64 0), (.str []), (.str []), (.str []), (.int .i64 0), (.int .i64 0), (.bool false), (.sl 4 [] false), (.sl 2 [] false)]) (vs := (Z8 (a0.getD v1.toNat Z2)).cells) (ds := (Z8 (a0.getD v1.toNat Z2)).cells) (v := (Z8 (a0.getD v1.toNat Z2))) sz56 I I I I I I I I) I <| Zh <| Zi <| Zj ?_
    refine Zd <| Z1 I (Zl (v := (.clo 94 [(.ip [(.sl 14 (a100.map Z8) false)])])) I I) I <| Z1 I (Zl (v := (.int .i64 v1)) I I) I ?_
    have ⟨v10, hv10, h⟩ := Z1d h
    refine Z1 I (Z1e (ar := [(.int .i64 v1)]) (caps := [(.ip [(.sl 14 (a100.map Z8) false)])]) Tryz.call94 (F94_ok K v1 a100 v10 hv10) I I ⟨rfl, trivial⟩ I) I <| Zh <| Zi ?_
    refine AWp.join (V := (List Zg)) (lp := fun v => Z94 K (Z8v K a0 a100 (Zbb K) k3) v1 v = some r) (sh := fun v => ⟨[(1, (.clo 94 [(.ip [(.sl 14 (a100.map Z8) false)])])), (5, (.vs 5)), (8, (.sl 14 (a0.map Z8) false)), (9, (.int .i64 (a0.length : Int))), (10, (.int .i64 v1))], [(5, (.vec 14 (List.map Z8 v)))]⟩) ?_ ?_
    ·intro v h
     revert h
     revert v
     intro v11 h
     try dsimp only at h ⊢
     unfold Z94 at h
     refine At.end <| Zi <| Zd <| Z1 I (Z1k (k := .i64) (a := v1) (b := 1) (c := (IntKind.i64.wrap (v1 + 1))) I I I I) I <| Z1 I (Zl (v := (.int .i64 (IntKind.i64.wrap (v1 + 1)))) I I) I <| Zh ?_
     exact Z13 (st' := ⟨[(1, (.clo 94 [(.ip [(.sl 14 (a100.map Z8) false)])])), (5, (.vs 5)), (8, (.sl 14 (a0.map Z8) false)), (9, (.int .i64 (a0.length : Int))), (10, (.int .i64 (IntKind.i64.wrap (v1 + 1))))], [(5, (.vec 14 (List.map Z8 v11)))]⟩) ⟨rfl, rfl, rfl, rfl, rfl, trivial⟩ ⟨rfl, trivial⟩ (IH3 _ ((IntKind.i64.wrap (v1 + 1)), v11) (Nat.lt_succ_self _) h)
    ·intro J12
     have hif := Z1w h
     refine Z16 I (fun hc => ?_) (fun hc => ?_)
     ·have h := hif.1 hc
      refine Zd <| Z1 I (Zl (v := (.vs 5)) I I) I <| Z1 I (Z1n (cs := (Z8 (a0.getD v1.toNat Z2)).cells) (vs := (Z8 (a0.getD v1.toNat Z2)).cells) I a56 I I I I) I ?_
      have ⟨v14, hv14, h⟩ := Z1d h
      refine Z1 I (Z1e (ar := [(Z8 (a0.getD v1.toNat Z2))]) (caps := []) Tryz.call139 (F139_ok K (a0.getD v1.toNat Z2) v14 hv14) I I ⟨rfl, trivial⟩ I) I <| Z1 I (Z1l (vs := [(Z8 v14)]) (enc := Z8) (l := [v14]) I el37 I I ⟨rfl, trivial⟩ I Z2v I I I I) I ?_
      have ⟨hg15, h⟩ := Z14 h
      refine Z1 I (Z2t (m := 5) (enc := Z8) (l := v2) (l' := [v14]) (src := (.vs 21)) (rd := [(21, (.vec 14 (List.map Z8 [v14])))]) I I el37 I u37 I I I I (oneRead I) Z2v hg15) I <| Z1 I (Zm (v := (.vs 5)) I I) I <| Zh ?_
      exact Z13 (st' := ⟨[(1, (.clo 94 [(.ip [(.sl 14 (a100.map Z8) false)])])), (5, (.vs 5)), (8, (.sl 14 (a0.map Z8) false)), (9, (.int .i64 (a0.length : Int))), (10, (.int .i64 v1))], [(5, (.vec 14 (List.map Z8 (v2 ++ [v14]))))]⟩) ⟨rfl, rfl, rfl, rfl, rfl, trivial⟩ ⟨rfl, trivial⟩ (J12 (v2 ++ [v14]) h)
     ·have h := hif.2 hc
      refine Z1a ?_
      exact Z13 (st' := ⟨[(1, (.clo 94 [(.ip [(.sl 14 (a100.map Z8) false)])])), (5, (.vs 5)), (8, (.sl 14 (a0.map Z8) false)), (9, (.int .i64 (a0.length : Int))), (10, (.int .i64 v1))], [(5, (.vec 14 (List.map Z8 v2)))]⟩) ⟨rfl, rfl, rfl, rfl, rfl, trivial⟩ ⟨rfl, trivial⟩ (J12 v2 h)
   ·have h := hif.2 hc
    refine AWp.exit <| At.thru ?_
    exact Z13 (st' := ⟨[(5, (.vs 5))], [(5, (.vec 14 (List.map Z8 v2)))]⟩) ⟨rfl, trivial⟩ ⟨rfl, trivial⟩ (J3 v2 h)
def F47 (K : Nat) (a0 : (List Zg)) : Option ((List Zg)) :=
 (F92 K a0).bind fun v2 =>
  (F93 K v2 v2).bind fun v4 =>
   some v4
theorem F47_ok (K : Nat) (a0 : (List Zg)) (r : (List Zg)) (h : F47 K a0 = some r) : ACall P 47 ⟨[(.sl 14 (a0.map Z8) false)], [], (.sl 14 (r.map Z8) false), [], []⟩ := by
 refine Z1q Tryz.func47 Tryz.results47 rfl Tryz.ntmps47 rfl rfl rfl ?_
 intro E Q hP hN hro hret
 obtain ⟨P', nt', w0, F0, p0, S0, β0, ro0⟩ := E
 simp only at hP hN
 subst hP hN
 dsimp only [argT]
 unfold F47 at h
 refine Zj <| Zd <| Z1 I (Zm (v := (.sl 14 [] false)) I I) I <| Zh <| Zi <| Zj <| Zd <| Z1 I (Zl (v := (.sl 14 (a0.map Z8) false)) I I) I ?_
 have ⟨v2, hv2, h⟩ := Z1d h
 refine Z1 I (Z1e (ar := [(.sl 14 (a0.map Z8) false)]) (caps := []) Tryz.call92 (F92_ok K a0 v2 hv2) I I ⟨rfl, trivial⟩ I) I <| Z1 I (Z21 (cs := [(.sl 14 [] true)]) I z37f I I I) I <| Z1 I (Z1b (cs := [(.sl 14 [] true)]) (vs := [(.sl 14 (v2.map Z8) false)]) (ds := [(.sl 14 (v2.map Z8) false)]) (v := (.sl 14 (v2.map Z8) false)) sz37 I I I I I I I I) I <| Zh <| Zi <| Zj <| Zd <| Z1 I (Zy (cs := [(.sl 14 (v2.map Z8) false)]) (v := (.sl 14 (v2.map Z8) false)) I o37 I I I) I ?_
 refine Z1 I (Zaa (vs := [(.ptr 3 0)]) I ⟨rfl, trivial⟩) I <| AOps.ghost (st' := ⟨[(2, (.sl 14 [] false)), (6, (.sl 14 (v2.map Z8) false)), (7, (.clo 94 [(.ip [(.sl 14 (v2.map Z8) false)])]))], []⟩) (fun a w h => (Z1g ⟨[(2, (.sl 14 [] false)), (6, (.sl 14 (v2.map Z8) false)), (7, (.clo 94 [(.ip [(.sl 14 (v2.map Z8) false)])]))], []⟩ (Z3o (m := 3) (cs := [(.sl 14 (v2.map Z8) false)]) I a w (Z1g ⟨[(2, (.sl 14 [] false)), (6, (.sl 14 (v2.map Z8) false)), (7, (.clo 94 [(.ptr 3 0)]))], [(3, (.box [(.sl 14 (v2.map Z8) false)]))]⟩ h ⟨rfl, rfl, rfl, trivial⟩ ⟨rfl, trivial⟩)) ⟨rfl, rfl, rfl, trivial⟩ trivial)) ?_
 have ⟨v4, hv4, h⟩ := Z1d h
 refine Z1 I (Z1e (ar := [(.sl 14 (v2.map Z8) false), (.clo 94 [(.ip [(.sl 14 (v2.map Z8) false)])])]) (caps := []) Tryz.call93 (F93_ok K v2 v2 v4 hv4) I I ⟨rfl, rfl, trivial⟩ I) I <| Z1 I (Zm (v := (.sl 14 (v4.map Z8) false)) I I) I <| Zh <| Zi <| Z1c ?_
 have h := Option.some.inj h
 subst h
 refine (hret _ ?_).1
 exact ⟨[(.sl 14 (v4.map Z8) false)], ⟨rfl, trivial⟩, rfl, trivial⟩
def F49 (K : Nat) (a0 : Bool) (a1 : Int) : Option (Int) :=
 if a0 = true then
  some a1
 else
  some 0
theorem F49_ok (K : Nat) (a0 : Bool) (a1 : Int) (r : Int) (h : F49 K a0 a1 = some r) : ACall P 49 ⟨[(.bool a0), (.int .i64 a1)], [], (.int .i64 r), [], []⟩ := by
 refine Z1q Tryz.func49 Tryz.results49 rfl Tryz.ntmps49 rfl rfl rfl ?_
 intro E Q hP hN hro hret
 obtain ⟨P', nt', w0, F0, p0, S0, β0, ro0⟩ := E
 simp only at hP hN
 subst hP hN
 dsimp only [argT]
 unfold F49 at h
 refine Zj <| Zd <| Z1 I (Zm (v := (.int .i64 0)) I I) I <| Zh <| Zi <| Zj <| Zj <| Zd ?_
 refine Z1 I (Zl (v := (.bool a0)) I I) I <| Zh <| Zi ?_
 have hif := Z1w h
 refine Z16 I (fun hc => ?_) (fun hc => ?_)
 ·have h := hif.1 hc
  refine Zj <| Zd <| Z1 I (Zl (v := (.int .i64 a1)) I I) I <| Z1 I (Zm (v := (.int .i64 a1)) I I) I <| Zh <| Zi <| Z1c <| Z18 ?_
  have h := Option.some.inj h
  subst h
  refine (hret _ ?_).1
  exact ⟨[(.int .i64 a1)], ⟨rfl, trivial⟩, rfl, trivial⟩
 ·have h := hif.2 hc
  refine Z1a <| Zi <| Zj <| Zd <| Z1 I (Zm (v := (.int .i64 0)) I I) I <| Zh <| Zi <| Z1c ?_
  have h := Option.some.inj h
  subst h
  refine (hret _ ?_).1
  exact ⟨[(.int .i64 0)], ⟨rfl, trivial⟩, rfl, trivial⟩
def F96 (K : Nat) (a0 : Int) (a1 : Int) (a2 : Bool) (a3 : (List (Str × Zf))) (a4 : (List (Zt × Zk))) : Option (Int × Bool) :=
 if (decide (a0 > (IntKind.i64.wrap (1152921504606846976 - a1)))) = true then
  some (1152921504606846976, true)
 else
  some ((IntKind.i64.wrap (a0 + a1)), a2)
theorem Zck (K : Nat) (a0 : Int) (a1 : Int) (a2 : Bool) (a3 : (List (Str × Zf))) (a4 : (List (Zt × Zk))) (r : Int × Bool) (h : F96 K a0 a1 a2 a3 a4 = some r) : ACall P 96 ⟨[(.ptr 2000 0), (.int .i64 a0), (.int .i64 a1)], [(2000, (.box [(.map 2001), (.map 2002), (.bool a2)])), (2001, (.map (Z19 Z1z Z3 a3))), (2002, (.map (Z19 Zp Z6 a4)))], (.int .i64 r.1), [(2000, (.box [(.map 2001), (.map 2002), (.bool r.2)])), (2001, (.map (Z19 Z1z Z3 a3))), (2002, (.map (Z19 Zp Z6 a4)))], []⟩ := by
 refine Z1q Tryz.func96 Tryz.results96 rfl Tryz.ntmps96 rfl rfl rfl ?_
 intro E Q hP hN hro hret
 obtain ⟨P', nt', w0, F0, p0, S0, β0, ro0⟩ := E
 simp only at hP hN
 subst hP hN
 dsimp only [argT]
 unfold F96 at h
 refine Zj <| Zd <| Z1 I (Zm (v := (.int .i64 0)) I I) I <| Zh <| Zi <| Zj <| Zj <| Zd ?_
 refine Z1 I (Zl (v := (.int .i64 a0)) I I) I <| Z1 I (Zl (v := (.int .i64 a1)) I I) I <| Z1 I (Z1k (k := .i64) (a := 1152921504606846976) (b := a1) (c := (IntKind.i64.wrap (1152921504606846976 - a1))) I I I I) I <| Z1 I (Z1x (k := .i64) (a := a0) (b := (IntKind.i64.wrap (1152921504606846976 - a1))) (c := (decide (a0 > (IntKind.i64.wrap (1152921504606846976 - a1))))) I I I I) I <| Zh <| Zi ?_
 have hif := Z1w h
 refine Z16 I (fun hc => ?_) (fun hc => ?_)
 ·have h := hif.1 hc
  refine Zj <| Zd <| Z1 I (Zl (v := (.ptr 2000 0)) I I) I <| Z1 I (Z5t (v := (.ptr 2000 0)) I I I) I <| Z1 I (Zr (m := 2000) (o := 0) I f181_2 I I) I <| Z1 I (Z1b (cs := [(.map 2001), (.map 2002), (.bool a2)]) (vs := [(.bool true)]) (ds := [(.map 2001), (.map 2002), (.bool true)]) (v := (.bool true)) sz4 I I I I I I I I) I <| Zh <| Zi ?_
  refine Zj <| Zd <| Z1 I (Zm (v := (.int .i64 1152921504606846976)) I I) I <| Zh <| Zi <| Z1c <| Z18 ?_
  have h := Option.some.inj h
  subst h
  refine (hret _ ?_).1
  exact ⟨[(.int .i64 1152921504606846976)], ⟨rfl, trivial⟩, rfl, ⟨rfl, rfl, rfl, trivial⟩⟩
 ·have h := hif.2 hc
  refine Z1a <| Zi <| Zj <| Zd <| Z1 I (Zl (v := (.int .i64 a0)) I I) I <| Z1 I (Zl (v := (.int .i64 a1)) I I) I <| Z1 I (Z1k (k := .i64) (a := a0) (b := a1) (c := (IntKind.i64.wrap (a0 + a1))) I I I I) I <| Z1 I (Zm (v := (.int .i64 (IntKind.i64.wrap (a0 + a1)))) I I) I ?_
  refine Zh <| Zi <| Z1c ?_
  have h := Option.some.inj h
  subst h
  refine (hret _ ?_).1
  exact ⟨[(.int .i64 (IntKind.i64.wrap (a0 + a1)))], ⟨rfl, trivial⟩, rfl, ⟨rfl, rfl, rfl, trivial⟩⟩
def F48 (K : Nat) (a0 : Zf) (a1 : Bool) (a2 : (List (Str × Zf))) (a3 : (List (Zt × Zk))) : Option (Bool × (List (Str × Zf))) :=
 (F96 K ((mget Z3w a0.Name a2).getD Z9).Spans a0.Spans a1 a2 a3).bind fun v4 =>
  (F96 K ((mget Z3w a0.Name a2).getD Z9).Errors a0.Errors v4.2 a2 a3).bind fun v6 =>
   (F96 K ((mget Z3w a0.Name a2).getD Z9).Roots a0.Roots v6.2 a2 a3).bind fun v8 =>
    some (v8.2, (mput Z3w a0.Name (⟨a0.Name, v4.1, v6.1, v8.1⟩ : Zf) a2))
theorem F48_ok (K : Nat) (a0 : Zf) (a1 : Bool) (a2 : (List (Str × Zf))) (a3 : (List (Zt × Zk))) (r : Bool × (List (Str × Zf))) (h : F48 K a0 a1 a2 a3 = some r) : ACall P 48 ⟨[(.ptr 2000 0), (Z3 a0)], [(2000, (.box [(.map 2001), (.map 2002), (.bool a1)])), (2001, (.map (Z19 Z1z Z3 a2))), (2002, (.map (Z19 Zp Z6 a3)))], (.tup []), [(2000, (.box [(.map 2001), (.map 2002), (.bool r.1)])), (2001, (.map (Z19 Z1z Z3 r.2))), (2002, (.map (Z19 Zp Z6 a3)))], []⟩ := by
 refine Z1q Tryz.func48 Tryz.results48 rfl Tryz.ntmps48 rfl rfl rfl ?_
 intro E Q hP hN hro hret
 obtain ⟨P', nt', w0, F0, p0, S0, β0, ro0⟩ := E
 simp only at hP hN
 subst hP hN
 dsimp only [argT]
 unfold F48 at h
 refine Zj <| Zd <| Z1 I (Z2o (v := (Z3 a0)) (cs := (Z3 a0).cells) I I I I I) I <| Zh <| Zi <| Zj <| Z1r mixed <| Zb 0 I (Zl (v := (.ptr 2000 0)) I I) ?_
 refine Zb 1 I (Z5t (v := (.ptr 2000 0)) I I I) <| Zb 2 I (Zr (m := 2000) (o := 0) I f181_0 I I) <| Zb 3 I (Z8m (cs := [(.map 2001), (.map 2002), (.bool a1)]) (v := (.map 2001)) I o178 I I I) <| Zb 4 I (Zr (m := 3) (o := 0) I Z8u I I) <| Zb 5 I (Zy (cs := (Z3 a0).cells) (v := (.str a0.Name)) I o9 I I I) <| Zb 6 I (Zdg (l := a2) (a := a0.Name) (kv := (.str a0.Name)) I mt178 I I (.inl I) I I) <| Zb 7 I (Z21 (cs := [(.str []), (.int .i64 0), (.int .i64 0), (.int .i64 0)]) I z68 I I I) <| Zb 8 I (Z1b (cs := [(.str []), (.int .i64 0), (.int .i64 0), (.int .i64 0)]) (vs := (Z3 ((mget Z3w a0.Name a2).getD Z9)).cells) (ds := (Z3 ((mget Z3w a0.Name a2).getD Z9)).cells) (v := (Z3 ((mget Z3w a0.Name a2).getD Z9))) sz68 I I I I I I I I) ?_
 refine Z1t (by kernel_rfl) I <| Zi <| Z1r mixed <| Zb 0 I (Zl (v := (.ptr 2000 0)) I I) <| Zb 1 I (Z5t (v := (.ptr 2000 0)) I I I) <| Zb 2 I (Zr (m := 2000) (o := 0) I f181_0 I I) <| Zb 3 I (Z8m (cs := [(.map 2001), (.map 2002), (.bool a1)]) (v := (.map 2001)) I o178 I I I) <| Zb 4 I (Zr (m := 3) (o := 0) I Z8u I I) ?_
 refine Zb 5 I (Zy (cs := (Z3 a0).cells) (v := (.str a0.Name)) I o9 I I I) <| Zb 6 I (Zr (m := 3) (o := 0) I Z8u I I) <| Zb 7 I (Zy (cs := (Z3 a0).cells) (v := (.str a0.Name)) I o9 I I I) <| Zb 8 I (Zl (v := (.ptr 2000 0)) I I) <| Zb 9 I (Zr (m := 4) (o := 0) I Zce I I) <| Zb 10 I (Zy (cs := (Z3 ((mget Z3w a0.Name a2).getD Z9)).cells) (v := (.int .i64 ((mget Z3w a0.Name a2).getD Z9).Spans)) I o3 I I I) <| Zb 11 I (Zr (m := 3) (o := 0) I Zce I I) <| Zb 12 I (Zy (cs := (Z3 a0).cells) (v := (.int .i64 a0.Spans)) I o3 I I I) ?_
 have ⟨v4, hv4, h⟩ := Z1d h
 refine Zb 13 I (Z37 (d := some 25) (c := ⟨[(.ptr 2000 0), (.int .i64 ((mget Z3w a0.Name a2).getD Z9).Spans), (.int .i64 a0.Spans)] ++ [], [(2000, (.box [(.map 2001), (.map 2002), (.bool a1)])), (2001, (.map (Z19 Z1z Z3 a2))), (2002, (.map (Z19 Zp Z6 a3)))], (.int .i64 v4.1), [(2000, (.box [(.map 2001), (.map 2002), (.bool v4.2)])), (2001, (.map (Z19 Z1z Z3 a2))), (2002, (.map (Z19 Zp Z6 a3)))], []⟩) (ar := [(.ptr 2000 0), (.int .i64 ((mget Z3w a0.Name a2).getD Z9).Spans), (.int .i64 a0.Spans)]) (caps := []) (news := []) (forg := []) Tryz.call96 (Zck K ((mget Z3w a0.Name a2).getD Z9).Spans a0.Spans a1 a2 a3 v4 hv4) I I ⟨rfl, rfl, rfl, trivial⟩ I ⟨rfl, rfl, rfl, trivial⟩ I) <| Zb 14 I (Zl (v := (.ptr 2000 0)) I I) <| Zb 15 I (Zr (m := 4) (o := 0) I f68_2 I I) <| Zb 16 I (Zy (cs := (Z3 ((mget Z3w a0.Name a2).getD Z9)).cells) (v := (.int .i64 ((mget Z3w a0.Name a2).getD Z9).Errors)) I o3 I I I) <| Zb 17 I (Zr (m := 3) (o := 0) I f68_2 I I) <| Zb 18 I (Zy (cs := (Z3 a0).cells) (v := (.int .i64 a0.Errors)) I o3 I I I) ?_
 have ⟨v6, hv6, h⟩ := Z1d h
 refine Zb 19 I (Z37 (d := some 31) (c := ⟨[(.ptr 2000 0), (.int .i64 ((mget Z3w a0.Name a2).getD Z9).Errors), (.int .i64 a0.Errors)] ++ [], [(2000, (.box [(.map 2001), (.map 2002), (.bool v4.2)])), (2001, (.map (Z19 Z1z Z3 a2))), (2002, (.map (Z19 Zp Z6 a3)))], (.int .i64 v6.1), [(2000, (.box [(.map 2001), (.map 2002), (.bool v6.2)])), (2001, (.map (Z19 Z1z Z3 a2))), (2002, (.map (Z19 Zp Z6 a3)))], []⟩) (ar := [(.ptr 2000 0), (.int .i64 ((mget Z3w a0.Name a2).getD Z9).Errors), (.int .i64 a0.Errors)]) (caps := []) (news := []) (forg := []) Tryz.call96 (Zck K ((mget Z3w a0.Name a2).getD Z9).Errors a0.Errors v4.2 a2 a3 v6 hv6) I I ⟨rfl, rfl, rfl, trivial⟩ I ⟨rfl, rfl, rfl, trivial⟩ I) <| Zb 20 I (Zl (v := (.ptr 2000 0)) I I) <| Zb 21 I (Zr (m := 4) (o := 0) I f68_3 I I) <| Zb 22 I (Zy (cs := (Z3 ((mget Z3w a0.Name a2).getD Z9)).cells) (v := (.int .i64 ((mget Z3w a0.Name a2).getD Z9).Roots)) I o3 I I I) <| Zb 23 I (Zr (m := 3) (o := 0) I f68_3 I I) <| Zb 24 I (Zy (cs := (Z3 a0).cells) (v := (.int .i64 a0.Roots)) I o3 I I I) ?_
 have ⟨v8, hv8, h⟩ := Z1d h
 refine Zb 25 I (Z37 (d := some 37) (c := ⟨[(.ptr 2000 0), (.int .i64 ((mget Z3w a0.Name a2).getD Z9).Roots), (.int .i64 a0.Roots)] ++ [], [(2000, (.box [(.map 2001), (.map 2002), (.bool v6.2)])), (2001, (.map (Z19 Z1z Z3 a2))), (2002, (.map (Z19 Zp Z6 a3)))], (.int .i64 v8.1), [(2000, (.box [(.map 2001), (.map 2002), (.bool v8.2)])), (2001, (.map (Z19 Z1z Z3 a2))), (2002, (.map (Z19 Zp Z6 a3)))], []⟩) (ar := [(.ptr 2000 0), (.int .i64 ((mget Z3w a0.Name a2).getD Z9).Roots), (.int .i64 a0.Roots)]) (caps := []) (news := []) (forg := []) Tryz.call96 (Zck K ((mget Z3w a0.Name a2).getD Z9).Roots a0.Roots v6.2 a2 a3 v8 hv8) I I ⟨rfl, rfl, rfl, trivial⟩ I ⟨rfl, rfl, rfl, trivial⟩ I) <| Zb 26 I (Z29 (vs := [(0, (.str a0.Name)), (1, (.int .i64 v4.1)), (2, (.int .i64 v6.1)), (3, (.int .i64 v8.1))]) (cs := [(.str a0.Name), (.int .i64 v4.1), (.int .i64 v6.1), (.int .i64 v8.1)]) I st68 ⟨rfl, rfl, rfl, rfl, rfl, rfl, rfl, rfl, trivial⟩ I) <| Zb 27 I (Z6e (l := a2) (a := a0.Name) (b := (⟨a0.Name, v4.1, v6.1, v8.1⟩ : Zf)) (kv := (.str a0.Name)) (vv := (.ag [(.str a0.Name), (.int .i64 v4.1), (.int .i64 v6.1), (.int .i64 v8.1)])) mt178 I I I I I I) <| Z1t (by kernel_rfl) I ?_
 have h := Option.some.inj h
 subst h
 refine (hret _ ?_).2
 exact ⟨[], trivial, rfl, ⟨rfl, rfl, rfl, trivial⟩⟩
def F51 (K : Nat) (a0 : Zg) : Option (Int) :=
 some (IntKind.i64.wrap (a0.End - a0.Start))
theorem F51_ok (K : Nat) (a0 : Zg) (r : Int) (h : F51 K a0 = some r) : ACall P 51 ⟨[(Z8 a0)], [], (.int .i64 r), [], []⟩ := by
 refine Z1q Tryz.func51 Tryz.results51 rfl Tryz.ntmps51 rfl rfl rfl ?_
 intro E Q hP hN hro hret
 obtain ⟨P', nt', w0, F0, p0, S0, β0, ro0⟩ := E
 simp only at hP hN
 subst hP hN
 dsimp only [argT]
 unfold F51 at h
 refine Zj <| Zd <| Z1 I (Z2o (v := (Z8 a0)) (cs := (Z8 a0).cells) I I I I I) I <| Z1 I (Zm (v := (.int .i64 0)) I I) I <| Zh <| Zi <| Zj <| Zd ?_
 refine Z1 I (Zr (m := 1) (o := 0) I f56_10 I I) I <| Z1 I (Zy (cs := (Z8 a0).cells) (v := (.int .i64 a0.End)) I o3 I I I) I <| Z1 I (Zr (m := 1) (o := 0) I f56_9 I I) I <| Z1 I (Zy (cs := (Z8 a0).cells) (v := (.int .i64 a0.Start)) I o3 I I I) I <| Z1 I (Z1k (k := .i64) (a := a0.End) (b := a0.Start) (c := (IntKind.i64.wrap (a0.End - a0.Start))) I I I I) I <| Z1 I (Zm (v := (.int .i64 (IntKind.i64.wrap (a0.End - a0.Start)))) I I) I <| Zh <| Zi ?_
 refine Z1c ?_
 have h := Option.some.inj h
 subst h
 refine (hret _ ?_).1
 exact ⟨[(.int .i64 (IntKind.i64.wrap (a0.End - a0.Start)))], ⟨rfl, trivial⟩, rfl, trivial⟩
def F50 (K : Nat) (a0 : Zk) (a1 : Bool) (a2 : (List (Str × Zf))) (a3 : (List (Zt × Zk))) : Option (Bool × (List (Zt × Zk))) :=
 (F96 K ((mget Z1j (⟨a0.Caller, a0.Callee⟩ : Zt) a3).getD Za).Count a0.Count a1 a2 a3).bind fun v4 =>
  (F96 K ((mget Z1j (⟨a0.Caller, a0.Callee⟩ : Zt) a3).getD Za).Errors a0.Errors v4.2 a2 a3).bind fun v6 =>
   (F96 K ((mget Z1j (⟨a0.Caller, a0.Callee⟩ : Zt) a3).getD Za).Time a0.Time v6.2 a2 a3).bind fun v8 =>
    some (v8.2, (mput Z1j (⟨a0.Caller, a0.Callee⟩ : Zt) (⟨a0.Caller, a0.Callee, v4.1, v6.1, v8.1⟩ : Zk) a3))
theorem F50_ok (K : Nat) (a0 : Zk) (a1 : Bool) (a2 : (List (Str × Zf))) (a3 : (List (Zt × Zk))) (r : Bool × (List (Zt × Zk))) (h : F50 K a0 a1 a2 a3 = some r) : ACall P 50 ⟨[(.ptr 2000 0), (Z6 a0)], [(2000, (.box [(.map 2001), (.map 2002), (.bool a1)])), (2001, (.map (Z19 Z1z Z3 a2))), (2002, (.map (Z19 Zp Z6 a3)))], (.tup []), [(2000, (.box [(.map 2001), (.map 2002), (.bool r.1)])), (2001, (.map (Z19 Z1z Z3 a2))), (2002, (.map (Z19 Zp Z6 r.2)))], []⟩ := by
 refine Z1q Tryz.func50 Tryz.results50 rfl Tryz.ntmps50 rfl rfl rfl ?_
 intro E Q hP hN hro hret
 obtain ⟨P', nt', w0, F0, p0, S0, β0, ro0⟩ := E
 simp only at hP hN
 subst hP hN
 dsimp only [argT]
 unfold F50 at h
 refine Zj <| Zd <| Z1 I (Z2o (v := (Z6 a0)) (cs := (Z6 a0).cells) I I I I I) I <| Zh <| Zi <| Zj <| Zd <| Z1 I (Zr (m := 3) (o := 0) I Z95 I I) I ?_
 refine Z1 I (Zy (cs := (Z6 a0).cells) (v := (.str a0.Caller)) I o9 I I I) I <| Z1 I (Zr (m := 3) (o := 0) I Z93 I I) I <| Z1 I (Zy (cs := (Z6 a0).cells) (v := (.str a0.Callee)) I o9 I I I) I <| Z1 I (Z29 (vs := [(0, (.str a0.Caller)), (1, (.str a0.Callee))]) (cs := [(.str a0.Caller), (.str a0.Callee)]) I st126 ⟨rfl, rfl, rfl, rfl, trivial⟩ I) I <| Z1 I (Z21 (cs := [(.str []), (.str [])]) I z126 I I I) I <| Z1 I (Z1b (cs := [(.str []), (.str [])]) (vs := [(.str a0.Caller), (.str a0.Callee)]) (ds := [(.str a0.Caller), (.str a0.Callee)]) (v := (.ag [(.str a0.Caller), (.str a0.Callee)])) sz126 I I I I I I I I) I <| Zh <| Zi ?_
 refine Zj <| Z1r mixed <| Zb 0 I (Zl (v := (.ptr 2000 0)) I I) <| Zb 1 I (Z5t (v := (.ptr 2000 0)) I I I) <| Zb 2 I (Zr (m := 2000) (o := 0) I f181_1 I I) <| Zb 3 I (Z8m (cs := [(.map 2001), (.map 2002), (.bool a1)]) (v := (.map 2002)) I o179 I I I) <| Zb 4 I (Z1n (cs := [(.str a0.Caller), (.str a0.Callee)]) (vs := [(.str a0.Caller), (.str a0.Callee)]) I a126 I I I I) <| Zb 5 I (Zdg (l := a3) (a := (⟨a0.Caller, a0.Callee⟩ : Zt)) (kv := (.ag [(.str a0.Caller), (.str a0.Callee)])) I mt179 I I (.inl I) I I) ?_
 refine Zb 6 I (Z21 (cs := [(.str []), (.str []), (.int .i64 0), (.int .i64 0), (.int .i64 0)]) I z88 I I I) <| Zb 7 I (Z1b (cs := [(.str []), (.str []), (.int .i64 0), (.int .i64 0), (.int .i64 0)]) (vs := (Z6 ((mget Z1j (⟨a0.Caller, a0.Callee⟩ : Zt) a3).getD Za)).cells) (ds := (Z6 ((mget Z1j (⟨a0.Caller, a0.Callee⟩ : Zt) a3).getD Za)).cells) (v := (Z6 ((mget Z1j (⟨a0.Caller, a0.Callee⟩ : Zt) a3).getD Za))) sz88 I I I I I I I I) <| Z1t (by kernel_rfl) I <| Zi <| Z1r mixed <| Zb 0 I (Zl (v := (.ptr 2000 0)) I I) <| Zb 1 I (Z5t (v := (.ptr 2000 0)) I I I) <| Zb 2 I (Zr (m := 2000) (o := 0) I f181_1 I I) ?_
 refine Zb 3 I (Z8m (cs := [(.map 2001), (.map 2002), (.bool a1)]) (v := (.map 2002)) I o179 I I I) <| Zb 4 I (Z1n (cs := [(.str a0.Caller), (.str a0.Callee)]) (vs := [(.str a0.Caller), (.str a0.Callee)]) I a126 I I I I) <| Zb 5 I (Zr (m := 3) (o := 0) I Z95 I I) <| Zb 6 I (Zy (cs := (Z6 a0).cells) (v := (.str a0.Caller)) I o9 I I I) <| Zb 7 I (Zr (m := 3) (o := 0) I Z93 I I) <| Zb 8 I (Zy (cs := (Z6 a0).cells) (v := (.str a0.Callee)) I o9 I I I) <| Zb 9 I (Zl (v := (.ptr 2000 0)) I I) <| Zb 10 I (Zr (m := 5) (o := 0) I f88_2 I I) ?_
 refine Zb 11 I (Zy (cs := (Z6 ((mget Z1j (⟨a0.Caller, a0.Callee⟩ : Zt) a3).getD Za)).cells) (v := (.int .i64 ((mget Z1j (⟨a0.Caller, a0.Callee⟩ : Zt) a3).getD Za).Count)) I o3 I I I) <| Zb 12 I (Zr (m := 3) (o := 0) I f88_2 I I) <| Zb 13 I (Zy (cs := (Z6 a0).cells) (v := (.int .i64 a0.Count)) I o3 I I I) ?_
 have ⟨v4, hv4, h⟩ := Z1d h
 refine Zb 14 I (Z37 (d := some 31) (c := ⟨[(.ptr 2000 0), (.int .i64 ((mget Z1j (⟨a0.Caller, a0.Callee⟩ : Zt) a3).getD Za).Count), (.int .i64 a0.Count)] ++ [], [(2000, (.box [(.map 2001), (.map 2002), (.bool a1)])), (2001, (.map (Z19 Z1z Z3 a2))), (2002, (.map (Z19 Zp Z6 a3)))], (.int .i64 v4.1), [(2000, (.box [(.map 2001), (.map 2002), (.bool v4.2)])), (2001, (.map (Z19 Z1z Z3 a2))), (2002, (.map (Z19 Zp Z6 a3)))], []⟩) (ar := [(.ptr 2000 0), (.int .i64 ((mget Z1j (⟨a0.Caller, a0.Callee⟩ : Zt) a3).getD Za).Count), (.int .i64 a0.Count)]) (caps := []) (news := []) (forg := []) Tryz.call96 (Zck K ((mget Z1j (⟨a0.Caller, a0.Callee⟩ : Zt) a3).getD Za).Count a0.Count a1 a2 a3 v4 hv4) I I ⟨rfl, rfl, rfl, trivial⟩ I ⟨rfl, rfl, rfl, trivial⟩ I) <| Zb 15 I (Zl (v := (.ptr 2000 0)) I I) <| Zb 16 I (Zr (m := 5) (o := 0) I f88_3 I I) <| Zb 17 I (Zy (cs := (Z6 ((mget Z1j (⟨a0.Caller, a0.Callee⟩ : Zt) a3).getD Za)).cells) (v := (.int .i64 ((mget Z1j (⟨a0.Caller, a0.Callee⟩ : Zt) a3).getD Za).Errors)) I o3 I I I) <| Zb 18 I (Zr (m := 3) (o := 0) I f88_3 I I) <| Zb 19 I (Zy (cs := (Z6 a0).cells) (v := (.int .i64 a0.Errors)) I o3 I I I) ?_
 have ⟨v6, hv6, h⟩ := Z1d h
 refine Zb 20 I (Z37 (d := some 37) (c := ⟨[(.ptr 2000 0), (.int .i64 ((mget Z1j (⟨a0.Caller, a0.Callee⟩ : Zt) a3).getD Za).Errors), (.int .i64 a0.Errors)] ++ [], [(2000, (.box [(.map 2001), (.map 2002), (.bool v4.2)])), (2001, (.map (Z19 Z1z Z3 a2))), (2002, (.map (Z19 Zp Z6 a3)))], (.int .i64 v6.1), [(2000, (.box [(.map 2001), (.map 2002), (.bool v6.2)])), (2001, (.map (Z19 Z1z Z3 a2))), (2002, (.map (Z19 Zp Z6 a3)))], []⟩) (ar := [(.ptr 2000 0), (.int .i64 ((mget Z1j (⟨a0.Caller, a0.Callee⟩ : Zt) a3).getD Za).Errors), (.int .i64 a0.Errors)]) (caps := []) (news := []) (forg := []) Tryz.call96 (Zck K ((mget Z1j (⟨a0.Caller, a0.Callee⟩ : Zt) a3).getD Za).Errors a0.Errors v4.2 a2 a3 v6 hv6) I I ⟨rfl, rfl, rfl, trivial⟩ I ⟨rfl, rfl, rfl, trivial⟩ I) <| Zb 21 I (Zl (v := (.ptr 2000 0)) I I) <| Zb 22 I (Zr (m := 5) (o := 0) I f88_4 I I) <| Zb 23 I (Zy (cs := (Z6 ((mget Z1j (⟨a0.Caller, a0.Callee⟩ : Zt) a3).getD Za)).cells) (v := (.int .i64 ((mget Z1j (⟨a0.Caller, a0.Callee⟩ : Zt) a3).getD Za).Time)) I o3 I I I) <| Zb 24 I (Zr (m := 3) (o := 0) I f88_4 I I) <| Zb 25 I (Zy (cs := (Z6 a0).cells) (v := (.int .i64 a0.Time)) I o3 I I I) ?_
 have ⟨v8, hv8, h⟩ := Z1d h
 refine Zb 26 I (Z37 (d := some 43) (c := ⟨[(.ptr 2000 0), (.int .i64 ((mget Z1j (⟨a0.Caller, a0.Callee⟩ : Zt) a3).getD Za).Time), (.int .i64 a0.Time)] ++ [], [(2000, (.box [(.map 2001), (.map 2002), (.bool v6.2)])), (2001, (.map (Z19 Z1z Z3 a2))), (2002, (.map (Z19 Zp Z6 a3)))], (.int .i64 v8.1), [(2000, (.box [(.map 2001), (.map 2002), (.bool v8.2)])), (2001, (.map (Z19 Z1z Z3 a2))), (2002, (.map (Z19 Zp Z6 a3)))], []⟩) (ar := [(.ptr 2000 0), (.int .i64 ((mget Z1j (⟨a0.Caller, a0.Callee⟩ : Zt) a3).getD Za).Time), (.int .i64 a0.Time)]) (caps := []) (news := []) (forg := []) Tryz.call96 (Zck K ((mget Z1j (⟨a0.Caller, a0.Callee⟩ : Zt) a3).getD Za).Time a0.Time v6.2 a2 a3 v8 hv8) I I ⟨rfl, rfl, rfl, trivial⟩ I ⟨rfl, rfl, rfl, trivial⟩ I) <| Zb 27 I (Z29 (vs := [(0, (.str a0.Caller)), (1, (.str a0.Callee)), (2, (.int .i64 v4.1)), (3, (.int .i64 v6.1)), (4, (.int .i64 v8.1))]) (cs := [(.str a0.Caller), (.str a0.Callee), (.int .i64 v4.1), (.int .i64 v6.1), (.int .i64 v8.1)]) I st88 ⟨rfl, rfl, rfl, rfl, rfl, rfl, rfl, rfl, rfl, rfl, trivial⟩ I) <| Zb 28 I (Z6e (l := a3) (a := (⟨a0.Caller, a0.Callee⟩ : Zt)) (b := (⟨a0.Caller, a0.Callee, v4.1, v6.1, v8.1⟩ : Zk)) (kv := (.ag [(.str a0.Caller), (.str a0.Callee)])) (vv := (.ag [(.str a0.Caller), (.str a0.Callee), (.int .i64 v4.1), (.int .i64 v6.1), (.int .i64 v8.1)])) mt179 I I I I I I) <| Z1t (by kernel_rfl) I ?_
 have h := Option.some.inj h
 subst h
 refine (hret _ ?_).2
 exact ⟨[], trivial, rfl, ⟨rfl, rfl, rfl, trivial⟩⟩
def F98 (K : Nat) (a0 : Zf) (a1 : Zf) : Option (Int) :=
 (F69 K a0.Name a1.Name).bind fun v2 =>
  some v2
theorem F98_ok (K : Nat) (a0 : Zf) (a1 : Zf) (r : Int) (h : F98 K a0 a1 = some r) : ACall P 98 ⟨[(Z3 a0), (Z3 a1)], [], (.int .i64 r), [], []⟩ := by
 refine Z1q Tryz.func98 Tryz.results98 rfl Tryz.ntmps98 rfl rfl rfl ?_
 intro E Q hP hN hro hret
 obtain ⟨P', nt', w0, F0, p0, S0, β0, ro0⟩ := E
 simp only at hP hN
 subst hP hN
 dsimp only [argT]
 unfold F98 at h
 refine Zj <| Zd <| Z1 I (Z2o (v := (Z3 a0)) (cs := (Z3 a0).cells) I I I I I) I <| Z1 I (Z2o (v := (Z3 a1)) (cs := (Z3 a1).cells) I I I I I) I <| Z1 I (Zm (v := (.int .i64 0)) I I) I <| Zh <| Zi <| Zj ?_
 refine Zd <| Z1 I (Zr (m := 2) (o := 0) I Z8u I I) I <| Z1 I (Zy (cs := (Z3 a0).cells) (v := (.str a0.Name)) I o9 I I I) I <| Z1 I (Zr (m := 3) (o := 0) I Z8u I I) I <| Z1 I (Zy (cs := (Z3 a1).cells) (v := (.str a1.Name)) I o9 I I I) I ?_
 have ⟨v2, hv2, h⟩ := Z1d h
 refine Z1 I (Z1e (ar := [(.str a0.Name), (.str a1.Name)]) (caps := []) Tryz.call69 (Z8i K a0.Name a1.Name v2 hv2) I I ⟨rfl, rfl, trivial⟩ I) I <| Z1 I (Zm (v := (.int .i64 v2)) I I) I <| Zh <| Zi <| Z1c ?_
 have h := Option.some.inj h
 subst h
 refine (hret _ ?_).1
 exact ⟨[(.int .i64 v2)], ⟨rfl, trivial⟩, rfl, trivial⟩
def F59 (K : Nat) (a0 : Zt) (a1 : Zt) : Option (Int) :=
 (F69 K a0.caller a1.caller).bind fun v2 =>
  (F69 K a0.callee a1.callee).bind fun v4 =>
   (F67 K [v2, v4]).bind fun v6 =>
    some v6
theorem F59_ok (K : Nat) (a0 : Zt) (a1 : Zt) (r : Int) (h : F59 K a0 a1 = some r) : ACall P 59 ⟨[(Zp a0), (Zp a1)], [], (.int .i64 r), [], []⟩ := by
 refine Z1q Tryz.func59 Tryz.results59 rfl Tryz.ntmps59 rfl rfl rfl ?_
 intro E Q hP hN hro hret
 obtain ⟨P', nt', w0, F0, p0, S0, β0, ro0⟩ := E
 simp only at hP hN
 subst hP hN
 dsimp only [argT]
 unfold F59 at h
 refine Zj <| Zd <| Z1 I (Z2o (v := (Zp a0)) (cs := (Zp a0).cells) I I I I I) I <| Z1 I (Z2o (v := (Zp a1)) (cs := (Zp a1).cells) I I I I I) I <| Z1 I (Zm (v := (.int .i64 0)) I I) I <| Zh <| Zi <| Zj ?_
 refine Z1r mixed <| Zb 0 I (Zr (m := 2) (o := 0) I f126_0 I I) <| Zb 1 I (Zy (cs := (Zp a0).cells) (v := (.str a0.caller)) I o9 I I I) <| Zb 2 I (Zr (m := 3) (o := 0) I f126_0 I I) <| Zb 3 I (Zy (cs := (Zp a1).cells) (v := (.str a1.caller)) I o9 I I I) ?_
 have ⟨v2, hv2, h⟩ := Z1d h
 refine Zb 4 I (Z1e (ar := [(.str a0.caller), (.str a1.caller)]) (caps := []) Tryz.call69 (Z8i K a0.caller a1.caller v2 hv2) I I ⟨rfl, rfl, trivial⟩ I) <| Zb 5 I (Zr (m := 2) (o := 0) I f126_1 I I) <| Zb 6 I (Zy (cs := (Zp a0).cells) (v := (.str a0.callee)) I o9 I I I) <| Zb 7 I (Zr (m := 3) (o := 0) I f126_1 I I) <| Zb 8 I (Zy (cs := (Zp a1).cells) (v := (.str a1.callee)) I o9 I I I) ?_
 have ⟨v4, hv4, h⟩ := Z1d h
 refine Zb 9 I (Z1e (ar := [(.str a0.callee), (.str a1.callee)]) (caps := []) Tryz.call69 (Z8i K a0.callee a1.callee v4 hv4) I I ⟨rfl, rfl, trivial⟩ I) <| Zb 10 I (Z1l (vs := [(.int .i64 v2), (.int .i64 v4)]) (enc := Z1i) (l := [v2, v4]) I el65 I I ⟨rfl, rfl, trivial⟩ I Z4f I I I I) ?_
 have ⟨v6, hv6, h⟩ := Z1d h
 refine Zb 11 I (Z8o (rd := [(15, (.vec 1 (List.map Z1i [v2, v4])))]) (ar := [(.vs 15)]) (caps := []) Tryz.call67 (F67_ok K [v2, v4] v6 hv6) I I ⟨rfl, trivial⟩ (Z7h ⟨rfl, trivial⟩) I I I) <| Zb 12 I (Zm (v := (.int .i64 v6)) I I) <| Z1t (by kernel_rfl) I <| Zi <| Z1c ?_
 have h := Option.some.inj h
 subst h
 refine (hret _ ?_).1
 exact ⟨[(.int .i64 v6)], ⟨rfl, trivial⟩, rfl, trivial⟩
def F100 (K : Nat) (a0 : Zk) (a1 : Zk) : Option (Int) :=
 (F59 K (⟨a0.Caller, a0.Callee⟩ : Zt) (⟨a1.Caller, a1.Callee⟩ : Zt)).bind fun v2 =>
  some v2
theorem F100_ok (K : Nat) (a0 : Zk) (a1 : Zk) (r : Int) (h : F100 K a0 a1 = some r) : ACall P 100 ⟨[(Z6 a0), (Z6 a1)], [], (.int .i64 r), [], []⟩ := by
 refine Z1q Tryz.func100 Tryz.results100 rfl Tryz.ntmps100 rfl rfl rfl ?_
 intro E Q hP hN hro hret
 obtain ⟨P', nt', w0, F0, p0, S0, β0, ro0⟩ := E
 simp only at hP hN
 subst hP hN
 dsimp only [argT]
 unfold F100 at h
 refine Zj <| Zd <| Z1 I (Z2o (v := (Z6 a0)) (cs := (Z6 a0).cells) I I I I I) I <| Z1 I (Z2o (v := (Z6 a1)) (cs := (Z6 a1).cells) I I I I I) I <| Z1 I (Zm (v := (.int .i64 0)) I I) I <| Zh <| Zi <| Zj ?_
 refine Zd <| Z1 I (Zr (m := 2) (o := 0) I Z95 I I) I <| Z1 I (Zy (cs := (Z6 a0).cells) (v := (.str a0.Caller)) I o9 I I I) I <| Z1 I (Zr (m := 2) (o := 0) I Z93 I I) I <| Z1 I (Zy (cs := (Z6 a0).cells) (v := (.str a0.Callee)) I o9 I I I) I <| Z1 I (Z29 (vs := [(0, (.str a0.Caller)), (1, (.str a0.Callee))]) (cs := [(.str a0.Caller), (.str a0.Callee)]) I st126 ⟨rfl, rfl, rfl, rfl, trivial⟩ I) I <| Z1 I (Zr (m := 3) (o := 0) I Z95 I I) I <| Z1 I (Zy (cs := (Z6 a1).cells) (v := (.str a1.Caller)) I o9 I I I) I ?_
 refine Z1 I (Zr (m := 3) (o := 0) I Z93 I I) I <| Z1 I (Zy (cs := (Z6 a1).cells) (v := (.str a1.Callee)) I o9 I I I) I <| Z1 I (Z29 (vs := [(0, (.str a1.Caller)), (1, (.str a1.Callee))]) (cs := [(.str a1.Caller), (.str a1.Callee)]) I st126 ⟨rfl, rfl, rfl, rfl, trivial⟩ I) I ?_
 have ⟨v2, hv2, h⟩ := Z1d h
 refine Z1 I (Z1e (ar := [(.ag [(.str a0.Caller), (.str a0.Callee)]), (.ag [(.str a1.Caller), (.str a1.Callee)])]) (caps := []) Tryz.call59 (F59_ok K (⟨a0.Caller, a0.Callee⟩ : Zt) (⟨a1.Caller, a1.Callee⟩ : Zt) v2 hv2) I I ⟨rfl, rfl, trivial⟩ I) I <| Z1 I (Zm (v := (.int .i64 v2)) I I) I <| Zh <| Zi <| Z1c ?_
 have h := Option.some.inj h
 subst h
 refine (hret _ ?_).1
 exact ⟨[(.int .i64 v2)], ⟨rfl, trivial⟩, rfl, trivial⟩
def Zb7 (K : Nat) (v6 : (List Zf)) (v12 : (List Zk)) : Option (Int × Ze) :=
 (sortF (fun a b => F98 K a b) v6).bind fun v16 =>
  (sortF (fun a b => F100 K a b) v12).bind fun v18 =>
   some (0, (⟨v16, v18⟩ : Ze))
noncomputable def Z96 (K : Nat) (c14 : (List Zk) → Option (Int × Ze)) : Nat → (List (Zt × Zk)) → (List Zk) → Option (Int × Ze)
 | 0, _, _ => none
 | k11 + 1, v9, v10 =>
  ndNext v9 (
   c14 v10) fun x20 x21 =>
   if v10.length + [x20.2].length ≤ 1073741824 then
    (Z96 K c14 k11) x21 (v10 ++ [x20.2])
   else none
noncomputable def F52_c7 (K : Nat) (a2 : (List (Zt × Zk))) (v6 : (List Zf)) : Option (Int × Ze) :=
 Z96 K (Zb7 K v6) K a2 []
noncomputable def Zd0 (K : Nat) (c8 : (List Zf) → Option (Int × Ze)) : Nat → (List (Str × Zf)) → (List Zf) → Option (Int × Ze)
 | 0, _, _ => none
 | k5 + 1, v3, v4 =>
  ndNext v3 (
   c8 v4) fun x25 x26 =>
   if v4.length + [x25.2].length ≤ 1073741824 then
    (Zd0 K c8 k5) x26 (v4 ++ [x25.2])
   else none
noncomputable def F52 (K : Nat) (a0 : Bool) (a1 : (List (Str × Zf))) (a2 : (List (Zt × Zk))) : Option (Int × Ze) :=
 if (decide ((a1.length : Int) > 256)) = true then
  some (6, Z2b)
 else
  if a0 = true then
   some (20, Z2b)
  else
   Zd0 K (F52_c7 K a2) K a1 []
theorem F52_ok (K : Nat) (a0 : Bool) (a1 : (List (Str × Zf))) (a2 : (List (Zt × Zk))) (r : Int × Ze) (h : F52 K a0 a1 a2 = some r) : ACall P 52 ⟨[(.ptr 2000 0)], [(2000, (.box [(.map 59), (.map 57), (.bool a0)])), (59, (.map (Z19 Z1z Z3 a1))), (57, (.map (Z19 Zp Z6 a2)))], (.tup [(Zc r.2), (.int .i64 r.1)]), [(2000, (.box [(.map 59), (.map 57), (.bool a0)])), (59, (.fmap (Z19 Z1z Z3 a1))), (57, (.fmap (Z19 Zp Z6 a2)))], [59, 57]⟩ := by
 refine Z1q Tryz.func52 Tryz.results52 rfl Tryz.ntmps52 rfl rfl rfl ?_
 intro E Q hP hN hro hret
 obtain ⟨P', nt', w0, F0, p0, S0, β0, ro0⟩ := E
 simp only at hP hN
 subst hP hN
 dsimp only [argT]
 unfold F52 at h
 refine Zj <| Zd <| Z1 I (Z21 (cs := [(.sl 4 [] true), (.sl 5 [] true)]) I z44f I I I) I <| Z1 I (Zm (v := (.int .i64 0)) I I) I <| Zh <| Zi <| Zj <| AWp.block ?_
 refine Zj <| Zd <| Z1 I (Zl (v := (.ptr 2000 0)) I I) I <| Z1 I (Z5t (v := (.ptr 2000 0)) I I I) I <| Z1 I (Zr (m := 2000) (o := 0) I f181_0 I I) I <| Z1 I (Zy (cs := [(.map 59), (.map 57), (.bool a0)]) (v := (.map 59)) I o178 I I I) I <| Z1 I (st_mlen (encK := Z1z) (encV := Z3) (kvs := a1) I ⟨9, 68, by kernel_rfl⟩ I I (.inl I)) I <| Z1 I (Z1x (k := .i64) (a := (a1.length : Int)) (b := 256) (c := (decide ((a1.length : Int) > 256))) I I I I) I ?_
 refine Z1 I (Zm (v := (.bool (decide ((a1.length : Int) > 256)))) I I) I <| Zh <| Zi ?_
 have hif := Z1w h
 refine Z16 I (fun hc => ?_) (fun hc => ?_)
 ·have h := hif.1 hc
  refine Zj <| Zd <| Z1 I (Z29 (vs := []) (cs := [(.sl 4 [] true), (.sl 5 [] true)]) I st44f trivial I) I <| Z1 I (Z1b (cs := [(.sl 4 [] true), (.sl 5 [] true)]) (vs := [(.sl 4 [] true), (.sl 5 [] true)]) (ds := [(.sl 4 [] true), (.sl 5 [] true)]) (v := (.ag [(.sl 4 [] true), (.sl 5 [] true)])) sz44 I I I I I I I I) I <| Z1 I (Zm (v := (.int .i64 6)) I I) I <| Zh <| Zi <| Z1c ?_
  refine Z1u <| Z18 <| At.ghost (st' := ⟨[(2, (.ptr 2 0)), (3, (.int .i64 6))], [(2, (.box [(.sl 4 [] false), (.sl 5 [] false)])), (57, (.fmap (Z19 Zp Z6 a2))), (59, (.fmap (Z19 Z1z Z3 a1))), (2000, (.box [(.map 59), (.map 57), (.bool a0)]))]⟩) (fun a w h => (Z1g ⟨[(2, (.ptr 2 0)), (3, (.int .i64 6))], [(2, (.box [(.sl 4 [] false), (.sl 5 [] false)])), (57, (.fmap (Z19 Zp Z6 a2))), (59, (.fmap (Z19 Z1z Z3 a1))), (2000, (.box [(.map 59), (.map 57), (.bool a0)]))]⟩ (Za9 (n := 2) (cs := [(.sl 4 [] true), (.sl 5 [] true)]) a w (Z1g ⟨[(2, (.ptr 2 0)), (3, (.int .i64 6))], [(2, (.box [(.sl 4 [] true), (.sl 5 [] true)])), (57, (.fmap (Z19 Zp Z6 a2))), (59, (.fmap (Z19 Z1z Z3 a1))), (2000, (.box [(.map 59), (.map 57), (.bool a0)]))]⟩ (Z1g ⟨[(2, (.ptr 2 0)), (3, (.int .i64 6))], [(2, (.box [(.sl 4 [] true), (.sl 5 [] true)])), (57, (.fmap (Z19 Zp Z6 a2))), (59, (.fmap (Z19 Z1z Z3 a1))), (2000, (.box [(.map 59), (.map 57), (.bool a0)]))]⟩ (Z3k (m := 57) I a w (Z1g ⟨[(2, (.ptr 2 0)), (3, (.int .i64 6))], [(57, (.map (Z19 Zp Z6 a2))), (2, (.box [(.sl 4 [] true), (.sl 5 [] true)])), (59, (.fmap (Z19 Z1z Z3 a1))), (2000, (.box [(.map 59), (.map 57), (.bool a0)]))]⟩ (Z1g ⟨[(2, (.ptr 2 0)), (3, (.int .i64 6))], [(2, (.box [(.sl 4 [] true), (.sl 5 [] true)])), (57, (.map (Z19 Zp Z6 a2))), (59, (.fmap (Z19 Z1z Z3 a1))), (2000, (.box [(.map 59), (.map 57), (.bool a0)]))]⟩ (Z3k (m := 59) I a w (Z1g ⟨[(2, (.ptr 2 0)), (3, (.int .i64 6))], [(59, (.map (Z19 Z1z Z3 a1))), (2, (.box [(.sl 4 [] true), (.sl 5 [] true)])), (57, (.map (Z19 Zp Z6 a2))), (2000, (.box [(.map 59), (.map 57), (.bool a0)]))]⟩ h ⟨rfl, rfl, trivial⟩ ⟨rfl, rfl, rfl, rfl, trivial⟩)) ⟨rfl, rfl, trivial⟩ ⟨rfl, rfl, rfl, rfl, trivial⟩) ⟨rfl, rfl, trivial⟩ ⟨rfl, rfl, rfl, rfl, trivial⟩)) ⟨rfl, rfl, trivial⟩ ⟨rfl, rfl, rfl, rfl, trivial⟩) ⟨rfl, rfl, trivial⟩ ⟨rfl, rfl, rfl, rfl, trivial⟩)) ⟨rfl, rfl, trivial⟩ ⟨rfl, rfl, rfl, rfl, trivial⟩)) ?_
  have h := Option.some.inj h
  subst h
  refine (hret _ ?_).1
  exact ⟨[(Zc Z2b), (.int .i64 6)], ⟨⟨2, _, rfl, rfl, .inr ⟨_, a44, rfl, rfl⟩⟩, rfl, trivial⟩, rfl, ⟨rfl, rfl, rfl, trivial⟩⟩
 ·have h := hif.2 hc
  refine Zj <| Zd <| Z1 I (Zl (v := (.ptr 2000 0)) I I) I <| Z1 I (Z5t (v := (.ptr 2000 0)) I I I) I <| Z1 I (Zr (m := 2000) (o := 0) I f181_2 I I) I <| Z1 I (Zy (cs := [(.map 59), (.map 57), (.bool a0)]) (v := (.bool a0)) I o4 I I I) I <| Z1 I (Zm (v := (.bool a0)) I I) I <| Zh ?_
  refine Zi ?_
  have hif := Z1w h
  refine Z16 I (fun hc => ?_) (fun hc => ?_)
  ·have h := hif.1 hc
   refine Zj <| Zd <| Z1 I (Z29 (vs := []) (cs := [(.sl 4 [] true), (.sl 5 [] true)]) I st44f trivial I) I <| Z1 I (Z1b (cs := [(.sl 4 [] true), (.sl 5 [] true)]) (vs := [(.sl 4 [] true), (.sl 5 [] true)]) (ds := [(.sl 4 [] true), (.sl 5 [] true)]) (v := (.ag [(.sl 4 [] true), (.sl 5 [] true)])) sz44 I I I I I I I I) I <| Z1 I (Zm (v := (.int .i64 20)) I I) I <| Zh <| Zi <| Z1c ?_
   refine Z1u <| Z18 <| At.ghost (st' := ⟨[(2, (.ptr 2 0)), (3, (.int .i64 20))], [(2, (.box [(.sl 4 [] false), (.sl 5 [] false)])), (57, (.fmap (Z19 Zp Z6 a2))), (59, (.fmap (Z19 Z1z Z3 a1))), (2000, (.box [(.map 59), (.map 57), (.bool a0)]))]⟩) (fun a w h => (Z1g ⟨[(2, (.ptr 2 0)), (3, (.int .i64 20))], [(2, (.box [(.sl 4 [] false), (.sl 5 [] false)])), (57, (.fmap (Z19 Zp Z6 a2))), (59, (.fmap (Z19 Z1z Z3 a1))), (2000, (.box [(.map 59), (.map 57), (.bool a0)]))]⟩ (Za9 (n := 2) (cs := [(.sl 4 [] true), (.sl 5 [] true)]) a w (Z1g ⟨[(2, (.ptr 2 0)), (3, (.int .i64 20))], [(2, (.box [(.sl 4 [] true), (.sl 5 [] true)])), (57, (.fmap (Z19 Zp Z6 a2))), (59, (.fmap (Z19 Z1z Z3 a1))), (2000, (.box [(.map 59), (.map 57), (.bool a0)]))]⟩ (Z1g ⟨[(2, (.ptr 2 0)), (3, (.int .i64 20))], [(2, (.box [(.sl 4 [] true), (.sl 5 [] true)])), (57, (.fmap (Z19 Zp Z6 a2))), (59, (.fmap (Z19 Z1z Z3 a1))), (2000, (.box [(.map 59), (.map 57), (.bool a0)]))]⟩ (Z3k (m := 57) I a w (Z1g ⟨[(2, (.ptr 2 0)), (3, (.int .i64 20))], [(57, (.map (Z19 Zp Z6 a2))), (2, (.box [(.sl 4 [] true), (.sl 5 [] true)])), (59, (.fmap (Z19 Z1z Z3 a1))), (2000, (.box [(.map 59), (.map 57), (.bool a0)]))]⟩ (Z1g ⟨[(2, (.ptr 2 0)), (3, (.int .i64 20))], [(2, (.box [(.sl 4 [] true), (.sl 5 [] true)])), (57, (.map (Z19 Zp Z6 a2))), (59, (.fmap (Z19 Z1z Z3 a1))), (2000, (.box [(.map 59), (.map 57), (.bool a0)]))]⟩ (Z3k (m := 59) I a w (Z1g ⟨[(2, (.ptr 2 0)), (3, (.int .i64 20))], [(59, (.map (Z19 Z1z Z3 a1))), (2, (.box [(.sl 4 [] true), (.sl 5 [] true)])), (57, (.map (Z19 Zp Z6 a2))), (2000, (.box [(.map 59), (.map 57), (.bool a0)]))]⟩ h ⟨rfl, rfl, trivial⟩ ⟨rfl, rfl, rfl, rfl, trivial⟩)) ⟨rfl, rfl, trivial⟩ ⟨rfl, rfl, rfl, rfl, trivial⟩) ⟨rfl, rfl, trivial⟩ ⟨rfl, rfl, rfl, rfl, trivial⟩)) ⟨rfl, rfl, trivial⟩ ⟨rfl, rfl, rfl, rfl, trivial⟩) ⟨rfl, rfl, trivial⟩ ⟨rfl, rfl, rfl, rfl, trivial⟩)) ⟨rfl, rfl, trivial⟩ ⟨rfl, rfl, rfl, rfl, trivial⟩)) ?_
   have h := Option.some.inj h
   subst h
   refine (hret _ ?_).1
   exact ⟨[(Zc Z2b), (.int .i64 20)], ⟨⟨2, _, rfl, rfl, .inr ⟨_, a44, rfl, rfl⟩⟩, rfl, trivial⟩, rfl, ⟨rfl, rfl, rfl, trivial⟩⟩
  ·have h := hif.2 hc
   refine Z1a <| At.end <| Zi <| Zj <| Zd <| Z1 I (Z21 (cs := [(.sl 4 [] true), (.sl 5 [] true)]) I z44f I I I) I <| Zh <| Zi ?_
   refine Zj <| Zj <| Zd <| Z1 I (Zl (v := (.ptr 2000 0)) I I) I <| Z1 I (Z5t (v := (.ptr 2000 0)) I I I) I <| Z1 I (Zr (m := 2000) (o := 0) I f181_0 I I) I <| Z1 I (Zy (cs := [(.map 59), (.map 57), (.bool a0)]) (v := (.map 59)) I o178 I I I) I <| AOps.ghost (st' := ⟨[(0, (.ptr 2000 0)), (2, (.ptr 2 0)), (4, (.ptr 4 0)), (26, (.map 59))], [(2, (.box [(.sl 4 [] true), (.sl 5 [] true)])), (4, (.box [(.sl 4 [] true), (.sl 5 [] true)])), (57, (.map (Z19 Zp Z6 a2))), (59, (.fmap (Z19 Z1z Z3 a1))), (2000, (.box [(.map 59), (.map 57), (.bool a0)]))]⟩) (fun a w h => (Z1g ⟨[(0, (.ptr 2000 0)), (2, (.ptr 2 0)), (4, (.ptr 4 0)), (26, (.map 59))], [(2, (.box [(.sl 4 [] true), (.sl 5 [] true)])), (4, (.box [(.sl 4 [] true), (.sl 5 [] true)])), (57, (.map (Z19 Zp Z6 a2))), (59, (.fmap (Z19 Z1z Z3 a1))), (2000, (.box [(.map 59), (.map 57), (.bool a0)]))]⟩ (Z3k (m := 59) I a w (Z1g ⟨[(0, (.ptr 2000 0)), (2, (.ptr 2 0)), (4, (.ptr 4 0)), (26, (.map 59))], [(59, (.map (Z19 Z1z Z3 a1))), (2, (.box [(.sl 4 [] true), (.sl 5 [] true)])), (4, (.box [(.sl 4 [] true), (.sl 5 [] true)])), (57, (.map (Z19 Zp Z6 a2))), (2000, (.box [(.map 59), (.map 57), (.bool a0)]))]⟩ h ⟨rfl, rfl, rfl, rfl, trivial⟩ ⟨rfl, rfl, rfl, rfl, rfl, trivial⟩)) ⟨rfl, rfl, rfl, rfl, trivial⟩ ⟨rfl, rfl, rfl, rfl, rfl, trivial⟩)) ?_
   refine Z1 I (st_range (l := a1) I ⟨9, 68, by kernel_rfl⟩ I I) I <| Zh <| Zi <| AWp.ghost (st' := ⟨[(0, (.ptr 2000 0)), (2, (.ptr 2 0)), (4, (.ptr 4 0)), (27, (.itr 27))], [(2, (.box [(.sl 4 [] true), (.sl 5 [] true)])), (4, (.box [(.vs 56), (.sl 5 [] true)])), (27, (.iter none (Z19 Z1z Z3 a1))), (56, (.vec 4 (List.map Z3 ([] : List Zf)))), (57, (.map (Z19 Zp Z6 a2))), (59, (.fmap (Z19 Z1z Z3 a1))), (2000, (.box [(.map 59), (.map 57), (.bool a0)]))]⟩) (fun a w h => (Z1g ⟨[(0, (.ptr 2000 0)), (2, (.ptr 2 0)), (4, (.ptr 4 0)), (27, (.itr 27))], [(2, (.box [(.sl 4 [] true), (.sl 5 [] true)])), (4, (.box [(.vs 56), (.sl 5 [] true)])), (27, (.iter none (Z19 Z1z Z3 a1))), (56, (.vec 4 (List.map Z3 ([] : List Zf)))), (57, (.map (Z19 Zp Z6 a2))), (59, (.fmap (Z19 Z1z Z3 a1))), (2000, (.box [(.map 59), (.map 57), (.bool a0)]))]⟩ (Z9d (n := 4) (m := 56) (sz := 4) (j := 0) I I I a w (Z1g ⟨[(0, (.ptr 2000 0)), (2, (.ptr 2 0)), (4, (.ptr 4 0)), (27, (.itr 27))], [(4, (.box [(.sl 4 [] true), (.sl 5 [] true)])), (2, (.box [(.sl 4 [] true), (.sl 5 [] true)])), (27, (.iter none (Z19 Z1z Z3 a1))), (57, (.map (Z19 Zp Z6 a2))), (59, (.fmap (Z19 Z1z Z3 a1))), (2000, (.box [(.map 59), (.map 57), (.bool a0)]))]⟩ h ⟨rfl, rfl, rfl, rfl, trivial⟩ ⟨rfl, rfl, rfl, rfl, rfl, rfl, trivial⟩)) ⟨rfl, rfl, rfl, rfl, trivial⟩ ⟨rfl, rfl, rfl, rfl, rfl, rfl, rfl, trivial⟩)) <| AWp.weaken (st' := ⟨[(0, (.ptr 2000 0)), (2, (.ptr 2 0)), (4, (.ptr 4 0)), (27, (.itr 27))], [(2, (.box [(.sl 4 [] true), (.sl 5 [] true)])), (4, (.box [(.vs 56), (.sl 5 [] true)])), (27, (.iter none (Z19 Z1z Z3 a1))), (56, (.vec 4 (List.map Z3 []))), (57, (.map (Z19 Zp Z6 a2))), (59, (.fmap (Z19 Z1z Z3 a1))), (2000, (.box [(.map 59), (.map 57), (.bool a0)]))]⟩) ⟨rfl, rfl, rfl, rfl, trivial⟩ ⟨rfl, rfl, rfl, rfl, rfl, rfl, rfl, trivial⟩ ?_
   refine Z1o (V := (List (Str × Zf)) × (List Zf)) (X := (List Zf)) (lp := fun k v => Zd0 K (F52_c7 K a2) k v.1 v.2 = some r) (sh := fun v => ⟨[(0, (.ptr 2000 0)), (2, (.ptr 2 0)), (4, (.ptr 4 0)), (27, (.itr 27))], [(2, (.box [(.sl 4 [] true), (.sl 5 [] true)])), (4, (.box [(.vs 56), (.sl 5 [] true)])), (27, (.iter none (Z19 Z1z Z3 v.1))), (56, (.vec 4 (List.map Z3 v.2))), (57, (.map (Z19 Zp Z6 a2))), (59, (.fmap (Z19 Z1z Z3 a1))), (2000, (.box [(.map 59), (.map 57), (.bool a0)]))]⟩) (x := fun v => F52_c7 K a2 v = some r) (shx := fun v => ⟨[(0, (.ptr 2000 0)), (2, (.ptr 2 0)), (4, (.ptr 4 0))], [(2, (.box [(.sl 4 [] true), (.sl 5 [] true)])), (4, (.box [(.vs 56), (.sl 5 [] true)])), (56, (.vec 4 (List.map Z3 v))), (57, (.map (Z19 Zp Z6 a2))), (59, (.fmap (Z19 Z1z Z3 a1))), (2000, (.box [(.map 59), (.map 57), (.bool a0)]))]⟩) (k := K) (v := (a1, [])) h ?_ ?_
   ·intro v h
    revert h
    revert v
    intro v6 h
    try dsimp only at h ⊢
    unfold F52_c7 at h
    refine Zi <| Zj <| Zj <| Zd <| Z1 I (Zl (v := (.ptr 2000 0)) I I) I <| Z1 I (Z5t (v := (.ptr 2000 0)) I I I) I <| Z1 I (Zr (m := 2000) (o := 0) I f181_1 I I) I <| Z1 I (Zy (cs := [(.map 59), (.map 57), (.bool a0)]) (v := (.map 57)) I o179 I I I) I ?_
    refine AOps.ghost (st' := ⟨[(2, (.ptr 2 0)), (4, (.ptr 4 0)), (41, (.map 57))], [(2, (.box [(.sl 4 [] true), (.sl 5 [] true)])), (4, (.box [(.vs 56), (.sl 5 [] true)])), (56, (.vec 4 (List.map Z3 v6))), (57, (.fmap (Z19 Zp Z6 a2))), (59, (.fmap (Z19 Z1z Z3 a1))), (2000, (.box [(.map 59), (.map 57), (.bool a0)]))]⟩) (fun a w h => (Z1g ⟨[(2, (.ptr 2 0)), (4, (.ptr 4 0)), (41, (.map 57))], [(2, (.box [(.sl 4 [] true), (.sl 5 [] true)])), (4, (.box [(.vs 56), (.sl 5 [] true)])), (56, (.vec 4 (List.map Z3 v6))), (57, (.fmap (Z19 Zp Z6 a2))), (59, (.fmap (Z19 Z1z Z3 a1))), (2000, (.box [(.map 59), (.map 57), (.bool a0)]))]⟩ (Z3k (m := 57) I a w (Z1g ⟨[(2, (.ptr 2 0)), (4, (.ptr 4 0)), (41, (.map 57))], [(57, (.map (Z19 Zp Z6 a2))), (2, (.box [(.sl 4 [] true), (.sl 5 [] true)])), (4, (.box [(.vs 56), (.sl 5 [] true)])), (56, (.vec 4 (List.map Z3 v6))), (59, (.fmap (Z19 Z1z Z3 a1))), (2000, (.box [(.map 59), (.map 57), (.bool a0)]))]⟩ h ⟨rfl, rfl, rfl, trivial⟩ ⟨rfl, rfl, rfl, rfl, rfl, rfl, trivial⟩)) ⟨rfl, rfl, rfl, trivial⟩ ⟨rfl, rfl, rfl, rfl, rfl, rfl, trivial⟩)) <| Z1 I (st_range (l := a2) I ⟨126, 88, by kernel_rfl⟩ I I) I <| Zh <| Zi <| AWp.ghost (st' := ⟨[(2, (.ptr 2 0)), (4, (.ptr 4 0)), (42, (.itr 42))], [(2, (.box [(.sl 4 [] true), (.sl 5 [] true)])), (4, (.box [(.vs 56), (.vs 54)])), (42, (.iter none (Z19 Zp Z6 a2))), (54, (.vec 5 (List.map Z6 ([] : List Zk)))), (56, (.vec 4 (List.map Z3 v6))), (57, (.fmap (Z19 Zp Z6 a2))), (59, (.fmap (Z19 Z1z Z3 a1))), (2000, (.box [(.map 59), (.map 57), (.bool a0)]))]⟩) (fun a w h => (Z1g ⟨[(2, (.ptr 2 0)), (4, (.ptr 4 0)), (42, (.itr 42))], [(2, (.box [(.sl 4 [] true), (.sl 5 [] true)])), (4, (.box [(.vs 56), (.vs 54)])), (42, (.iter none (Z19 Zp Z6 a2))), (54, (.vec 5 (List.map Z6 ([] : List Zk)))), (56, (.vec 4 (List.map Z3 v6))), (57, (.fmap (Z19 Zp Z6 a2))), (59, (.fmap (Z19 Z1z Z3 a1))), (2000, (.box [(.map 59), (.map 57), (.bool a0)]))]⟩ (Z9d (n := 4) (m := 54) (sz := 5) (j := 1) I I I a w (Z1g ⟨[(2, (.ptr 2 0)), (4, (.ptr 4 0)), (42, (.itr 42))], [(4, (.box [(.vs 56), (.sl 5 [] true)])), (2, (.box [(.sl 4 [] true), (.sl 5 [] true)])), (42, (.iter none (Z19 Zp Z6 a2))), (56, (.vec 4 (List.map Z3 v6))), (57, (.fmap (Z19 Zp Z6 a2))), (59, (.fmap (Z19 Z1z Z3 a1))), (2000, (.box [(.map 59), (.map 57), (.bool a0)]))]⟩ h ⟨rfl, rfl, rfl, trivial⟩ ⟨rfl, rfl, rfl, rfl, rfl, rfl, rfl, trivial⟩)) ⟨rfl, rfl, rfl, trivial⟩ ⟨rfl, rfl, rfl, rfl, rfl, rfl, rfl, rfl, trivial⟩)) <| AWp.weaken (st' := ⟨[(2, (.ptr 2 0)), (4, (.ptr 4 0)), (42, (.itr 42))], [(2, (.box [(.sl 4 [] true), (.sl 5 [] true)])), (4, (.box [(.vs 56), (.vs 54)])), (42, (.iter none (Z19 Zp Z6 a2))), (54, (.vec 5 (List.map Z6 []))), (56, (.vec 4 (List.map Z3 v6))), (57, (.fmap (Z19 Zp Z6 a2))), (59, (.fmap (Z19 Z1z Z3 a1))), (2000, (.box [(.map 59), (.map 57), (.bool a0)]))]⟩) ⟨rfl, rfl, rfl, trivial⟩ ⟨rfl, rfl, rfl, rfl, rfl, rfl, rfl, rfl, trivial⟩ ?_
    refine Z1o (V := (List (Zt × Zk)) × (List Zk)) (X := (List Zk)) (lp := fun k v => Z96 K (Zb7 K v6) k v.1 v.2 = some r) (sh := fun v => ⟨[(2, (.ptr 2 0)), (4, (.ptr 4 0)), (42, (.itr 42))], [(2, (.box [(.sl 4 [] true), (.sl 5 [] true)])), (4, (.box [(.vs 56), (.vs 54)])), (42, (.iter none (Z19 Zp Z6 v.1))), (54, (.vec 5 (List.map Z6 v.2))), (56, (.vec 4 (List.map Z3 v6))), (57, (.fmap (Z19 Zp Z6 a2))), (59, (.fmap (Z19 Z1z Z3 a1))), (2000, (.box [(.map 59), (.map 57), (.bool a0)]))]⟩) (x := fun v => Zb7 K v6 v = some r) (shx := fun v => ⟨[(2, (.ptr 2 0)), (4, (.ptr 4 0))], [(2, (.box [(.sl 4 [] true), (.sl 5 [] true)])), (4, (.box [(.vs 56), (.vs 54)])), (54, (.vec 5 (List.map Z6 v))), (56, (.vec 4 (List.map Z3 v6))), (57, (.fmap (Z19 Zp Z6 a2))), (59, (.fmap (Z19 Z1z Z3 a1))), (2000, (.box [(.map 59), (.map 57), (.bool a0)]))]⟩) (k := K) (v := (a2, [])) h ?_ ?_
    ·intro v h
     revert h
     revert v
     intro v12 h
     try dsimp only at h ⊢
     unfold Zb7 at h
     refine Zi <| Zj <| Zd <| Z1 I (Zr (m := 4) (o := 0) I Z4y I I) I <| Z1 I (Zy (cs := [(.vs 56), (.vs 54)]) (v := (.vs 56)) I o41 I I I) I ?_
     have ⟨v16, hv16, h⟩ := Z1d h
     refine Z1 I (Z37 (d := some 55) (c := ⟨[(.vs 56), (.clo 98 [])], [(56, (.vec 4 (List.map Z3 v6)))], .tup [], [(56, .vec 4 (List.map Z3 v16))], []⟩) (ar := [(.vs 56), (.clo 98 [])]) (caps := []) (news := []) (forg := []) Tryz.call97 (sort_ok (n := 56) (enc := Z3) (l := v6) (caps := []) (c := (fun a b => F98 K a b)) sortC97 Tryz.call98 Z1y (fun _ => I) (fun a b m hm => F98_ok K a b m hm) hv16) I I ⟨rfl, rfl, trivial⟩ I ⟨rfl, trivial⟩ I) I <| Zh <| Zi <| Zj <| Zd <| Z1 I (Zr (m := 4) (o := 0) I Z59 I I) I <| Z1 I (Zy (cs := [(.vs 56), (.vs 54)]) (v := (.vs 54)) I o42 I I I) I ?_
     have ⟨v18, hv18, h⟩ := Z1d h
     refine Z1 I (Z37 (d := some 58) (c := ⟨[(.vs 54), (.clo 100 [])], [(54, (.vec 5 (List.map Z6 v12)))], .tup [], [(54, .vec 5 (List.map Z6 v18))], []⟩) (ar := [(.vs 54), (.clo 100 [])]) (caps := []) (news := []) (forg := []) Tryz.call99 (sort_ok (n := 54) (enc := Z6) (l := v12) (caps := []) (c := (fun a b => F100 K a b)) sortC99 Tryz.call100 Z2n (fun _ => I) (fun a b m hm => F100_ok K a b m hm) hv18) I I ⟨rfl, rfl, trivial⟩ I ⟨rfl, trivial⟩ I) I <| Zh <| Zi <| Zj <| Zd <| Z1 I (Z1n (cs := [(.vs 56), (.vs 54)]) (vs := [(.vs 56), (.vs 54)]) I a44 I I I I) I <| Z1 I (Z1b (cs := [(.sl 4 [] true), (.sl 5 [] true)]) (vs := [(.vs 56), (.vs 54)]) (ds := [(.vs 56), (.vs 54)]) (v := (.ag [(.vs 56), (.vs 54)])) sz44 I I I I I I I I) I <| Z1 I (Zm (v := (.int .i64 0)) I I) I ?_
     refine Zh <| Zi <| Z1c <| At.ghost (st' := ⟨[(2, (.ptr 2 0)), (3, (.int .i64 0))], [(2, (.box [(.sl 4 (v16.map Z3) false), (.sl 5 (v18.map Z6) false)])), (57, (.fmap (Z19 Zp Z6 a2))), (59, (.fmap (Z19 Z1z Z3 a1))), (2000, (.box [(.map 59), (.map 57), (.bool a0)]))]⟩) (fun a w h => (Z1g ⟨[(2, (.ptr 2 0)), (3, (.int .i64 0))], [(2, (.box [(.sl 4 (v16.map Z3) false), (.sl 5 (v18.map Z6) false)])), (57, (.fmap (Z19 Zp Z6 a2))), (59, (.fmap (Z19 Z1z Z3 a1))), (2000, (.box [(.map 59), (.map 57), (.bool a0)]))]⟩ (Z2i (m := 54) (sz := 5) (es := (List.map Z6 v18)) a w (Z1g ⟨[(2, (.ptr 2 0)), (3, (.int .i64 0))], [(54, (.vec 5 (List.map Z6 v18))), (2, (.box [(.sl 4 (v16.map Z3) false), (.vs 54)])), (57, (.fmap (Z19 Zp Z6 a2))), (59, (.fmap (Z19 Z1z Z3 a1))), (2000, (.box [(.map 59), (.map 57), (.bool a0)]))]⟩ (Z1g ⟨[(2, (.ptr 2 0)), (3, (.int .i64 0))], [(2, (.box [(.sl 4 (v16.map Z3) false), (.vs 54)])), (54, (.vec 5 (List.map Z6 v18))), (57, (.fmap (Z19 Zp Z6 a2))), (59, (.fmap (Z19 Z1z Z3 a1))), (2000, (.box [(.map 59), (.map 57), (.bool a0)]))]⟩ (Z2i (m := 56) (sz := 4) (es := (List.map Z3 v16)) a w (Z1g ⟨[(2, (.ptr 2 0)), (3, (.int .i64 0))], [(56, (.vec 4 (List.map Z3 v16))), (2, (.box [(.vs 56), (.vs 54)])), (54, (.vec 5 (List.map Z6 v18))), (57, (.fmap (Z19 Zp Z6 a2))), (59, (.fmap (Z19 Z1z Z3 a1))), (2000, (.box [(.map 59), (.map 57), (.bool a0)]))]⟩ h ⟨rfl, rfl, trivial⟩ ⟨rfl, rfl, rfl, rfl, rfl, rfl, trivial⟩)) ⟨rfl, rfl, trivial⟩ ⟨rfl, rfl, rfl, rfl, rfl, trivial⟩) ⟨rfl, rfl, trivial⟩ ⟨rfl, rfl, rfl, rfl, rfl, trivial⟩)) ⟨rfl, rfl, trivial⟩ ⟨rfl, rfl, rfl, rfl, trivial⟩)) ?_
     have h := Option.some.inj h
     subst h
     refine (hret _ ?_).1
     exact ⟨[(Zc (⟨v16, v18⟩ : Ze)), (.int .i64 0)], ⟨⟨2, _, rfl, rfl, .inr ⟨_, a44, rfl, rfl⟩⟩, rfl, trivial⟩, rfl, ⟨rfl, rfl, rfl, trivial⟩⟩
    ·intro N k11 v h IH11 J11
     obtain ⟨v9, v10⟩ := v
     try dsimp only at h IH11 J11 ⊢
     cases k11 with
     | zero => cases h
     | succ k11 =>
      rw [Z96] at h
      refine Zj <| Zd ?_
      have hn23 := of_ndNext h
      refine AOps.consNext (encK := Zp) (encV := Z6) (rem := v9) I I I (fun hc => ?_) (fun xx21p x20 xx21q hc => ?_)
      ·have h := hn23.1 hc
       refine Z1 I (Z2g (vs := [(.bool false)]) (v := (.bool false)) I I I) I <| Zh <| Zi <| Zj ?_
       refine Z16 (b := false) I (fun hc => ?_) (fun hc => ?_)
       ·cases hc
       refine AWp.exit <| At.thru ?_
       exact Z13 (st' := ⟨[(2, (.ptr 2 0)), (4, (.ptr 4 0))], [(2, (.box [(.sl 4 [] true), (.sl 5 [] true)])), (4, (.box [(.vs 56), (.vs 54)])), (54, (.vec 5 (List.map Z6 v10))), (56, (.vec 4 (List.map Z3 v6))), (57, (.fmap (Z19 Zp Z6 a2))), (59, (.fmap (Z19 Z1z Z3 a1))), (2000, (.box [(.map 59), (.map 57), (.bool a0)]))]⟩) ⟨rfl, rfl, trivial⟩ ⟨rfl, rfl, rfl, rfl, rfl, rfl, rfl, trivial⟩ (J11 v10 h)
      ·have h := hn23.2 _ _ _ hc
       generalize xx21p ++ xx21q = x21 at h ⊢
       refine Z1 I (Z2g (vs := [(.bool true), .undef, .undef]) (v := (.bool true)) I I I) I <| Zh <| Zi <| Zj ?_
       refine Z16 (b := true) I (fun hc => ?_) (fun hc => ?_)
       rotate_left
       ·cases hc
       refine Z1a <| Zi <| AWp.block <| Zj <| Zd <| Z1 I (st_entry (k := x20.1) (v := x20.2) (encK := Zp) (encV := Z6) I I I) I <| Z1 I (Z2g (vs := [(Zp x20.1), (Z6 x20.2)]) (v := (Z6 x20.2)) I I I) I <| Z1 I (Z21 (cs := [(.str []), (.str []), (.int .i64 0), (.int .i64 0), (.int .i64 0)]) I z88 I I I) I ?_
       refine Z1 I (Z1b (cs := [(.str []), (.str []), (.int .i64 0), (.int .i64 0), (.int .i64 0)]) (vs := (Z6 x20.2).cells) (ds := (Z6 x20.2).cells) (v := (Z6 x20.2)) sz88 I I I I I I I I) I <| Zh <| Zi <| Zd <| Z1 I (Zr (m := 4) (o := 0) I Z59 I I) I <| Z1 I (Zy (cs := [(.vs 56), (.vs 54)]) (v := (.vs 54)) I o42 I I I) I <| Z1 I (Z1n (cs := (Z6 x20.2).cells) (vs := (Z6 x20.2).cells) I a88 I I I I) I <| Z1 I (Z1l (vs := [(Z6 x20.2)]) (enc := Z6) (l := [x20.2]) I el42 I I ⟨rfl, trivial⟩ I Z2n I I I I) I ?_
       have ⟨hg22, h⟩ := Z14 h
       refine Z1 I (Z2t (m := 54) (enc := Z6) (l := v10) (l' := [x20.2]) (src := (.vs 50)) (rd := [(50, (.vec 5 (List.map Z6 [x20.2])))]) I I el42 I u42 I I I I (oneRead I) Z2n hg22) I <| Z1 I (Zr (m := 4) (o := 0) I Z59 I I) I <| Z1 I (Z1b (cs := [(.vs 56), .undef]) (vs := [(.vs 54)]) (ds := [(.vs 56), (.vs 54)]) (v := (.vs 54)) sz42 I I I I I I I I) I <| Zh <| At.end <| At.ghost (st' := ⟨[(2, (.ptr 2 0)), (4, (.ptr 4 0)), (42, (.itr 42))], [(2, (.box [(.sl 4 [] true), (.sl 5 [] true)])), (4, (.box [(.vs 56), (.vs 54)])), (42, (.iter none (Z19 Zp Z6 x21))), (54, (.vec 5 (List.map Z6 (v10 ++ [x20.2])))), (56, (.vec 4 (List.map Z3 v6))), (57, (.fmap (Z19 Zp Z6 a2))), (59, (.fmap (Z19 Z1z Z3 a1))), (2000, (.box [(.map 59), (.map 57), (.bool a0)]))]⟩) (fun a w h => (Z1g ⟨[(2, (.ptr 2 0)), (4, (.ptr 4 0)), (42, (.itr 42))], [(2, (.box [(.sl 4 [] true), (.sl 5 [] true)])), (4, (.box [(.vs 56), (.vs 54)])), (42, (.iter none (Z19 Zp Z6 x21))), (54, (.vec 5 (List.map Z6 (v10 ++ [x20.2])))), (56, (.vec 4 (List.map Z3 v6))), (57, (.fmap (Z19 Zp Z6 a2))), (59, (.fmap (Z19 Z1z Z3 a1))), (2000, (.box [(.map 59), (.map 57), (.bool a0)]))]⟩ (Zd2 (m := 42) a w (Z1g ⟨[(2, (.ptr 2 0)), (4, (.ptr 4 0)), (42, (.itr 42))], [(42, (.iter (some (Zp x20.1, Z6 x20.2)) (Z19 Zp Z6 x21))), (2, (.box [(.sl 4 [] true), (.sl 5 [] true)])), (4, (.box [(.vs 56), (.vs 54)])), (54, (.vec 5 (List.map Z6 (v10 ++ [x20.2])))), (56, (.vec 4 (List.map Z3 v6))), (57, (.fmap (Z19 Zp Z6 a2))), (59, (.fmap (Z19 Z1z Z3 a1))), (2000, (.box [(.map 59), (.map 57), (.bool a0)]))]⟩ h ⟨rfl, rfl, rfl, trivial⟩ ⟨rfl, rfl, rfl, rfl, rfl, rfl, rfl, rfl, trivial⟩)) ⟨rfl, rfl, rfl, trivial⟩ ⟨rfl, rfl, rfl, rfl, rfl, rfl, rfl, rfl, trivial⟩)) ?_
       exact Z13 (st' := ⟨[(2, (.ptr 2 0)), (4, (.ptr 4 0)), (42, (.itr 42))], [(2, (.box [(.sl 4 [] true), (.sl 5 [] true)])), (4, (.box [(.vs 56), (.vs 54)])), (42, (.iter none (Z19 Zp Z6 x21))), (54, (.vec 5 (List.map Z6 (v10 ++ [x20.2])))), (56, (.vec 4 (List.map Z3 v6))), (57, (.fmap (Z19 Zp Z6 a2))), (59, (.fmap (Z19 Z1z Z3 a1))), (2000, (.box [(.map 59), (.map 57), (.bool a0)]))]⟩) ⟨rfl, rfl, rfl, trivial⟩ ⟨rfl, rfl, rfl, rfl, rfl, rfl, rfl, rfl, trivial⟩ (IH11 _ (x21, (v10 ++ [x20.2])) (Nat.lt_succ_self _) h)
   ·intro N k5 v h IH5 J5
    obtain ⟨v3, v4⟩ := v
    try dsimp only at h IH5 J5 ⊢
    cases k5 with
    | zero => cases h
    | succ k5 =>
     rw [Zd0] at h
     refine Zj <| Zd ?_
     have hn28 := of_ndNext h
     refine AOps.consNext (encK := Z1z) (encV := Z3) (rem := v3) I I I (fun hc => ?_) (fun xx26p x25 xx26q hc => ?_)
     ·have h := hn28.1 hc
      refine Z1 I (Z2g (vs := [(.bool false)]) (v := (.bool false)) I I I) I <| Zh <| Zi <| Zj ?_
      refine Z16 (b := false) I (fun hc => ?_) (fun hc => ?_)
      ·cases hc
      refine AWp.exit <| At.thru ?_
      exact Z13 (st' := ⟨[(0, (.ptr 2000 0)), (2, (.ptr 2 0)), (4, (.ptr 4 0))], [(2, (.box [(.sl 4 [] true), (.sl 5 [] true)])), (4, (.box [(.vs 56), (.sl 5 [] true)])), (56, (.vec 4 (List.map Z3 v4))), (57, (.map (Z19 Zp Z6 a2))), (59, (.fmap (Z19 Z1z Z3 a1))), (2000, (.box [(.map 59), (.map 57), (.bool a0)]))]⟩) ⟨rfl, rfl, rfl, trivial⟩ ⟨rfl, rfl, rfl, rfl, rfl, rfl, trivial⟩ (J5 v4 h)
     ·have h := hn28.2 _ _ _ hc
      generalize xx26p ++ xx26q = x26 at h ⊢
      refine Z1 I (Z2g (vs := [(.bool true), .undef, .undef]) (v := (.bool true)) I I I) I <| Zh <| Zi <| Zj ?_
      refine Z16 (b := true) I (fun hc => ?_) (fun hc => ?_)
      rotate_left
      ·cases hc
      refine Z1a <| Zi <| AWp.block <| Zj <| Zd <| Z1 I (st_entry (k := x25.1) (v := x25.2) (encK := Z1z) (encV := Z3) I I I) I <| Z1 I (Z2g (vs := [(.str x25.1), (Z3 x25.2)]) (v := (Z3 x25.2)) I I I) I <| Z1 I (Z21 (cs := [(.str []), (.int .i64 0), (.int .i64 0), (.int .i64 0)]) I z68 I I I) I ?_
      refine Z1 I (Z1b (cs := [(.str []), (.int .i64 0), (.int .i64 0), (.int .i64 0)]) (vs := (Z3 x25.2).cells) (ds := (Z3 x25.2).cells) (v := (Z3 x25.2)) sz68 I I I I I I I I) I <| Zh <| Zi <| Zd <| Z1 I (Zr (m := 4) (o := 0) I Z4y I I) I <| Z1 I (Zy (cs := [(.vs 56), (.sl 5 [] true)]) (v := (.vs 56)) I o41 I I I) I <| Z1 I (Z1n (cs := (Z3 x25.2).cells) (vs := (Z3 x25.2).cells) I a68 I I I I) I <| Z1 I (Z1l (vs := [(Z3 x25.2)]) (enc := Z3) (l := [x25.2]) I el41 I I ⟨rfl, trivial⟩ I Z1y I I I I) I ?_
      have ⟨hg27, h⟩ := Z14 h
      refine Z1 I (Z2t (m := 56) (enc := Z3) (l := v4) (l' := [x25.2]) (src := (.vs 35)) (rd := [(35, (.vec 4 (List.map Z3 [x25.2])))]) I I el41 I u41 I I I I (oneRead I) Z1y hg27) I <| Z1 I (Zr (m := 4) (o := 0) I Z4y I I) I <| Z1 I (Z1b (cs := [.undef, (.sl 5 [] true)]) (vs := [(.vs 56)]) (ds := [(.vs 56), (.sl 5 [] true)]) (v := (.vs 56)) sz41 I I I I I I I I) I <| Zh <| At.end <| At.ghost (st' := ⟨[(0, (.ptr 2000 0)), (2, (.ptr 2 0)), (4, (.ptr 4 0)), (27, (.itr 27))], [(2, (.box [(.sl 4 [] true), (.sl 5 [] true)])), (4, (.box [(.vs 56), (.sl 5 [] true)])), (27, (.iter none (Z19 Z1z Z3 x26))), (56, (.vec 4 (List.map Z3 (v4 ++ [x25.2])))), (57, (.map (Z19 Zp Z6 a2))), (59, (.fmap (Z19 Z1z Z3 a1))), (2000, (.box [(.map 59), (.map 57), (.bool a0)]))]⟩) (fun a w h => (Z1g ⟨[(0, (.ptr 2000 0)), (2, (.ptr 2 0)), (4, (.ptr 4 0)), (27, (.itr 27))], [(2, (.box [(.sl 4 [] true), (.sl 5 [] true)])), (4, (.box [(.vs 56), (.sl 5 [] true)])), (27, (.iter none (Z19 Z1z Z3 x26))), (56, (.vec 4 (List.map Z3 (v4 ++ [x25.2])))), (57, (.map (Z19 Zp Z6 a2))), (59, (.fmap (Z19 Z1z Z3 a1))), (2000, (.box [(.map 59), (.map 57), (.bool a0)]))]⟩ (Zd2 (m := 27) a w (Z1g ⟨[(0, (.ptr 2000 0)), (2, (.ptr 2 0)), (4, (.ptr 4 0)), (27, (.itr 27))], [(27, (.iter (some (Z1z x25.1, Z3 x25.2)) (Z19 Z1z Z3 x26))), (2, (.box [(.sl 4 [] true), (.sl 5 [] true)])), (4, (.box [(.vs 56), (.sl 5 [] true)])), (56, (.vec 4 (List.map Z3 (v4 ++ [x25.2])))), (57, (.map (Z19 Zp Z6 a2))), (59, (.fmap (Z19 Z1z Z3 a1))), (2000, (.box [(.map 59), (.map 57), (.bool a0)]))]⟩ h ⟨rfl, rfl, rfl, rfl, trivial⟩ ⟨rfl, rfl, rfl, rfl, rfl, rfl, rfl, trivial⟩)) ⟨rfl, rfl, rfl, rfl, trivial⟩ ⟨rfl, rfl, rfl, rfl, rfl, rfl, rfl, trivial⟩)) ?_
      exact Z13 (st' := ⟨[(0, (.ptr 2000 0)), (2, (.ptr 2 0)), (4, (.ptr 4 0)), (27, (.itr 27))], [(2, (.box [(.sl 4 [] true), (.sl 5 [] true)])), (4, (.box [(.vs 56), (.sl 5 [] true)])), (27, (.iter none (Z19 Z1z Z3 x26))), (56, (.vec 4 (List.map Z3 (v4 ++ [x25.2])))), (57, (.map (Z19 Zp Z6 a2))), (59, (.fmap (Z19 Z1z Z3 a1))), (2000, (.box [(.map 59), (.map 57), (.bool a0)]))]⟩) ⟨rfl, rfl, rfl, rfl, trivial⟩ ⟨rfl, rfl, rfl, rfl, rfl, rfl, rfl, trivial⟩ (IH5 _ (x26, (v4 ++ [x25.2])) (Nat.lt_succ_self _) h)
end Go.AM.TopZ
