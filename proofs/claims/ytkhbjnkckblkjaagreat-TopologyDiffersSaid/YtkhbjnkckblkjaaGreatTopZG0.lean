/- What these functions compute, each with its walk: F46, F136, F168, F223, F166, F109, F68, F169, F110, F69, F170, F67, F227, F226, F225, F171, F173, F172, F137, F135, F138, F134, F92, F95, F94, F90, F91, F139, F93, F47, F49, F96, F48, F51, F50, F98, F59, F100, F52. -/
import Derived.Test.YtkhbjnkckblkjaaGreatTopZT
namespace Go.AM.TopZ
open Go Go.AM Go.Proofs
set_option maxRecDepth 100000
set_option maxHeartbeats 2000000
def F46 (K : Nat) : Option (Unit) :=
 some ()
theorem F46_ok (K : Nat) (r : Unit) (h : F46 K = some r) : ACall P 46 ⟨[], [], (.ptr 4 0), [(1, (.map (Zu Z20 Z3 ([] : List (Str × Zg))))), (2, (.map (Zu Zl Z5 ([] : List (Zq × Zk))))), (4, (.box [(.map 1), (.map 2), (.bool false)]))], [1, 2, 4]⟩ := by
 refine Z1s Tryz.func46 Tryz.results46 rfl Tryz.ntmps46 rfl rfl rfl ?_
 intro E Q hP hN hro hret
 obtain ⟨P', nt', w0, F0, p0, S0, β0, ro0⟩ := E
 simp only at hP hN
 subst hP hN
 dsimp only [argT]
 unfold F46 at h
 refine Zj <| Zf <| Z2 I (Zp (v := .nilp) I I) I <| Zi <| Zh <| Zj <| Zf <| Z2 I (Z61 I) I ?_
 refine Z2 I (Z61 I) I <| Z2 I (Z27 (vs := [(0, (.map 1)), (1, (.map 2))]) (cs := [(.map 1), (.map 2), (.bool false)]) I st181 ⟨rfl, rfl, rfl, rfl, trivial⟩ I) I <| Z2 I (Z2m (v := (.ag [(.map 1), (.map 2), (.bool false)])) (cs := [(.map 1), (.map 2), (.bool false)]) I I I I I) I <| Z2 I (Zp (v := (.ptr 4 0)) I I) I <| Zi <| Zh <| Z1g ?_
 have h := Option.some.inj h
 subst h
 refine (hret _ ?_).1
 exact ⟨[(.ptr 4 0)], ⟨rfl, trivial⟩, rfl, ⟨rfl, rfl, rfl, trivial⟩⟩
def F136 (K : Nat) (a0 : (List Zm)) : Option ((List Zm)) :=
 some a0
theorem F136_ok (K : Nat) (a0 : (List Zm)) (r : (List Zm)) (h : F136 K a0 = some r) : ACall P 136 ⟨[(.sl 14 (a0.map Zd) false)], [], (.clo 168 [(.ip [(.sl 14 (r.map Zd) false)])]), [], []⟩ := by
 refine Z1s Tryz.func136 Tryz.results136 rfl Tryz.ntmps136 rfl rfl rfl ?_
 intro E Q hP hN hro hret
 obtain ⟨P', nt', w0, F0, p0, S0, β0, ro0⟩ := E
 simp only at hP hN
 subst hP hN
 dsimp only [argT]
 unfold F136 at h
 refine Zj <| Zf <| Z2 I (Z2m (v := (.sl 14 (a0.map Zd) false)) (cs := [(.sl 14 (a0.map Zd) false)]) I I I I I) I <| Z2 I (Zp (v := .nilf) I I) I <| Zi <| Zh <| Zj <| Zf ?_
 refine Z2 I (Z5d (vs := [(.ptr 1 0)]) I ⟨rfl, trivial⟩) I <| Z2 I (Zp (v := (.clo 168 [(.ptr 1 0)])) I I) I <| Zi <| Zh <| Z1g <| At.ghost (st' := ⟨[(2, (.clo 168 [(.ip [(.sl 14 (a0.map Zd) false)])]))], []⟩) (fun a w h => (Z17 ⟨[(2, (.clo 168 [(.ip [(.sl 14 (a0.map Zd) false)])]))], []⟩ (Z42 (m := 1) (cs := [(.sl 14 (a0.map Zd) false)]) I a w (Z17 ⟨[(2, (.clo 168 [(.ptr 1 0)]))], [(1, (.box [(.sl 14 (a0.map Zd) false)]))]⟩ h ⟨rfl, trivial⟩ ⟨rfl, trivial⟩)) ⟨rfl, trivial⟩ trivial)) ?_
 have h := Option.some.inj h
 subst h
 refine (hret _ ?_).1
 exact ⟨[(.clo 168 [(.ip [(.sl 14 (a0.map Zd) false)])])], ⟨rfl, trivial⟩, rfl, trivial⟩
def F168_c5 (K : Nat) (v4 : (List Zm)) : Option ((List Zm)) :=
 some v4
def F168_l3 (K : Nat) (a1 : (List Zm)) (a899 : Zm → (List Zm) → Option ((List Zm))) (c6 : (List Zm) → Option ((List Zm))) : Nat → Int → (List Zm) → Option ((List Zm))
 | 0, _, _ => none
 | k3 + 1, v1, v2 =>
  if (decide (v1 < (a1.length : Int))) = true then
   if (0 : Int) ≤ v1 ∧ v1 < a1.length then
    (a899 (a1.getD v1.toNat Z8) v2).bind fun v9 =>
     (F168_l3 K a1 a899 c6 k3) (IntKind.i64.wrap (v1 + 1)) v9
   else none
  else
   c6 v2
def F168 (K : Nat) (a899 : Zm → (List Zm) → Option ((List Zm))) (a900 : (List Zm)) (a1 : (List Zm)) : Option ((List Zm)) :=
 F168_l3 K a1 a899 (F168_c5 K) K 0 a900
theorem F168_ok (K : Nat) (a899 : Zm → (List Zm) → Option ((List Zm))) (a900 : (List Zm)) (a1 : (List Zm)) (r : (List Zm)) (lr : Go.Loop) (h : F168 K a899 a900 a1 = some r) (hps : lr.params.size = 1) (hy : ∀ (x0 : Zm) (a900 : (List Zm)) (w : (List Zm)), a899 x0 a900 = some w → YCall P lr 1000 ⟨[(Zd x0)], [(1000, (.loop lr [2] [(.ptr 1001 0)])), (0, (.vec 14 (List.map Zd a900))), (1001, (.box [(.vs 0)]))], .bool true, [(1000, (.loop lr [2] [(.ptr 1001 0)])), (0, (.vec 14 (List.map Zd w))), (1001, (.box [(.vs 0)]))], [0]⟩) : ACall P 168 ⟨[(.yld 1000), (.ip [(.sl 14 (a1.map Zd) false)])], [(1000, (.loop lr [2] [(.ptr 1001 0)])), (0, (.vec 14 (List.map Zd a900))), (1001, (.box [(.vs 0)]))], .tup [], [(1000, (.loop lr [2] [(.ptr 1001 0)])), (0, (.vec 14 (List.map Zd r))), (1001, (.box [(.vs 0)]))], [0]⟩ := by
 refine Z1s Tryz.func168 Tryz.results168 rfl Tryz.ntmps168 rfl rfl rfl ?_
 intro E Q hP hN hro hret
 obtain ⟨P', nt', w0, F0, p0, S0, β0, ro0⟩ := E
 simp only at hP hN
 subst hP hN
 dsimp only [argT]
 unfold F168 at h
 refine Zj <| Zf <| Z2 I (Z2f (cs := [(.sl 14 (a1.map Zd) false)]) (v := (.sl 14 (a1.map Zd) false)) I o37 I I) I <| Z2 I (Z24 (l := a1) (enc := Zd) I s37 I) I <| Z2 I (Zo (v := (.int .i64 0)) I I) I <| Zi <| Zh <| AWp.weaken (st' := ⟨[(0, (.yld 1000)), (5, (.sl 14 (a1.map Zd) false)), (6, (.int .i64 (a1.length : Int))), (7, (.int .i64 0))], [(0, (.vec 14 (List.map Zd a900))), (1000, (.loop lr [2] [(.ptr 1001 0)])), (1001, (.box [(.vs 0)]))]⟩) ⟨rfl, rfl, rfl, rfl, trivial⟩ ⟨rfl, rfl, rfl, trivial⟩ ?_
 refine Z1n (V := Int × (List Zm)) (X := (List Zm)) (lp := fun k v => F168_l3 K a1 a899 (F168_c5 K) k v.1 v.2 = some r) (sh := fun v => ⟨[(0, (.yld 1000)), (5, (.sl 14 (a1.map Zd) false)), (6, (.int .i64 (a1.length : Int))), (7, (.int .i64 v.1))], [(0, (.vec 14 (List.map Zd v.2))), (1000, (.loop lr [2] [(.ptr 1001 0)])), (1001, (.box [(.vs 0)]))]⟩) (x := fun v => F168_c5 K v = some r) (shx := fun v => ⟨[], [(0, (.vec 14 (List.map Zd v))), (1000, (.loop lr [2] [(.ptr 1001 0)])), (1001, (.box [(.vs 0)]))]⟩) (k := K) (v := (0, a900)) h ?_ ?_
 ·intro v h
  revert h
  revert v
  intro v4 h
  try dsimp only at h ⊢
  unfold F168_c5 at h
  have h := Option.some.inj h
  subst h
  refine (hret _ ?_).2
  exact ⟨[], trivial, rfl, ⟨rfl, rfl, rfl, trivial⟩⟩
 ·intro N k3 v h IH3 J3
  obtain ⟨v1, v2⟩ := v
  try dsimp only at h IH3 J3 ⊢
  cases k3 with
  | zero => cases h
  | succ k3 =>
   rw [F168_l3] at h
   refine Zj <| Zf <| Z2 I (Z25 (k := .i64) (a := v1) (b := (a1.length : Int)) (c := (decide (v1 < (a1.length : Int)))) I I I I) I <| Zi <| Zh <| Zj ?_
   have hif := Z28 h
   refine Z16 I (fun hc => ?_) (fun hc => ?_)
   ·have h := hif.1 hc
    refine Z1b <| Zh <| Zj <| AWp.block <| Zj <| Zf ?_
    have ⟨hg8, h⟩ := Z13 h
    refine Z2 I (Z1w (k := .i64) (l := a1) (enc := Zd) (z := Z8) (n := v1) (cs := (Zd (a1.getD v1.toNat Z8)).cells) (full := false) I s37 I I hg8 I) I <| Z2 I (Z2i (cs := (Zd (a1.getD v1.toNat Z8)).cells) (vs := (Zd (a1.getD v1.toNat Z8)).cells) I a56 I I I) I <| Z2 I (Z1v (cs := [(.int .i64 0), (.int .i64 0), (.int .i64 0), (.int .i64 0), (.int .i64 0), (.int .i64 0), (.str []), (.str []), (.str []), (.int .i64 0), (.int .i64 0), (.bool false), (.sl 4 [] false), (.sl 2 [] false)]) I z56 I I I) I <| Z2 I (Z1e (cs := [(.int .i64 0), (.int .i64 0), (.int .i64 0), (.int .i64 0), (.int .i64 0), (.int .i64 0), (.str []), (.str []), (.str []), (.int .i64 0), (.int .i64 0), (.bool false), (.sl 4 [] false), (.sl 2 [] false)]) (vs := (Zd (a1.getD v1.toNat Z8)).cells) (ds := (Zd (a1.getD v1.toNat Z8)).cells) (v := (Zd (a1.getD v1.toNat Z8))) sz56 I I I I I I I I) I <| Zi <| Zh <| Zj <| Zf ?_
    refine Z2 I (Zo (v := (.yld 1000)) I I) I <| Z2 I (Z1l (cs := (Zd (a1.getD v1.toNat Z8)).cells) (vs := (Zd (a1.getD v1.toNat Z8)).cells) I a56 I I I I) I ?_
    have ⟨v9, hv9, h⟩ := Z1f h
    refine Z2 I (st_yield (d := some 13) (ks := [2]) (vs := [(.ptr 1001 0)]) (c := ⟨[(Zd (a1.getD v1.toNat Z8))], [(1000, (.loop lr [2] [(.ptr 1001 0)])), (0, (.vec 14 (List.map Zd v2))), (1001, (.box [(.vs 0)]))], .bool true, [(1000, (.loop lr [2] [(.ptr 1001 0)])), (0, (.vec 14 (List.map Zd v9))), (1001, (.box [(.vs 0)]))], [0]⟩) (ar := [(Zd (a1.getD v1.toNat Z8))]) (news := []) (forg := [0]) (hy (a1.getD v1.toNat Z8) v2 _ hv9) I hps I I ⟨rfl, trivial⟩ I ⟨rfl, rfl, rfl, trivial⟩ I) I <| Z2 I (Zbj (b := true) I I) I <| Zi <| Zh ?_
    refine Z16 (b := false) I (fun hc => ?_) (fun hc => ?_)
    ·cases hc
    refine Z1b <| At.end <| Zh <| Zf <| Z2 I (Z1u (k := .i64) (a := v1) (b := 1) (c := (IntKind.i64.wrap (v1 + 1))) I I I I) I <| Z2 I (Zo (v := (.int .i64 (IntKind.i64.wrap (v1 + 1)))) I I) I <| Zi ?_
    exact Zy (st' := ⟨[(0, (.yld 1000)), (5, (.sl 14 (a1.map Zd) false)), (6, (.int .i64 (a1.length : Int))), (7, (.int .i64 (IntKind.i64.wrap (v1 + 1))))], [(0, (.vec 14 (List.map Zd v9))), (1000, (.loop lr [2] [(.ptr 1001 0)])), (1001, (.box [(.vs 0)]))]⟩) ⟨rfl, rfl, rfl, rfl, trivial⟩ ⟨rfl, rfl, rfl, trivial⟩ (IH3 _ ((IntKind.i64.wrap (v1 + 1)), v9) (Nat.lt_succ_self _) h)
   ·have h := hif.2 hc
    refine AWp.exit <| At.thru ?_
    exact Zy (st' := ⟨[], [(0, (.vec 14 (List.map Zd v2))), (1000, (.loop lr [2] [(.ptr 1001 0)])), (1001, (.box [(.vs 0)]))]⟩) trivial ⟨rfl, rfl, rfl, trivial⟩ (J3 v2 h)
def F223_y4 (K : Nat) (x2 : Zm) (v1 : (List Zm)) : Option ((List Zm)) :=
 if v1.length + [x2].length ≤ 1073741824 then
  some (v1 ++ [x2])
 else none
def F223 (K : Nat) (a100 : (List Zm)) : Option ((List Zm)) :=
 (F168 K (F223_y4 K) [] a100).bind fun v5 =>
  some v5
theorem F223_ok (K : Nat) (a100 : (List Zm)) (r : (List Zm)) (h : F223 K a100 = some r) : ACall P 223 ⟨[(.sl 14 [] true), (.clo 168 [(.ip [(.sl 14 (a100.map Zd) false)])])], [], .vs 4, [(4, .vec 14 (List.map Zd r))], [4]⟩ := by
 refine Z1s Tryz.func223 Tryz.results223 rfl Tryz.ntmps223 rfl rfl rfl ?_
 intro E Q hP hN hro hret
 obtain ⟨P', nt', w0, F0, p0, S0, β0, ro0⟩ := E
 simp only at hP hN
 subst hP hN
 dsimp only [argT]
 unfold F223 at h
 refine Zj <| Zf <| Z2 I (Z2m (v := (.sl 14 [] true)) (cs := [(.sl 14 [] true)]) I I I I I) I <| Z2 I (Zp (v := (.sl 14 [] false)) I I) I <| Zi <| Zh <| Zj <| Zj ?_
 refine Zf <| Z2 I (Zo (v := (.clo 168 [(.ip [(.sl 14 (a100.map Zd) false)])])) I I) I <| Zi <| Zh <| AWp.block <| AWp.ghost (st' := ⟨[(2, (.ptr 2 0)), (6, (.clo 168 [(.ip [(.sl 14 (a100.map Zd) false)])]))], [(2, (.box [(.vs 12)])), (12, (.vec 14 (List.map Zd ([] : List Zm))))]⟩) (fun a w h => (Z17 ⟨[(2, (.ptr 2 0)), (6, (.clo 168 [(.ip [(.sl 14 (a100.map Zd) false)])]))], [(2, (.box [(.vs 12)])), (12, (.vec 14 (List.map Zd ([] : List Zm))))]⟩ (Z5s (n := 2) (m := 12) (sz := 14) (j := 0) I I I a w (Z17 ⟨[(2, (.ptr 2 0)), (6, (.clo 168 [(.ip [(.sl 14 (a100.map Zd) false)])]))], [(2, (.box [(.sl 14 [] true)]))]⟩ h ⟨rfl, rfl, trivial⟩ ⟨rfl, trivial⟩)) ⟨rfl, rfl, trivial⟩ ⟨rfl, rfl, trivial⟩)) ?_
 have ⟨v5, hv5, h⟩ := Z1f h
 refine AWp.weaken (st' := ⟨[(2, (.ptr 2 0)), (6, (.clo 168 [(.ip [(.sl 14 (a100.map Zd) false)])]))], [(2, (.box [(.vs 12)])), (12, (.vec 14 (List.map Zd [])))]⟩) ⟨rfl, rfl, trivial⟩ ⟨rfl, rfl, trivial⟩ ?_
 refine AWp.rangeFunc (n := 1) (f := 168) (caps := [(.ip [(.sl 14 (a100.map Zd) false)])]) (ks := [2]) (vs := [(.ptr 2 0)]) (ins := [(12, (.vec 14 (List.map Zd []))), (2, (.box [(.vs 12)]))]) (outs := [(12, (.vec 14 (List.map Zd v5))), (2, (.box [(.vs 12)]))]) (res := .tup []) (mv := [12]) (forg := [12]) (jump := none) hro Tryz.call168 I I I I ⟨rfl, trivial⟩ ⟨rfl, rfl, trivial⟩ I I I I (fun lr hst hpe hpr has hbd hsz => ?_) (fun _ => ?_) (fun c hc => by cases hc)
 ·have hend := Z9y hst hpe
  rw [hend]
  have hps : lr.params.size = 1 ∧ True := ⟨by rw [hpr]; rfl, trivial⟩
  have hy : ∀ (x2 : Zm) (v1 : (List Zm)) (w : (List Zm)), F223_y4 K x2 v1 = some w → YCall P lr 1000 ⟨[(Zd x2)], [(1000, .loop lr [2] [(.ptr 1001 0)]), (0, (.vec 14 (List.map Zd v1))), (1001, (.box [(.vs 0)]))], .bool true, [(1000, .loop lr [2] [(.ptr 1001 0)]), (0, (.vec 14 (List.map Zd w))), (1001, (.box [(.vs 0)]))], [0]⟩ := by
   intro x2 v1 w h
   unfold F223_y4 at h
   refine ycall_of (ks := [2]) (vs := [(.ptr 1001 0)]) (ps := [7]) rfl hst hsz hpr rfl (by decide) rfl rfl rfl ?_
   intro E Qa Qb hP hN hmid hfin
   obtain ⟨P', nt', w0, F0, p0, S0, β0, ro0⟩ := E
   simp only at hP hN
   subst hP hN
   refine AWp.code has ?_
   dsimp only [List.zip, List.zipWith, List.cons_append, List.nil_append]
   refine Zf <| Z2 I (Z1v (cs := [(.int .i64 0), (.int .i64 0), (.int .i64 0), (.int .i64 0), (.int .i64 0), (.int .i64 0), (.str []), (.str []), (.str []), (.int .i64 0), (.int .i64 0), (.bool false), (.sl 4 [] false), (.sl 2 [] false)]) I z56 I I I) I <| Z2 I (Z1e (cs := [(.int .i64 0), (.int .i64 0), (.int .i64 0), (.int .i64 0), (.int .i64 0), (.int .i64 0), (.str []), (.str []), (.str []), (.int .i64 0), (.int .i64 0), (.bool false), (.sl 4 [] false), (.sl 2 [] false)]) (vs := (Zd x2).cells) (ds := (Zd x2).cells) (v := (Zd x2)) sz56 I I I I I I I I) I <| Zi ?_
   refine hmid _ _ _ rfl ?_
   refine AWp.code hbd <| AWp.block <| Zf <| Z2 I (Zt (cs := [(.vs 0)]) (v := (.vs 0)) I o37 I I I) I <| Z2 I (Z1l (cs := (Zd x2).cells) (vs := (Zd x2).cells) I a56 I I I I) I <| Z2 I (Z1m (vs := [(Zd x2)]) (enc := Zd) (l := [x2]) I el37 I I ⟨rfl, trivial⟩ I Z2z I I I I) I ?_
   have ⟨hg3, h⟩ := Z13 h
   refine Z2 I (Z2p (m := 0) (enc := Zd) (l := v1) (l' := [x2]) (src := (.vs 10)) (rd := [(10, (.vec 14 (List.map Zd [x2])))]) I I el37 I u37 I I I I (oneRead I) Z2z hg3) I <| Z2 I (Z1e (cs := [.undef]) (vs := [(.vs 0)]) (ds := [(.vs 0)]) (v := (.vs 0)) sz37 I I I I I I I I) I <| Zi <| At.end ?_
   have h := Option.some.inj h
   subst h
   refine hfin _ _ _ none .normal rfl rfl rfl ?_
   rw [hend]
   exact ⟨rfl, rfl, rfl, trivial⟩
  exact (((F168_ok K (F223_y4 K) [] a100 v5 lr hv5 hps.1 hy).sw 1000 1).sw 0 12).sw 1001 2
 ·refine Zy (st' := ⟨[(2, (.ptr 2 0)), (6, (.clo 168 [(.ip [(.sl 14 (a100.map Zd) false)])]))], [(2, (.box [(.vs 12)])), (12, (.vec 14 (List.map Zd v5)))]⟩) ⟨rfl, rfl, trivial⟩ ⟨rfl, rfl, trivial⟩ <| At.end <| Zh <| Zj <| Zf <| Z2 I (Zt (cs := [(.vs 12)]) (v := (.vs 12)) I o37 I I I) I <| Z2 I (Zp (v := (.vs 12)) I I) I <| Zi ?_
  refine Zh <| Z1g <| At.ghost (st' := ⟨[(4, (.vs 4))], [(4, (.vec 14 (List.map Zd v5)))]⟩) (fun a w h => (Z17 ⟨[(4, (.vs 4))], [(4, (.vec 14 (List.map Zd v5)))]⟩ (Z4z (a := 12) (b := 4) I I a w (Z17 ⟨[(4, (.vs 12))], [(12, (.vec 14 (List.map Zd v5)))]⟩ h ⟨rfl, trivial⟩ ⟨rfl, trivial⟩)) ⟨rfl, trivial⟩ ⟨rfl, trivial⟩)) ?_
  have h := Option.some.inj h
  subst h
  refine (hret _ ?_).1
  exact ⟨[(.vs 4)], ⟨rfl, trivial⟩, rfl, ⟨rfl, trivial⟩⟩
def F166 (K : Nat) (a000 : (List Zm)) : Option ((List Zm)) :=
 (F223 K a000).bind fun v2 =>
  some v2
theorem F166_ok (K : Nat) (a000 : (List Zm)) (r : (List Zm)) (h : F166 K a000 = some r) : ACall P 166 ⟨[(.clo 168 [(.ip [(.sl 14 (a000.map Zd) false)])])], [], .vs 2, [(2, .vec 14 (List.map Zd r))], [2]⟩ := by
 refine Z1s Tryz.func166 Tryz.results166 rfl Tryz.ntmps166 rfl rfl rfl ?_
 intro E Q hP hN hro hret
 obtain ⟨P', nt', w0, F0, p0, S0, β0, ro0⟩ := E
 simp only at hP hN
 subst hP hN
 dsimp only [argT]
 unfold F166 at h
 refine Zj <| Zf <| Z2 I (Zp (v := (.sl 14 [] false)) I I) I <| Zi <| Zh <| Zj <| Zf <| Z2 I (Zo (v := (.clo 168 [(.ip [(.sl 14 (a000.map Zd) false)])])) I I) I ?_
 have ⟨v2, hv2, h⟩ := Z1f h
 refine Z2 I (Z8x (sz := 14) (es := (List.map Zd v2)) (ar := [(.sl 14 [] true), (.clo 168 [(.ip [(.sl 14 (a000.map Zd) false)])])]) (caps := []) Tryz.call223 ((F223_ok K a000 v2 hv2).sw 4 4) I I ⟨rfl, rfl, trivial⟩ I) I <| Z2 I (Zp (v := (.vs 4)) I I) I <| Zi <| Zh <| Z1g <| At.ghost (st' := ⟨[(2, (.vs 2))], [(2, (.vec 14 (List.map Zd v2)))]⟩) (fun a w h => (Z17 ⟨[(2, (.vs 2))], [(2, (.vec 14 (List.map Zd v2)))]⟩ (Z4z (a := 4) (b := 2) I I a w (Z17 ⟨[(2, (.vs 4))], [(4, (.vec 14 (List.map Zd v2)))]⟩ h ⟨rfl, trivial⟩ ⟨rfl, trivial⟩)) ⟨rfl, trivial⟩ ⟨rfl, trivial⟩)) ?_
 have h := Option.some.inj h
 subst h
 refine (hret _ ?_).1
 exact ⟨[(.vs 2)], ⟨rfl, trivial⟩, rfl, ⟨rfl, trivial⟩⟩
def F109 (K : Nat) (a0 : Int) : Option (Bool) :=
 some (a0 != a0)
theorem F109_ok (K : Nat) (a0 : Int) (r : Bool) (h : F109 K a0 = some r) : ACall P 109 ⟨[(.int .i64 a0)], [], (.bool r), [], []⟩ := by
 refine Z1s Tryz.func109 Tryz.results109 rfl Tryz.ntmps109 rfl rfl rfl ?_
 intro E Q hP hN hro hret
 obtain ⟨P', nt', w0, F0, p0, S0, β0, ro0⟩ := E
 simp only at hP hN
 subst hP hN
 dsimp only [argT]
 unfold F109 at h
 refine Zj <| Zf <| Z2 I (Zp (v := (.bool false)) I I) I <| Zi <| Zh <| Zj <| Zf <| Z2 I (Zo (v := (.int .i64 a0)) I I) I ?_
 refine Z2 I (Zo (v := (.int .i64 a0)) I I) I <| Z2 I (Z25 (k := .i64) (a := a0) (b := a0) (c := (a0 != a0)) I I I I) I <| Z2 I (Zp (v := (.bool (a0 != a0))) I I) I <| Zi <| Zh <| Z1g ?_
 have h := Option.some.inj h
 subst h
 refine (hret _ ?_).1
 exact ⟨[(.bool (a0 != a0))], ⟨rfl, trivial⟩, rfl, trivial⟩
def F68 (K : Nat) (a0 : Int) (a1 : Int) : Option (Int) :=
 (F109 K a0).bind fun v2 =>
  (F109 K a1).bind fun v4 =>
   if v2 = true then
    if v4 = true then
     some 0
    else
     some (Int.negSucc 0)
   else
    if v4 = true then
     some 1
    else
     if (decide (a0 < a1)) = true then
      some (Int.negSucc 0)
     else
      if (decide (a0 > a1)) = true then
       some 1
      else
       some 0
theorem Z8k (K : Nat) (a0 : Int) (a1 : Int) (r : Int) (h : F68 K a0 a1 = some r) : ACall P 68 ⟨[(.int .i64 a0), (.int .i64 a1)], [], (.int .i64 r), [], []⟩ := by
 refine Z1s Tryz.func68 Tryz.results68 rfl Tryz.ntmps68 rfl rfl rfl ?_
 intro E Q hP hN hro hret
 obtain ⟨P', nt', w0, F0, p0, S0, β0, ro0⟩ := E
 simp only at hP hN
 subst hP hN
 dsimp only [argT]
 unfold F68 at h
 refine Zj <| Zf <| Z2 I (Zp (v := (.int .i64 0)) I I) I <| Zi <| Zh <| Zj <| Zf <| Z2 I (Zo (v := (.int .i64 a0)) I I) I ?_
 have ⟨v2, hv2, h⟩ := Z1f h
 refine Z2 I (Z1o (ar := [(.int .i64 a0)]) (caps := []) Tryz.call109 (F109_ok K a0 v2 hv2) I I ⟨rfl, trivial⟩ I) I <| Z2 I (Zp (v := (.bool v2)) I I) I <| Zi <| Zh <| Zj <| Zf <| Z2 I (Zo (v := (.int .i64 a1)) I I) I ?_
 have ⟨v4, hv4, h⟩ := Z1f h
 refine Z2 I (Z1o (ar := [(.int .i64 a1)]) (caps := []) Tryz.call109 (F109_ok K a1 v4 hv4) I I ⟨rfl, trivial⟩ I) I <| Z2 I (Zp (v := (.bool v4)) I I) I <| Zi <| Zh <| Zj <| Zj <| Zf <| Z2 I (Zo (v := (.bool v2)) I I) I ?_
 refine Zi <| Zh ?_
 have hif := Z28 h
 refine Z16 I (fun hc => ?_) (fun hc => ?_)
 ·have h := hif.1 hc
  refine Zj <| Zj <| Zf <| Z2 I (Zo (v := (.bool v4)) I I) I <| Zi <| Zh ?_
  have hif := Z28 h
  refine Z16 I (fun hc => ?_) (fun hc => ?_)
  ·have h := hif.1 hc
   refine Zj <| Zf <| Z2 I (Zp (v := (.int .i64 0)) I I) I <| Zi <| Zh <| Z1g <| Z1k <| Z1k ?_
   have h := Option.some.inj h
   subst h
   refine (hret _ ?_).1
   exact ⟨[(.int .i64 0)], ⟨rfl, trivial⟩, rfl, trivial⟩
  ·have h := hif.2 hc
   refine Z1b <| Zh <| Zj <| Zf <| Z2 I (Zp (v := (.int .i64 (Int.negSucc 0))) I I) I <| Zi <| Zh <| Z1g ?_
   refine Z1k ?_
   have h := Option.some.inj h
   subst h
   refine (hret _ ?_).1
   exact ⟨[(.int .i64 (Int.negSucc 0))], ⟨rfl, trivial⟩, rfl, trivial⟩
 ·have h := hif.2 hc
  refine Z1b <| Zh <| Zj <| Zj <| Zf <| Z2 I (Zo (v := (.bool v4)) I I) I <| Zi <| Zh ?_
  have hif := Z28 h
  refine Z16 I (fun hc => ?_) (fun hc => ?_)
  ·have h := hif.1 hc
   refine Zj <| Zf <| Z2 I (Zp (v := (.int .i64 1)) I I) I <| Zi <| Zh <| Z1g <| Z1k ?_
   have h := Option.some.inj h
   subst h
   refine (hret _ ?_).1
   exact ⟨[(.int .i64 1)], ⟨rfl, trivial⟩, rfl, trivial⟩
  ·have h := hif.2 hc
   refine Z1b <| Zh <| Zj <| Zj <| Zf <| Z2 I (Zo (v := (.int .i64 a0)) I I) I <| Z2 I (Zo (v := (.int .i64 a1)) I I) I <| Z2 I (Z25 (k := .i64) (a := a0) (b := a1) (c := (decide (a0 < a1))) I I I I) I ?_
   refine Zi <| Zh ?_
   have hif := Z28 h
   refine Z16 I (fun hc => ?_) (fun hc => ?_)
   ·have h := hif.1 hc
    refine Zj <| Zf <| Z2 I (Zp (v := (.int .i64 (Int.negSucc 0))) I I) I <| Zi <| Zh <| Z1g <| Z1k ?_
    have h := Option.some.inj h
    subst h
    refine (hret _ ?_).1
    exact ⟨[(.int .i64 (Int.negSucc 0))], ⟨rfl, trivial⟩, rfl, trivial⟩
   ·have h := hif.2 hc
    refine Z1b <| Zh <| Zj <| Zj <| Zf <| Z2 I (Zo (v := (.int .i64 a0)) I I) I <| Z2 I (Zo (v := (.int .i64 a1)) I I) I <| Z2 I (Z25 (k := .i64) (a := a0) (b := a1) (c := (decide (a0 > a1))) I I I I) I ?_
    refine Zi <| Zh ?_
    have hif := Z28 h
    refine Z16 I (fun hc => ?_) (fun hc => ?_)
    ·have h := hif.1 hc
     refine Zj <| Zf <| Z2 I (Zp (v := (.int .i64 1)) I I) I <| Zi <| Zh <| Z1g <| Z1k ?_
     have h := Option.some.inj h
     subst h
     refine (hret _ ?_).1
     exact ⟨[(.int .i64 1)], ⟨rfl, trivial⟩, rfl, trivial⟩
    ·have h := hif.2 hc
     refine Z1b <| Zh <| Zj <| Zf <| Z2 I (Zp (v := (.int .i64 0)) I I) I <| Zi <| Zh <| Z1g ?_
     have h := Option.some.inj h
     subst h
     refine (hret _ ?_).1
     exact ⟨[(.int .i64 0)], ⟨rfl, trivial⟩, rfl, trivial⟩
def F169_c3 (K : Nat) (a0 : (List Int)) (a1 : (List Int)) : Option (Int) :=
 if (decide ((a0.length : Int) < (a1.length : Int))) = true then
  some (Int.negSucc 0)
 else
  some 0
def F169_l2 (K : Nat) (a0 : (List Int)) (a1 : (List Int)) (c4 : Option (Int)) : Nat → Int → Option (Int)
 | 0, _ => none
 | k2 + 1, v1 =>
  if (decide (v1 < (a0.length : Int))) = true then
   if (0 : Int) ≤ v1 ∧ v1 < a0.length then
    if (decide (v1 ≥ (a1.length : Int))) = true then
     some 1
    else
     if (0 : Int) ≤ v1 ∧ v1 < a1.length then
      (F68 K (a0.getD v1.toNat 0) (a1.getD v1.toNat 0)).bind fun v9 =>
       if (v9 != 0) = true then
        some v9
       else
        (F169_l2 K a0 a1 c4 k2) (IntKind.i64.wrap (v1 + 1))
     else none
   else none
  else
   c4
def F169 (K : Nat) (a0 : (List Int)) (a1 : (List Int)) : Option (Int) :=
 F169_l2 K a0 a1 (F169_c3 K a0 a1) K 0
theorem F169_ok (K : Nat) (a0 : (List Int)) (a1 : (List Int)) (r : Int) (h : F169 K a0 a1 = some r) : ACall P 169 ⟨[(.sl 1 (a0.map Z2l) false), (.sl 1 (a1.map Z2l) false)], [], (.int .i64 r), [], []⟩ := by
 refine Z1s Tryz.func169 Tryz.results169 rfl Tryz.ntmps169 rfl rfl rfl ?_
 intro E Q hP hN hro hret
 obtain ⟨P', nt', w0, F0, p0, S0, β0, ro0⟩ := E
 simp only at hP hN
 subst hP hN
 dsimp only [argT]
 unfold F169 at h
 refine Zj <| Zf <| Z2 I (Zp (v := (.int .i64 0)) I I) I <| Zi <| Zh <| Zj <| Zj <| Zf ?_
 refine Z2 I (Zo (v := (.sl 1 (a0.map Z2l) false)) I I) I <| Z2 I (Z24 (l := a0) (enc := Z2l) I s65 I) I <| Z2 I (Zo (v := (.int .i64 0)) I I) I <| Zi <| Zh <| AWp.weaken (st' := ⟨[(0, (.sl 1 (a0.map Z2l) false)), (1, (.sl 1 (a1.map Z2l) false)), (9, (.sl 1 (a0.map Z2l) false)), (10, (.int .i64 (a0.length : Int))), (11, (.int .i64 0))], []⟩) ⟨rfl, rfl, rfl, rfl, rfl, trivial⟩ trivial ?_
 refine Z1n (V := Int) (X := Unit) (lp := fun k v => F169_l2 K a0 a1 (F169_c3 K a0 a1) k v = some r) (sh := fun v => ⟨[(0, (.sl 1 (a0.map Z2l) false)), (1, (.sl 1 (a1.map Z2l) false)), (9, (.sl 1 (a0.map Z2l) false)), (10, (.int .i64 (a0.length : Int))), (11, (.int .i64 v))], []⟩) (x := fun v => F169_c3 K a0 a1 = some r) (shx := fun v => ⟨[(0, (.sl 1 (a0.map Z2l) false)), (1, (.sl 1 (a1.map Z2l) false))], []⟩) (k := K) (v := 0) h ?_ ?_
 ·intro v h
  try dsimp only at h ⊢
  unfold F169_c3 at h
  refine Zh <| Zj <| Zj <| Zf <| Z2 I (Zo (v := (.sl 1 (a0.map Z2l) false)) I I) I <| Z2 I (Z24 (l := a0) (enc := Z2l) I s65 I) I <| Z2 I (Zo (v := (.sl 1 (a1.map Z2l) false)) I I) I <| Z2 I (Z24 (l := a1) (enc := Z2l) I s65 I) I ?_
  refine Z2 I (Z25 (k := .i64) (a := (a0.length : Int)) (b := (a1.length : Int)) (c := (decide ((a0.length : Int) < (a1.length : Int)))) I I I I) I <| Zi <| Zh ?_
  have hif := Z28 h
  refine Z16 I (fun hc => ?_) (fun hc => ?_)
  ·have h := hif.1 hc
   refine Zj <| Zf <| Z2 I (Zp (v := (.int .i64 (Int.negSucc 0))) I I) I <| Zi <| Zh <| Z1g <| Z1k ?_
   have h := Option.some.inj h
   subst h
   refine (hret _ ?_).1
   exact ⟨[(.int .i64 (Int.negSucc 0))], ⟨rfl, trivial⟩, rfl, trivial⟩
  ·have h := hif.2 hc
   refine Z1b <| Zh <| Zj <| Zf <| Z2 I (Zp (v := (.int .i64 0)) I I) I <| Zi <| Zh <| Z1g ?_
   have h := Option.some.inj h
   subst h
   refine (hret _ ?_).1
   exact ⟨[(.int .i64 0)], ⟨rfl, trivial⟩, rfl, trivial⟩
 ·intro N k2 v h IH2 J2
  revert h
  revert v
  intro v1 h
  try dsimp only at h IH2 J2 ⊢
  cases k2 with
  | zero => cases h
  | succ k2 =>
   rw [F169_l2] at h
   refine Zj <| Zf <| Z2 I (Z25 (k := .i64) (a := v1) (b := (a0.length : Int)) (c := (decide (v1 < (a0.length : Int)))) I I I I) I <| Zi <| Zh <| Zj ?_
   have hif := Z28 h
   refine Z16 I (fun hc => ?_) (fun hc => ?_)
   ·have h := hif.1 hc
    refine Z1b <| Zh <| Zj <| AWp.block <| Zj <| Zf <| Z2 I (Zo (v := (.int .i64 v1)) I I) I ?_
    have ⟨hg6, h⟩ := Z13 h
    refine Z2 I (Z1w (k := .i64) (l := a0) (enc := Z2l) (z := 0) (n := v1) (cs := [(.int .i64 (a0.getD v1.toNat 0))]) (full := false) I s65 I I hg6 I) I <| Z2 I (Z2f (cs := [(.int .i64 (a0.getD v1.toNat 0))]) (v := (.int .i64 (a0.getD v1.toNat 0))) I o3 I I) I <| Z2 I (Zp (v := (.int .i64 v1)) I I) I <| Z2 I (Zp (v := (.int .i64 (a0.getD v1.toNat 0))) I I) I <| Zi <| Zh <| Zj <| Zj ?_
    refine Zf <| Z2 I (Zo (v := (.int .i64 v1)) I I) I <| Z2 I (Zo (v := (.sl 1 (a1.map Z2l) false)) I I) I <| Z2 I (Z24 (l := a1) (enc := Z2l) I s65 I) I <| Z2 I (Z25 (k := .i64) (a := v1) (b := (a1.length : Int)) (c := (decide (v1 ≥ (a1.length : Int)))) I I I I) I <| Zi <| Zh ?_
    have hif := Z28 h
    refine Z16 I (fun hc => ?_) (fun hc => ?_)
    ·have h := hif.1 hc
     refine Zj <| Zf <| Z2 I (Zp (v := (.int .i64 1)) I I) I <| Zi <| Zh <| Z1g <| Z1k <| At.overR ?_
     refine Z1k ?_
     refine Z1k (At.overR ?_)
     refine Z1k ?_
     have h := Option.some.inj h
     subst h
     refine (hret _ ?_).1
     exact ⟨[(.int .i64 1)], ⟨rfl, trivial⟩, rfl, trivial⟩
    ·have h := hif.2 hc
     refine Z1b <| Zh <| Zj <| Zf <| Z2 I (Zo (v := (.sl 1 (a1.map Z2l) false)) I I) I <| Z2 I (Zo (v := (.int .i64 v1)) I I) I ?_
     have ⟨hg7, h⟩ := Z13 h
     refine Z2 I (Z1w (k := .i64) (l := a1) (enc := Z2l) (z := 0) (n := v1) (cs := [(.int .i64 (a1.getD v1.toNat 0))]) (full := false) I s65 I I hg7 I) I <| Z2 I (Z2f (cs := [(.int .i64 (a1.getD v1.toNat 0))]) (v := (.int .i64 (a1.getD v1.toNat 0))) I o3 I I) I <| Z2 I (Zp (v := (.int .i64 (a1.getD v1.toNat 0))) I I) I <| Zi <| Zh <| Zj <| Zf <| Z2 I (Zo (v := (.int .i64 (a0.getD v1.toNat 0))) I I) I ?_
     refine Z2 I (Zo (v := (.int .i64 (a1.getD v1.toNat 0))) I I) I ?_
     have ⟨v9, hv9, h⟩ := Z1f h
     refine Z2 I (Z1o (ar := [(.int .i64 (a0.getD v1.toNat 0)), (.int .i64 (a1.getD v1.toNat 0))]) (caps := []) Tryz.call68 (Z8k K (a0.getD v1.toNat 0) (a1.getD v1.toNat 0) v9 hv9) I I ⟨rfl, rfl, trivial⟩ I) I <| Z2 I (Zp (v := (.int .i64 v9)) I I) I <| Zi <| Zh <| Zj <| Zf <| Z2 I (Zo (v := (.int .i64 v9)) I I) I <| Z2 I (Z25 (k := .i64) (a := v9) (b := 0) (c := (v9 != 0)) I I I I) I ?_
     refine Zi <| Zh ?_
     have hif := Z28 h
     refine Z16 I (fun hc => ?_) (fun hc => ?_)
     ·have h := hif.1 hc
      refine Zj <| Zf <| Z2 I (Zo (v := (.int .i64 v9)) I I) I <| Z2 I (Zp (v := (.int .i64 v9)) I I) I <| Zi <| Zh <| Z1g <| At.overR ?_
      refine Z1k ?_
      refine Z1k (At.overR ?_)
      refine Z1k ?_
      have h := Option.some.inj h
      subst h
      refine (hret _ ?_).1
      exact ⟨[(.int .i64 v9)], ⟨rfl, trivial⟩, rfl, trivial⟩
     ·have h := hif.2 hc
      refine Z1b <| At.end <| Zh <| Zf <| Z2 I (Z1u (k := .i64) (a := v1) (b := 1) (c := (IntKind.i64.wrap (v1 + 1))) I I I I) I <| Z2 I (Zo (v := (.int .i64 (IntKind.i64.wrap (v1 + 1)))) I I) I <| Zi ?_
      exact Zy (st' := ⟨[(0, (.sl 1 (a0.map Z2l) false)), (1, (.sl 1 (a1.map Z2l) false)), (9, (.sl 1 (a0.map Z2l) false)), (10, (.int .i64 (a0.length : Int))), (11, (.int .i64 (IntKind.i64.wrap (v1 + 1))))], []⟩) ⟨rfl, rfl, rfl, rfl, rfl, trivial⟩ trivial (IH2 _ (IntKind.i64.wrap (v1 + 1)) (Nat.lt_succ_self _) h)
   ·have h := hif.2 hc
    refine AWp.exit <| At.thru ?_
    exact Zy (st' := ⟨[(0, (.sl 1 (a0.map Z2l) false)), (1, (.sl 1 (a1.map Z2l) false))], []⟩) ⟨rfl, rfl, trivial⟩ trivial (J2 () h)
def F110 (K : Nat) (a0 : Str) : Option (Bool) :=
 some (!(a0 == a0))
theorem F110_ok (K : Nat) (a0 : Str) (r : Bool) (h : F110 K a0 = some r) : ACall P 110 ⟨[(.str a0)], [], (.bool r), [], []⟩ := by
 refine Z1s Tryz.func110 Tryz.results110 rfl Tryz.ntmps110 rfl rfl rfl ?_
 intro E Q hP hN hro hret
 obtain ⟨P', nt', w0, F0, p0, S0, β0, ro0⟩ := E
 simp only at hP hN
 subst hP hN
 dsimp only [argT]
 unfold F110 at h
 refine Zj <| Zf <| Z2 I (Zp (v := (.bool false)) I I) I <| Zi <| Zh <| Zj <| Zf <| Z2 I (Zo (v := (.str a0)) I I) I ?_
 refine Z2 I (Zo (v := (.str a0)) I I) I <| Z2 I (Z3c (a := a0) (b := a0) (c := (!(a0 == a0))) I I I I) I <| Z2 I (Zp (v := (.bool (!(a0 == a0)))) I I) I <| Zi <| Zh <| Z1g ?_
 have h := Option.some.inj h
 subst h
 refine (hret _ ?_).1
 exact ⟨[(.bool (!(a0 == a0)))], ⟨rfl, trivial⟩, rfl, trivial⟩
def F69 (K : Nat) (a0 : Str) (a1 : Str) : Option (Int) :=
 (F110 K a0).bind fun v2 =>
  (F110 K a1).bind fun v4 =>
   if v2 = true then
    if v4 = true then
     some 0
    else
     some (Int.negSucc 0)
   else
    if v4 = true then
     some 1
    else
     if (slt a0 a1) = true then
      some (Int.negSucc 0)
     else
      if (!(slt a0 a1 || a0 == a1)) = true then
       some 1
      else
       some 0
theorem Z6c (K : Nat) (a0 : Str) (a1 : Str) (r : Int) (h : F69 K a0 a1 = some r) : ACall P 69 ⟨[(.str a0), (.str a1)], [], (.int .i64 r), [], []⟩ := by
 refine Z1s Tryz.func69 Tryz.results69 rfl Tryz.ntmps69 rfl rfl rfl ?_
 intro E Q hP hN hro hret
 obtain ⟨P', nt', w0, F0, p0, S0, β0, ro0⟩ := E
 simp only at hP hN
 subst hP hN
 dsimp only [argT]
 unfold F69 at h
 refine Zj <| Zf <| Z2 I (Zp (v := (.int .i64 0)) I I) I <| Zi <| Zh <| Zj <| Zf <| Z2 I (Zo (v := (.str a0)) I I) I ?_
 have ⟨v2, hv2, h⟩ := Z1f h
 refine Z2 I (Z1o (ar := [(.str a0)]) (caps := []) Tryz.call110 (F110_ok K a0 v2 hv2) I I ⟨rfl, trivial⟩ I) I <| Z2 I (Zp (v := (.bool v2)) I I) I <| Zi <| Zh <| Zj <| Zf <| Z2 I (Zo (v := (.str a1)) I I) I ?_
 have ⟨v4, hv4, h⟩ := Z1f h
 refine Z2 I (Z1o (ar := [(.str a1)]) (caps := []) Tryz.call110 (F110_ok K a1 v4 hv4) I I ⟨rfl, trivial⟩ I) I <| Z2 I (Zp (v := (.bool v4)) I I) I <| Zi <| Zh <| Zj <| Zj <| Zf <| Z2 I (Zo (v := (.bool v2)) I I) I ?_
 refine Zi <| Zh ?_
 have hif := Z28 h
 refine Z16 I (fun hc => ?_) (fun hc => ?_)
 ·have h := hif.1 hc
  refine Zj <| Zj <| Zf <| Z2 I (Zo (v := (.bool v4)) I I) I <| Zi <| Zh ?_
  have hif := Z28 h
  refine Z16 I (fun hc => ?_) (fun hc => ?_)
  ·have h := hif.1 hc
   refine Zj <| Zf <| Z2 I (Zp (v := (.int .i64 0)) I I) I <| Zi <| Zh <| Z1g <| Z1k <| Z1k ?_
   have h := Option.some.inj h
   subst h
   refine (hret _ ?_).1
   exact ⟨[(.int .i64 0)], ⟨rfl, trivial⟩, rfl, trivial⟩
  ·have h := hif.2 hc
   refine Z1b <| Zh <| Zj <| Zf <| Z2 I (Zp (v := (.int .i64 (Int.negSucc 0))) I I) I <| Zi <| Zh <| Z1g ?_
   refine Z1k ?_
   have h := Option.some.inj h
   subst h
   refine (hret _ ?_).1
   exact ⟨[(.int .i64 (Int.negSucc 0))], ⟨rfl, trivial⟩, rfl, trivial⟩
 ·have h := hif.2 hc
  refine Z1b <| Zh <| Zj <| Zj <| Zf <| Z2 I (Zo (v := (.bool v4)) I I) I <| Zi <| Zh ?_
  have hif := Z28 h
  refine Z16 I (fun hc => ?_) (fun hc => ?_)
  ·have h := hif.1 hc
   refine Zj <| Zf <| Z2 I (Zp (v := (.int .i64 1)) I I) I <| Zi <| Zh <| Z1g <| Z1k ?_
   have h := Option.some.inj h
   subst h
   refine (hret _ ?_).1
   exact ⟨[(.int .i64 1)], ⟨rfl, trivial⟩, rfl, trivial⟩
  ·have h := hif.2 hc
   refine Z1b <| Zh <| Zj <| Zj <| Zf <| Z2 I (Zo (v := (.str a0)) I I) I <| Z2 I (Zo (v := (.str a1)) I I) I <| Z2 I (Z3c (a := a0) (b := a1) (c := (slt a0 a1)) I I I I) I ?_
   refine Zi <| Zh ?_
   have hif := Z28 h
   refine Z16 I (fun hc => ?_) (fun hc => ?_)
   ·have h := hif.1 hc
    refine Zj <| Zf <| Z2 I (Zp (v := (.int .i64 (Int.negSucc 0))) I I) I <| Zi <| Zh <| Z1g <| Z1k ?_
    have h := Option.some.inj h
    subst h
    refine (hret _ ?_).1
    exact ⟨[(.int .i64 (Int.negSucc 0))], ⟨rfl, trivial⟩, rfl, trivial⟩
   ·have h := hif.2 hc
    refine Z1b <| Zh <| Zj <| Zj <| Zf <| Z2 I (Zo (v := (.str a0)) I I) I <| Z2 I (Zo (v := (.str a1)) I I) I <| Z2 I (Z3c (a := a0) (b := a1) (c := (!(slt a0 a1 || a0 == a1))) I I I I) I ?_
    refine Zi <| Zh ?_
    have hif := Z28 h
    refine Z16 I (fun hc => ?_) (fun hc => ?_)
    ·have h := hif.1 hc
     refine Zj <| Zf <| Z2 I (Zp (v := (.int .i64 1)) I I) I <| Zi <| Zh <| Z1g <| Z1k ?_
     have h := Option.some.inj h
     subst h
     refine (hret _ ?_).1
     exact ⟨[(.int .i64 1)], ⟨rfl, trivial⟩, rfl, trivial⟩
    ·have h := hif.2 hc
     refine Z1b <| Zh <| Zj <| Zf <| Z2 I (Zp (v := (.int .i64 0)) I I) I <| Zi <| Zh <| Z1g ?_
     have h := Option.some.inj h
     subst h
     refine (hret _ ?_).1
     exact ⟨[(.int .i64 0)], ⟨rfl, trivial⟩, rfl, trivial⟩
def F170 (K : Nat) (a0 : Bool) : Option (Int) :=
 if a0 = true then
  some 1
 else
  some 0
theorem F170_ok (K : Nat) (a0 : Bool) (r : Int) (h : F170 K a0 = some r) : ACall P 170 ⟨[(.bool a0)], [], (.int .i64 r), [], []⟩ := by
 refine Z1s Tryz.func170 Tryz.results170 rfl Tryz.ntmps170 rfl rfl rfl ?_
 intro E Q hP hN hro hret
 obtain ⟨P', nt', w0, F0, p0, S0, β0, ro0⟩ := E
 simp only at hP hN
 subst hP hN
 dsimp only [argT]
 unfold F170 at h
 refine Zj <| Zf <| Z2 I (Zp (v := (.int .i64 0)) I I) I <| Zi <| Zh <| Zj <| Zj <| Zf ?_
 refine Z2 I (Zo (v := (.bool a0)) I I) I <| Zi <| Zh ?_
 have hif := Z28 h
 refine Z16 I (fun hc => ?_) (fun hc => ?_)
 ·have h := hif.1 hc
  refine Zj <| Zf <| Z2 I (Zp (v := (.int .i64 1)) I I) I <| Zi <| Zh <| Z1g <| Z1k ?_
  have h := Option.some.inj h
  subst h
  refine (hret _ ?_).1
  exact ⟨[(.int .i64 1)], ⟨rfl, trivial⟩, rfl, trivial⟩
 ·have h := hif.2 hc
  refine Z1b <| Zh <| Zj <| Zf <| Z2 I (Zp (v := (.int .i64 0)) I I) I <| Zi <| Zh <| Z1g ?_
  have h := Option.some.inj h
  subst h
  refine (hret _ ?_).1
  exact ⟨[(.int .i64 0)], ⟨rfl, trivial⟩, rfl, trivial⟩
def Zat (K : Nat) : Option (Int) :=
 some 0
def Za2 (K : Nat) (a0 : (List Int)) (c4 : Option (Int)) : Nat → Int → Option (Int)
 | 0, _ => none
 | k2 + 1, v1 =>
  if (decide (v1 < (a0.length : Int))) = true then
   if (0 : Int) ≤ v1 ∧ v1 < a0.length then
    if ((a0.getD v1.toNat 0) != 0) = true then
     some (a0.getD v1.toNat 0)
    else
     (Za2 K a0 c4 k2) (IntKind.i64.wrap (v1 + 1))
   else none
  else
   c4
def F67 (K : Nat) (a0 : (List Int)) : Option (Int) :=
 Za2 K a0 (Zat K) K 0
theorem Zb6 (K : Nat) (a0 : (List Int)) (r : Int) (h : F67 K a0 = some r) : ACall P 67 ⟨[(.sl 1 (a0.map Z2l) false)], [], (.int .i64 r), [], []⟩ := by
 refine Z1s Tryz.func67 Tryz.results67 rfl Tryz.ntmps67 rfl rfl rfl ?_
 intro E Q hP hN hro hret
 obtain ⟨P', nt', w0, F0, p0, S0, β0, ro0⟩ := E
 simp only at hP hN
 subst hP hN
 dsimp only [argT]
 unfold F67 at h
 refine Zj <| Zf <| Z2 I (Zp (v := (.int .i64 0)) I I) I <| Zi <| Zh <| Zj <| Zf <| Z2 I (Zp (v := (.int .i64 0)) I I) I ?_
 refine Zi <| Zh <| Zj <| Zj <| Zf <| Z2 I (Zo (v := (.sl 1 (a0.map Z2l) false)) I I) I <| Z2 I (Z24 (l := a0) (enc := Z2l) I s65 I) I <| Z2 I (Zo (v := (.int .i64 0)) I I) I ?_
 refine Zi <| Zh <| AWp.weaken (st' := ⟨[(3, (.int .i64 0)), (6, (.sl 1 (a0.map Z2l) false)), (7, (.int .i64 (a0.length : Int))), (8, (.int .i64 0))], []⟩) ⟨rfl, rfl, rfl, rfl, trivial⟩ trivial ?_
 refine Z1n (V := Int) (X := Unit) (lp := fun k v => Za2 K a0 (Zat K) k v = some r) (sh := fun v => ⟨[(3, (.int .i64 0)), (6, (.sl 1 (a0.map Z2l) false)), (7, (.int .i64 (a0.length : Int))), (8, (.int .i64 v))], []⟩) (x := fun v => Zat K = some r) (shx := fun v => ⟨[(3, (.int .i64 0))], []⟩) (k := K) (v := 0) h ?_ ?_
 ·intro v h
  try dsimp only at h ⊢
  unfold Zat at h
  refine Zh <| Zj <| Zf <| Z2 I (Zo (v := (.int .i64 0)) I I) I <| Z2 I (Zp (v := (.int .i64 0)) I I) I <| Zi <| Zh <| Z1g ?_
  have h := Option.some.inj h
  subst h
  refine (hret _ ?_).1
  exact ⟨[(.int .i64 0)], ⟨rfl, trivial⟩, rfl, trivial⟩
 ·intro N k2 v h IH2 J2
  revert h
  revert v
  intro v1 h
  try dsimp only at h IH2 J2 ⊢
  cases k2 with
  | zero => cases h
  | succ k2 =>
   rw [Za2] at h
   refine Zj <| Zf <| Z2 I (Z25 (k := .i64) (a := v1) (b := (a0.length : Int)) (c := (decide (v1 < (a0.length : Int)))) I I I I) I <| Zi <| Zh <| Zj ?_
   have hif := Z28 h
   refine Z16 I (fun hc => ?_) (fun hc => ?_)
   ·have h := hif.1 hc
    refine Z1b <| Zh <| Zj <| AWp.block <| Zj <| Zf ?_
    have ⟨hg6, h⟩ := Z13 h
    refine Z2 I (Z1w (k := .i64) (l := a0) (enc := Z2l) (z := 0) (n := v1) (cs := [(.int .i64 (a0.getD v1.toNat 0))]) (full := false) I s65 I I hg6 I) I <| Z2 I (Z2f (cs := [(.int .i64 (a0.getD v1.toNat 0))]) (v := (.int .i64 (a0.getD v1.toNat 0))) I o3 I I) I <| Z2 I (Zp (v := (.int .i64 (a0.getD v1.toNat 0))) I I) I <| Zi <| Zh <| Zj <| Zf <| Z2 I (Zo (v := (.int .i64 (a0.getD v1.toNat 0))) I I) I ?_
    refine Z2 I (Zo (v := (.int .i64 0)) I I) I <| Z2 I (Z25 (k := .i64) (a := (a0.getD v1.toNat 0)) (b := 0) (c := ((a0.getD v1.toNat 0) != 0)) I I I I) I <| Zi <| Zh ?_
    have hif := Z28 h
    refine Z16 I (fun hc => ?_) (fun hc => ?_)
    ·have h := hif.1 hc
     refine Zj <| Zf <| Z2 I (Zo (v := (.int .i64 (a0.getD v1.toNat 0))) I I) I <| Z2 I (Zp (v := (.int .i64 (a0.getD v1.toNat 0))) I I) I <| Zi <| Zh <| Z1g <| At.overR ?_
     refine Z1k ?_
     refine Z1k (At.overR ?_)
     refine Z1k ?_
     have h := Option.some.inj h
     subst h
     refine (hret _ ?_).1
     exact ⟨[(.int .i64 (a0.getD v1.toNat 0))], ⟨rfl, trivial⟩, rfl, trivial⟩
    ·have h := hif.2 hc
     refine Z1b <| At.end <| Zh <| Zf <| Z2 I (Z1u (k := .i64) (a := v1) (b := 1) (c := (IntKind.i64.wrap (v1 + 1))) I I I I) I <| Z2 I (Zo (v := (.int .i64 (IntKind.i64.wrap (v1 + 1)))) I I) I <| Zi ?_
     exact Zy (st' := ⟨[(3, (.int .i64 0)), (6, (.sl 1 (a0.map Z2l) false)), (7, (.int .i64 (a0.length : Int))), (8, (.int .i64 (IntKind.i64.wrap (v1 + 1))))], []⟩) ⟨rfl, rfl, rfl, rfl, trivial⟩ trivial (IH2 _ (IntKind.i64.wrap (v1 + 1)) (Nat.lt_succ_self _) h)
   ·have h := hif.2 hc
    refine AWp.exit <| At.thru ?_
    exact Zy (st' := ⟨[(3, (.int .i64 0))], []⟩) ⟨rfl, trivial⟩ trivial (J2 () h)
def F227 (K : Nat) (a0 : Z2r) (a1 : Z2r) : Option (Int) :=
 (F68 K a0.Kind a1.Kind).bind fun v2 =>
  (F69 K a0.Text a1.Text).bind fun v4 =>
   (F68 K a0.Int a1.Int).bind fun v6 =>
    (F67 K [v2, v4, v6]).bind fun v8 =>
     some v8
theorem F227_ok (K : Nat) (a0 : Z2r) (a1 : Z2r) (r : Int) (h : F227 K a0 a1 = some r) : ACall P 227 ⟨[(Z2h a0), (Z2h a1)], [], (.int .i64 r), [], []⟩ := by
 refine Z1s Tryz.func227 Tryz.results227 rfl Tryz.ntmps227 rfl rfl rfl ?_
 intro E Q hP hN hro hret
 obtain ⟨P', nt', w0, F0, p0, S0, β0, ro0⟩ := E
 simp only at hP hN
 subst hP hN
 dsimp only [argT]
 unfold F227 at h
 refine Zj <| Zf <| Z2 I (Z2m (v := (Z2h a0)) (cs := (Z2h a0).cells) I I I I I) I <| Z2 I (Z2m (v := (Z2h a1)) (cs := (Z2h a1).cells) I I I I I) I <| Z2 I (Zp (v := (.int .i64 0)) I I) I <| Zi <| Zh <| Zj ?_
 refine Z1r mixed <| Zb 0 I (Zr (m := 2) (o := 0) I f172_0 I I) <| Zb 1 I (Zt (cs := (Z2h a0).cells) (v := (.int .i64 a0.Kind)) I o3 I I I) <| Zb 2 I (Zr (m := 3) (o := 0) I f172_0 I I) <| Zb 3 I (Zt (cs := (Z2h a1).cells) (v := (.int .i64 a1.Kind)) I o3 I I I) ?_
 have ⟨v2, hv2, h⟩ := Z1f h
 refine Zb 4 I (Z1o (ar := [(.int .i64 a0.Kind), (.int .i64 a1.Kind)]) (caps := []) Tryz.call68 (Z8k K a0.Kind a1.Kind v2 hv2) I I ⟨rfl, rfl, trivial⟩ I) <| Zb 5 I (Zr (m := 2) (o := 0) I f172_1 I I) <| Zb 6 I (Zt (cs := (Z2h a0).cells) (v := (.str a0.Text)) I o9 I I I) <| Zb 7 I (Zr (m := 3) (o := 0) I f172_1 I I) <| Zb 8 I (Zt (cs := (Z2h a1).cells) (v := (.str a1.Text)) I o9 I I I) ?_
 have ⟨v4, hv4, h⟩ := Z1f h
 refine Zb 9 I (Z1o (ar := [(.str a0.Text), (.str a1.Text)]) (caps := []) Tryz.call69 (Z6c K a0.Text a1.Text v4 hv4) I I ⟨rfl, rfl, trivial⟩ I) <| Zb 10 I (Zr (m := 2) (o := 0) I f172_2 I I) <| Zb 11 I (Zt (cs := (Z2h a0).cells) (v := (.int .i64 a0.Int)) I o3 I I I) <| Zb 12 I (Zr (m := 3) (o := 0) I f172_2 I I) <| Zb 13 I (Zt (cs := (Z2h a1).cells) (v := (.int .i64 a1.Int)) I o3 I I I) ?_
 have ⟨v6, hv6, h⟩ := Z1f h
 refine Zb 14 I (Z1o (ar := [(.int .i64 a0.Int), (.int .i64 a1.Int)]) (caps := []) Tryz.call68 (Z8k K a0.Int a1.Int v6 hv6) I I ⟨rfl, rfl, trivial⟩ I) <| Zb 15 I (Z1m (vs := [(.int .i64 v2), (.int .i64 v4), (.int .i64 v6)]) (enc := Z2l) (l := [v2, v4, v6]) I el65 I I ⟨rfl, rfl, rfl, trivial⟩ I Z53 I I I I) ?_
 have ⟨v8, hv8, h⟩ := Z1f h
 refine Zb 16 I (Z66 (rd := [(20, (.vec 1 (List.map Z2l [v2, v4, v6])))]) (ar := [(.vs 20)]) (caps := []) Tryz.call67 (Zb6 K [v2, v4, v6] v8 hv8) I I ⟨rfl, trivial⟩ (Z4f ⟨rfl, trivial⟩) I I I) <| Zb 17 I (Zp (v := (.int .i64 v8)) I I) <| AOpsD.nil (by kernel_rfl) I <| Zh <| Z1g ?_
 have h := Option.some.inj h
 subst h
 refine (hret _ ?_).1
 exact ⟨[(.int .i64 v8)], ⟨rfl, trivial⟩, rfl, trivial⟩
def F226 (K : Nat) (a0 : Z1z) (a1 : Z1z) : Option (Int) :=
 (F69 K a0.Key a1.Key).bind fun v2 =>
  (F227 K a0.Value a1.Value).bind fun v4 =>
   (F67 K [v2, v4]).bind fun v6 =>
    some v6
theorem F226_ok (K : Nat) (a0 : Z1z) (a1 : Z1z) (r : Int) (h : F226 K a0 a1 = some r) : ACall P 226 ⟨[(Zw a0), (Zw a1)], [], (.int .i64 r), [], []⟩ := by
 refine Z1s Tryz.func226 Tryz.results226 rfl Tryz.ntmps226 rfl rfl rfl ?_
 intro E Q hP hN hro hret
 obtain ⟨P', nt', w0, F0, p0, S0, β0, ro0⟩ := E
 simp only at hP hN
 subst hP hN
 dsimp only [argT]
 unfold F226 at h
 refine Zj <| Zf <| Z2 I (Z2m (v := (Zw a0)) (cs := (Zw a0).cells) I I I I I) I <| Z2 I (Z2m (v := (Zw a1)) (cs := (Zw a1).cells) I I I I I) I <| Z2 I (Zp (v := (.int .i64 0)) I I) I <| Zi <| Zh <| Zj ?_
 refine Z1r mixed <| Zb 0 I (Zr (m := 2) (o := 0) I f174_0 I I) <| Zb 1 I (Zt (cs := (Zw a0).cells) (v := (.str a0.Key)) I o9 I I I) <| Zb 2 I (Zr (m := 3) (o := 0) I f174_0 I I) <| Zb 3 I (Zt (cs := (Zw a1).cells) (v := (.str a1.Key)) I o9 I I I) ?_
 have ⟨v2, hv2, h⟩ := Z1f h
 refine Zb 4 I (Z1o (ar := [(.str a0.Key), (.str a1.Key)]) (caps := []) Tryz.call69 (Z6c K a0.Key a1.Key v2 hv2) I I ⟨rfl, rfl, trivial⟩ I) <| Zb 5 I (Zr (m := 2) (o := 0) I f174_1 I I) <| Zb 6 I (Z1l (cs := (Zw a0).cells) (vs := (Z2h a0.Value).cells) I a172 I I I I) <| Zb 7 I (Zr (m := 3) (o := 0) I f174_1 I I) <| Zb 8 I (Z1l (cs := (Zw a1).cells) (vs := (Z2h a1.Value).cells) I a172 I I I I) ?_
 have ⟨v4, hv4, h⟩ := Z1f h
 refine Zb 9 I (Z1o (ar := [(Z2h a0.Value), (Z2h a1.Value)]) (caps := []) Tryz.call227 (F227_ok K a0.Value a1.Value v4 hv4) I I ⟨rfl, rfl, trivial⟩ I) <| Zb 10 I (Z1m (vs := [(.int .i64 v2), (.int .i64 v4)]) (enc := Z2l) (l := [v2, v4]) I el65 I I ⟨rfl, rfl, trivial⟩ I Z53 I I I I) ?_
 have ⟨v6, hv6, h⟩ := Z1f h
 refine Zb 11 I (Z66 (rd := [(15, (.vec 1 (List.map Z2l [v2, v4])))]) (ar := [(.vs 15)]) (caps := []) Tryz.call67 (Zb6 K [v2, v4] v6 hv6) I I ⟨rfl, trivial⟩ (Z4f ⟨rfl, trivial⟩) I I I) <| Zb 12 I (Zp (v := (.int .i64 v6)) I I) <| AOpsD.nil (by kernel_rfl) I <| Zh <| Z1g ?_
 have h := Option.some.inj h
 subst h
 refine (hret _ ?_).1
 exact ⟨[(.int .i64 v6)], ⟨rfl, trivial⟩, rfl, trivial⟩
def F225_c3 (K : Nat) (a0 : (List Z1z)) (a1 : (List Z1z)) : Option (Int) :=
 if (decide ((a0.length : Int) < (a1.length : Int))) = true then
  some (Int.negSucc 0)
 else
  some 0
def F225_l2 (K : Nat) (a0 : (List Z1z)) (a1 : (List Z1z)) (c4 : Option (Int)) : Nat → Int → Option (Int)
 | 0, _ => none
 | k2 + 1, v1 =>
  if (decide (v1 < (a0.length : Int))) = true then
   if (0 : Int) ≤ v1 ∧ v1 < a0.length then
    if (decide (v1 ≥ (a1.length : Int))) = true then
     some 1
    else
     if (0 : Int) ≤ v1 ∧ v1 < a1.length then
      (F226 K (a0.getD v1.toNat Z26) (a1.getD v1.toNat Z26)).bind fun v9 =>
       if (v9 != 0) = true then
        some v9
       else
        (F225_l2 K a0 a1 c4 k2) (IntKind.i64.wrap (v1 + 1))
     else none
   else none
  else
   c4
def F225 (K : Nat) (a0 : (List Z1z)) (a1 : (List Z1z)) : Option (Int) :=
 F225_l2 K a0 a1 (F225_c3 K a0 a1) K 0
theorem F225_ok (K : Nat) (a0 : (List Z1z)) (a1 : (List Z1z)) (r : Int) (h : F225 K a0 a1 = some r) : ACall P 225 ⟨[(.sl 4 (a0.map Zw) false), (.sl 4 (a1.map Zw) false), (.clo 226 [])], [], (.int .i64 r), [], []⟩ := by
 refine Z1s Tryz.func225 Tryz.results225 rfl Tryz.ntmps225 rfl rfl rfl ?_
 intro E Q hP hN hro hret
 obtain ⟨P', nt', w0, F0, p0, S0, β0, ro0⟩ := E
 simp only at hP hN
 subst hP hN
 dsimp only [argT]
 unfold F225 at h
 refine Zj <| Zf <| Z2 I (Zp (v := (.int .i64 0)) I I) I <| Zi <| Zh <| Zj <| Zj <| Zf ?_
 refine Z2 I (Zo (v := (.sl 4 (a0.map Zw) false)) I I) I <| Z2 I (Z24 (l := a0) (enc := Zw) I s53 I) I <| Z2 I (Zo (v := (.int .i64 0)) I I) I <| Zi <| Zh <| AWp.weaken (st' := ⟨[(0, (.sl 4 (a0.map Zw) false)), (1, (.sl 4 (a1.map Zw) false)), (2, (.clo 226 [])), (11, (.sl 4 (a0.map Zw) false)), (12, (.int .i64 (a0.length : Int))), (13, (.int .i64 0))], []⟩) ⟨rfl, rfl, rfl, rfl, rfl, rfl, trivial⟩ trivial ?_
 refine Z1n (V := Int) (X := Unit) (lp := fun k v => F225_l2 K a0 a1 (F225_c3 K a0 a1) k v = some r) (sh := fun v => ⟨[(0, (.sl 4 (a0.map Zw) false)), (1, (.sl 4 (a1.map Zw) false)), (2, (.clo 226 [])), (11, (.sl 4 (a0.map Zw) false)), (12, (.int .i64 (a0.length : Int))), (13, (.int .i64 v))], []⟩) (x := fun v => F225_c3 K a0 a1 = some r) (shx := fun v => ⟨[(0, (.sl 4 (a0.map Zw) false)), (1, (.sl 4 (a1.map Zw) false))], []⟩) (k := K) (v := 0) h ?_ ?_
 ·intro v h
  try dsimp only at h ⊢
  unfold F225_c3 at h
  refine Zh <| Zj <| Zj <| Zf <| Z2 I (Zo (v := (.sl 4 (a0.map Zw) false)) I I) I <| Z2 I (Z24 (l := a0) (enc := Zw) I s53 I) I <| Z2 I (Zo (v := (.sl 4 (a1.map Zw) false)) I I) I <| Z2 I (Z24 (l := a1) (enc := Zw) I s53 I) I ?_
  refine Z2 I (Z25 (k := .i64) (a := (a0.length : Int)) (b := (a1.length : Int)) (c := (decide ((a0.length : Int) < (a1.length : Int)))) I I I I) I <| Zi <| Zh ?_
  have hif := Z28 h
  refine Z16 I (fun hc => ?_) (fun hc => ?_)
  ·have h := hif.1 hc
   refine Zj <| Zf <| Z2 I (Zp (v := (.int .i64 (Int.negSucc 0))) I I) I <| Zi <| Zh <| Z1g <| Z1k ?_
   have h := Option.some.inj h
   subst h
   refine (hret _ ?_).1
   exact ⟨[(.int .i64 (Int.negSucc 0))], ⟨rfl, trivial⟩, rfl, trivial⟩
  ·have h := hif.2 hc
   refine Z1b <| Zh <| Zj <| Zf <| Z2 I (Zp (v := (.int .i64 0)) I I) I <| Zi <| Zh <| Z1g ?_
   have h := Option.some.inj h
   subst h
   refine (hret _ ?_).1
   exact ⟨[(.int .i64 0)], ⟨rfl, trivial⟩, rfl, trivial⟩
 ·intro N k2 v h IH2 J2
  revert h
  revert v
  intro v1 h
  try dsimp only at h IH2 J2 ⊢
  cases k2 with
  | zero => cases h
  | succ k2 =>
   rw [F225_l2] at h
   refine Zj <| Zf <| Z2 I (Z25 (k := .i64) (a := v1) (b := (a0.length : Int)) (c := (decide (v1 < (a0.length : Int)))) I I I I) I <| Zi <| Zh <| Zj ?_
   have hif := Z28 h
   refine Z16 I (fun hc => ?_) (fun hc => ?_)
   ·have h := hif.1 hc
    refine Z1b <| Zh <| Zj <| AWp.block <| Zj <| Zf <| Z2 I (Zo (v := (.int .i64 v1)) I I) I ?_
    have ⟨hg6, h⟩ := Z13 h
    refine Z2 I (Z1w (k := .i64) (l := a0) (enc := Zw) (z := Z26) (n := v1) (cs := (Zw (a0.getD v1.toNat Z26)).cells) (full := false) I s53 I I hg6 I) I <| Z2 I (Z2i (cs := (Zw (a0.getD v1.toNat Z26)).cells) (vs := (Zw (a0.getD v1.toNat Z26)).cells) I a174 I I I) I <| Z2 I (Z1v (cs := [(.str []), (.int .i64 0), (.str []), (.int .i64 0)]) I z174 I I I) I <| Z2 I (Zp (v := (.int .i64 v1)) I I) I <| Z2 I (Z1e (cs := [(.str []), (.int .i64 0), (.str []), (.int .i64 0)]) (vs := (Zw (a0.getD v1.toNat Z26)).cells) (ds := (Zw (a0.getD v1.toNat Z26)).cells) (v := (Zw (a0.getD v1.toNat Z26))) sz174 I I I I I I I I) I <| Zi <| Zh <| Zj ?_
    refine Zj <| Zf <| Z2 I (Zo (v := (.int .i64 v1)) I I) I <| Z2 I (Zo (v := (.sl 4 (a1.map Zw) false)) I I) I <| Z2 I (Z24 (l := a1) (enc := Zw) I s53 I) I <| Z2 I (Z25 (k := .i64) (a := v1) (b := (a1.length : Int)) (c := (decide (v1 ≥ (a1.length : Int)))) I I I I) I <| Zi <| Zh ?_
    have hif := Z28 h
    refine Z16 I (fun hc => ?_) (fun hc => ?_)
    ·have h := hif.1 hc
     refine Zj <| Zf <| Z2 I (Zp (v := (.int .i64 1)) I I) I <| Zi <| Zh <| Z1g <| Z1k <| At.overR ?_
     refine Z1k ?_
     refine Z1k (At.overR ?_)
     refine Z1k ?_
     have h := Option.some.inj h
     subst h
     refine (hret _ ?_).1
     exact ⟨[(.int .i64 1)], ⟨rfl, trivial⟩, rfl, trivial⟩
    ·have h := hif.2 hc
     refine Z1b <| Zh <| Zj <| Zf <| Z2 I (Zo (v := (.sl 4 (a1.map Zw) false)) I I) I <| Z2 I (Zo (v := (.int .i64 v1)) I I) I ?_
     have ⟨hg7, h⟩ := Z13 h
     refine Z2 I (Z1w (k := .i64) (l := a1) (enc := Zw) (z := Z26) (n := v1) (cs := (Zw (a1.getD v1.toNat Z26)).cells) (full := false) I s53 I I hg7 I) I <| Z2 I (Z2i (cs := (Zw (a1.getD v1.toNat Z26)).cells) (vs := (Zw (a1.getD v1.toNat Z26)).cells) I a174 I I I) I <| Z2 I (Z1v (cs := [(.str []), (.int .i64 0), (.str []), (.int .i64 0)]) I z174 I I I) I <| Z2 I (Z1e (cs := [(.str []), (.int .i64 0), (.str []), (.int .i64 0)]) (vs := (Zw (a1.getD v1.toNat Z26)).cells) (ds := (Zw (a1.getD v1.toNat Z26)).cells) (v := (Zw (a1.getD v1.toNat Z26))) sz174 I I I I I I I I) I <| Zi <| Zh <| Zj <| Zf ?_
     refine Z2 I (Zo (v := (.clo 226 [])) I I) I <| Z2 I (Z1l (cs := (Zw (a0.getD v1.toNat Z26)).cells) (vs := (Zw (a0.getD v1.toNat Z26)).cells) I a174 I I I I) I <| Z2 I (Z1l (cs := (Zw (a1.getD v1.toNat Z26)).cells) (vs := (Zw (a1.getD v1.toNat Z26)).cells) I a174 I I I I) I ?_
     have ⟨v9, hv9, h⟩ := Z1f h
     refine Z2 I (Z1o (ar := [(Zw (a0.getD v1.toNat Z26)), (Zw (a1.getD v1.toNat Z26))]) (caps := []) Tryz.call226 (F226_ok K (a0.getD v1.toNat Z26) (a1.getD v1.toNat Z26) v9 hv9) I I ⟨rfl, rfl, trivial⟩ I) I <| Z2 I (Zp (v := (.int .i64 v9)) I I) I <| Zi <| Zh <| Zj <| Zf <| Z2 I (Zo (v := (.int .i64 v9)) I I) I <| Z2 I (Z25 (k := .i64) (a := v9) (b := 0) (c := (v9 != 0)) I I I I) I ?_
     refine Zi <| Zh ?_
     have hif := Z28 h
     refine Z16 I (fun hc => ?_) (fun hc => ?_)
     ·have h := hif.1 hc
      refine Zj <| Zf <| Z2 I (Zo (v := (.int .i64 v9)) I I) I <| Z2 I (Zp (v := (.int .i64 v9)) I I) I <| Zi <| Zh <| Z1g <| At.overR ?_
      refine Z1k ?_
      refine Z1k (At.overR ?_)
      refine Z1k ?_
      have h := Option.some.inj h
      subst h
      refine (hret _ ?_).1
      exact ⟨[(.int .i64 v9)], ⟨rfl, trivial⟩, rfl, trivial⟩
     ·have h := hif.2 hc
      refine Z1b <| At.end <| Zh <| Zf <| Z2 I (Z1u (k := .i64) (a := v1) (b := 1) (c := (IntKind.i64.wrap (v1 + 1))) I I I I) I <| Z2 I (Zo (v := (.int .i64 (IntKind.i64.wrap (v1 + 1)))) I I) I <| Zi ?_
      exact Zy (st' := ⟨[(0, (.sl 4 (a0.map Zw) false)), (1, (.sl 4 (a1.map Zw) false)), (2, (.clo 226 [])), (11, (.sl 4 (a0.map Zw) false)), (12, (.int .i64 (a0.length : Int))), (13, (.int .i64 (IntKind.i64.wrap (v1 + 1))))], []⟩) ⟨rfl, rfl, rfl, rfl, rfl, rfl, trivial⟩ trivial (IH2 _ (IntKind.i64.wrap (v1 + 1)) (Nat.lt_succ_self _) h)
   ·have h := hif.2 hc
    refine AWp.exit <| At.thru ?_
    exact Zy (st' := ⟨[(0, (.sl 4 (a0.map Zw) false)), (1, (.sl 4 (a1.map Zw) false))], []⟩) ⟨rfl, rfl, trivial⟩ trivial (J2 () h)
def F171 (K : Nat) (a0 : (List Z1z)) (a1 : (List Z1z)) : Option (Int) :=
 (F225 K a0 a1).bind fun v2 =>
  some v2
theorem F171_ok (K : Nat) (a0 : (List Z1z)) (a1 : (List Z1z)) (r : Int) (h : F171 K a0 a1 = some r) : ACall P 171 ⟨[(.sl 4 (a0.map Zw) false), (.sl 4 (a1.map Zw) false)], [], (.int .i64 r), [], []⟩ := by
 refine Z1s Tryz.func171 Tryz.results171 rfl Tryz.ntmps171 rfl rfl rfl ?_
 intro E Q hP hN hro hret
 obtain ⟨P', nt', w0, F0, p0, S0, β0, ro0⟩ := E
 simp only at hP hN
 subst hP hN
 dsimp only [argT]
 unfold F171 at h
 refine Zj <| Zf <| Z2 I (Zp (v := (.int .i64 0)) I I) I <| Zi <| Zh <| Zj <| Zf <| Z2 I (Zo (v := (.sl 4 (a0.map Zw) false)) I I) I ?_
 refine Z2 I (Zo (v := (.sl 4 (a1.map Zw) false)) I I) I ?_
 have ⟨v2, hv2, h⟩ := Z1f h
 refine Z2 I (Z1o (ar := [(.sl 4 (a0.map Zw) false), (.sl 4 (a1.map Zw) false), (.clo 226 [])]) (caps := []) Tryz.call225 (F225_ok K a0 a1 v2 hv2) I I ⟨rfl, rfl, rfl, trivial⟩ I) I <| Z2 I (Zp (v := (.int .i64 v2)) I I) I <| Zi <| Zh <| Z1g ?_
 have h := Option.some.inj h
 subst h
 refine (hret _ ?_).1
 exact ⟨[(.int .i64 v2)], ⟨rfl, trivial⟩, rfl, trivial⟩
def F173 (K : Nat) (a0 : Z2j) (a1 : Z2j) : Option (Int) :=
 (F68 K a0.Trace a1.Trace).bind fun v2 =>
  (F68 K a0.Id a1.Id).bind fun v4 =>
   (F67 K [v2, v4]).bind fun v6 =>
    some v6
theorem F173_ok (K : Nat) (a0 : Z2j) (a1 : Z2j) (r : Int) (h : F173 K a0 a1 = some r) : ACall P 173 ⟨[(Z10 a0), (Z10 a1)], [], (.int .i64 r), [], []⟩ := by
 refine Z1s Tryz.func173 Tryz.results173 rfl Tryz.ntmps173 rfl rfl rfl ?_
 intro E Q hP hN hro hret
 obtain ⟨P', nt', w0, F0, p0, S0, β0, ro0⟩ := E
 simp only at hP hN
 subst hP hN
 dsimp only [argT]
 unfold F173 at h
 refine Zj <| Zf <| Z2 I (Z2m (v := (Z10 a0)) (cs := (Z10 a0).cells) I I I I I) I <| Z2 I (Z2m (v := (Z10 a1)) (cs := (Z10 a1).cells) I I I I I) I <| Z2 I (Zp (v := (.int .i64 0)) I I) I <| Zi <| Zh <| Zj ?_
 refine Z1r mixed <| Zb 0 I (Zr (m := 2) (o := 0) I f177_0 I I) <| Zb 1 I (Zt (cs := (Z10 a0).cells) (v := (.int .i64 a0.Trace)) I o3 I I I) <| Zb 2 I (Zr (m := 3) (o := 0) I f177_0 I I) <| Zb 3 I (Zt (cs := (Z10 a1).cells) (v := (.int .i64 a1.Trace)) I o3 I I I) ?_
 have ⟨v2, hv2, h⟩ := Z1f h
 refine Zb 4 I (Z1o (ar := [(.int .i64 a0.Trace), (.int .i64 a1.Trace)]) (caps := []) Tryz.call68 (Z8k K a0.Trace a1.Trace v2 hv2) I I ⟨rfl, rfl, trivial⟩ I) <| Zb 5 I (Zr (m := 2) (o := 0) I f177_1 I I) <| Zb 6 I (Zt (cs := (Z10 a0).cells) (v := (.int .i64 a0.Id)) I o3 I I I) <| Zb 7 I (Zr (m := 3) (o := 0) I f177_1 I I) <| Zb 8 I (Zt (cs := (Z10 a1).cells) (v := (.int .i64 a1.Id)) I o3 I I I) ?_
 have ⟨v4, hv4, h⟩ := Z1f h
 refine Zb 9 I (Z1o (ar := [(.int .i64 a0.Id), (.int .i64 a1.Id)]) (caps := []) Tryz.call68 (Z8k K a0.Id a1.Id v4 hv4) I I ⟨rfl, rfl, trivial⟩ I) <| Zb 10 I (Z1m (vs := [(.int .i64 v2), (.int .i64 v4)]) (enc := Z2l) (l := [v2, v4]) I el65 I I ⟨rfl, rfl, trivial⟩ I Z53 I I I I) ?_
 have ⟨v6, hv6, h⟩ := Z1f h
 refine Zb 11 I (Z66 (rd := [(15, (.vec 1 (List.map Z2l [v2, v4])))]) (ar := [(.vs 15)]) (caps := []) Tryz.call67 (Zb6 K [v2, v4] v6 hv6) I I ⟨rfl, trivial⟩ (Z4f ⟨rfl, trivial⟩) I I I) <| Zb 12 I (Zp (v := (.int .i64 v6)) I I) <| AOpsD.nil (by kernel_rfl) I <| Zh <| Z1g ?_
 have h := Option.some.inj h
 subst h
 refine (hret _ ?_).1
 exact ⟨[(.int .i64 v6)], ⟨rfl, trivial⟩, rfl, trivial⟩
def F172_c3 (K : Nat) (a0 : (List Z2j)) (a1 : (List Z2j)) : Option (Int) :=
 if (decide ((a0.length : Int) < (a1.length : Int))) = true then
  some (Int.negSucc 0)
 else
  some 0
def F172_l2 (K : Nat) (a0 : (List Z2j)) (a1 : (List Z2j)) (c4 : Option (Int)) : Nat → Int → Option (Int)
 | 0, _ => none
 | k2 + 1, v1 =>
  if (decide (v1 < (a0.length : Int))) = true then
   if (0 : Int) ≤ v1 ∧ v1 < a0.length then
    if (decide (v1 ≥ (a1.length : Int))) = true then
     some 1
    else
     if (0 : Int) ≤ v1 ∧ v1 < a1.length then
      (F173 K (a0.getD v1.toNat Z2a) (a1.getD v1.toNat Z2a)).bind fun v9 =>
       if (v9 != 0) = true then
        some v9
       else
        (F172_l2 K a0 a1 c4 k2) (IntKind.i64.wrap (v1 + 1))
     else none
   else none
  else
   c4
def F172 (K : Nat) (a0 : (List Z2j)) (a1 : (List Z2j)) : Option (Int) :=
 F172_l2 K a0 a1 (F172_c3 K a0 a1) K 0
theorem F172_ok (K : Nat) (a0 : (List Z2j)) (a1 : (List Z2j)) (r : Int) (h : F172 K a0 a1 = some r) : ACall P 172 ⟨[(.sl 2 (a0.map Z10) false), (.sl 2 (a1.map Z10) false), (.clo 173 [])], [], (.int .i64 r), [], []⟩ := by
 refine Z1s Tryz.func172 Tryz.results172 rfl Tryz.ntmps172 rfl rfl rfl ?_
 intro E Q hP hN hro hret
 obtain ⟨P', nt', w0, F0, p0, S0, β0, ro0⟩ := E
 simp only at hP hN
 subst hP hN
 dsimp only [argT]
 unfold F172 at h
 refine Zj <| Zf <| Z2 I (Zp (v := (.int .i64 0)) I I) I <| Zi <| Zh <| Zj <| Zj <| Zf ?_
 refine Z2 I (Zo (v := (.sl 2 (a0.map Z10) false)) I I) I <| Z2 I (Z24 (l := a0) (enc := Z10) I s54 I) I <| Z2 I (Zo (v := (.int .i64 0)) I I) I <| Zi <| Zh <| AWp.weaken (st' := ⟨[(0, (.sl 2 (a0.map Z10) false)), (1, (.sl 2 (a1.map Z10) false)), (2, (.clo 173 [])), (11, (.sl 2 (a0.map Z10) false)), (12, (.int .i64 (a0.length : Int))), (13, (.int .i64 0))], []⟩) ⟨rfl, rfl, rfl, rfl, rfl, rfl, trivial⟩ trivial ?_
 refine Z1n (V := Int) (X := Unit) (lp := fun k v => F172_l2 K a0 a1 (F172_c3 K a0 a1) k v = some r) (sh := fun v => ⟨[(0, (.sl 2 (a0.map Z10) false)), (1, (.sl 2 (a1.map Z10) false)), (2, (.clo 173 [])), (11, (.sl 2 (a0.map Z10) false)), (12, (.int .i64 (a0.length : Int))), (13, (.int .i64 v))], []⟩) (x := fun v => F172_c3 K a0 a1 = some r) (shx := fun v => ⟨[(0, (.sl 2 (a0.map Z10) false)), (1, (.sl 2 (a1.map Z10) false))], []⟩) (k := K) (v := 0) h ?_ ?_
 ·intro v h
  try dsimp only at h ⊢
  unfold F172_c3 at h
  refine Zh <| Zj <| Zj <| Zf <| Z2 I (Zo (v := (.sl 2 (a0.map Z10) false)) I I) I <| Z2 I (Z24 (l := a0) (enc := Z10) I s54 I) I <| Z2 I (Zo (v := (.sl 2 (a1.map Z10) false)) I I) I <| Z2 I (Z24 (l := a1) (enc := Z10) I s54 I) I ?_
  refine Z2 I (Z25 (k := .i64) (a := (a0.length : Int)) (b := (a1.length : Int)) (c := (decide ((a0.length : Int) < (a1.length : Int)))) I I I I) I <| Zi <| Zh ?_
  have hif := Z28 h
  refine Z16 I (fun hc => ?_) (fun hc => ?_)
  ·have h := hif.1 hc
   refine Zj <| Zf <| Z2 I (Zp (v := (.int .i64 (Int.negSucc 0))) I I) I <| Zi <| Zh <| Z1g <| Z1k ?_
   have h := Option.some.inj h
   subst h
   refine (hret _ ?_).1
   exact ⟨[(.int .i64 (Int.negSucc 0))], ⟨rfl, trivial⟩, rfl, trivial⟩
  ·have h := hif.2 hc
   refine Z1b <| Zh <| Zj <| Zf <| Z2 I (Zp (v := (.int .i64 0)) I I) I <| Zi <| Zh <| Z1g ?_
   have h := Option.some.inj h
   subst h
   refine (hret _ ?_).1
   exact ⟨[(.int .i64 0)], ⟨rfl, trivial⟩, rfl, trivial⟩
 ·intro N k2 v h IH2 J2
  revert h
  revert v
  intro v1 h
  try dsimp only at h IH2 J2 ⊢
  cases k2 with
  | zero => cases h
  | succ k2 =>
   rw [F172_l2] at h
   refine Zj <| Zf <| Z2 I (Z25 (k := .i64) (a := v1) (b := (a0.length : Int)) (c := (decide (v1 < (a0.length : Int)))) I I I I) I <| Zi <| Zh <| Zj ?_
   have hif := Z28 h
   refine Z16 I (fun hc => ?_) (fun hc => ?_)
   ·have h := hif.1 hc
    refine Z1b <| Zh <| Zj <| AWp.block <| Zj <| Zf <| Z2 I (Zo (v := (.int .i64 v1)) I I) I ?_
    have ⟨hg6, h⟩ := Z13 h
    refine Z2 I (Z1w (k := .i64) (l := a0) (enc := Z10) (z := Z2a) (n := v1) (cs := (Z10 (a0.getD v1.toNat Z2a)).cells) (full := false) I s54 I I hg6 I) I <| Z2 I (Z2i (cs := (Z10 (a0.getD v1.toNat Z2a)).cells) (vs := (Z10 (a0.getD v1.toNat Z2a)).cells) I a177 I I I) I <| Z2 I (Z1v (cs := [(.int .i64 0), (.int .i64 0)]) I z177 I I I) I <| Z2 I (Zp (v := (.int .i64 v1)) I I) I <| Z2 I (Z1e (cs := [(.int .i64 0), (.int .i64 0)]) (vs := (Z10 (a0.getD v1.toNat Z2a)).cells) (ds := (Z10 (a0.getD v1.toNat Z2a)).cells) (v := (Z10 (a0.getD v1.toNat Z2a))) sz177 I I I I I I I I) I <| Zi <| Zh <| Zj ?_
    refine Zj <| Zf <| Z2 I (Zo (v := (.int .i64 v1)) I I) I <| Z2 I (Zo (v := (.sl 2 (a1.map Z10) false)) I I) I <| Z2 I (Z24 (l := a1) (enc := Z10) I s54 I) I <| Z2 I (Z25 (k := .i64) (a := v1) (b := (a1.length : Int)) (c := (decide (v1 ≥ (a1.length : Int)))) I I I I) I <| Zi <| Zh ?_
    have hif := Z28 h
    refine Z16 I (fun hc => ?_) (fun hc => ?_)
    ·have h := hif.1 hc
     refine Zj <| Zf <| Z2 I (Zp (v := (.int .i64 1)) I I) I <| Zi <| Zh <| Z1g <| Z1k <| At.overR ?_
     refine Z1k ?_
     refine Z1k (At.overR ?_)
     refine Z1k ?_
     have h := Option.some.inj h
     subst h
     refine (hret _ ?_).1
     exact ⟨[(.int .i64 1)], ⟨rfl, trivial⟩, rfl, trivial⟩
    ·have h := hif.2 hc
     refine Z1b <| Zh <| Zj <| Zf <| Z2 I (Zo (v := (.sl 2 (a1.map Z10) false)) I I) I <| Z2 I (Zo (v := (.int .i64 v1)) I I) I ?_
     have ⟨hg7, h⟩ := Z13 h
     refine Z2 I (Z1w (k := .i64) (l := a1) (enc := Z10) (z := Z2a) (n := v1) (cs := (Z10 (a1.getD v1.toNat Z2a)).cells) (full := false) I s54 I I hg7 I) I <| Z2 I (Z2i (cs := (Z10 (a1.getD v1.toNat Z2a)).cells) (vs := (Z10 (a1.getD v1.toNat Z2a)).cells) I a177 I I I) I <| Z2 I (Z1v (cs := [(.int .i64 0), (.int .i64 0)]) I z177 I I I) I <| Z2 I (Z1e (cs := [(.int .i64 0), (.int .i64 0)]) (vs := (Z10 (a1.getD v1.toNat Z2a)).cells) (ds := (Z10 (a1.getD v1.toNat Z2a)).cells) (v := (Z10 (a1.getD v1.toNat Z2a))) sz177 I I I I I I I I) I <| Zi <| Zh <| Zj <| Zf ?_
     refine Z2 I (Zo (v := (.clo 173 [])) I I) I <| Z2 I (Z1l (cs := (Z10 (a0.getD v1.toNat Z2a)).cells) (vs := (Z10 (a0.getD v1.toNat Z2a)).cells) I a177 I I I I) I <| Z2 I (Z1l (cs := (Z10 (a1.getD v1.toNat Z2a)).cells) (vs := (Z10 (a1.getD v1.toNat Z2a)).cells) I a177 I I I I) I ?_
     have ⟨v9, hv9, h⟩ := Z1f h
     refine Z2 I (Z1o (ar := [(Z10 (a0.getD v1.toNat Z2a)), (Z10 (a1.getD v1.toNat Z2a))]) (caps := []) Tryz.call173 (F173_ok K (a0.getD v1.toNat Z2a) (a1.getD v1.toNat Z2a) v9 hv9) I I ⟨rfl, rfl, trivial⟩ I) I <| Z2 I (Zp (v := (.int .i64 v9)) I I) I <| Zi <| Zh <| Zj <| Zf <| Z2 I (Zo (v := (.int .i64 v9)) I I) I <| Z2 I (Z25 (k := .i64) (a := v9) (b := 0) (c := (v9 != 0)) I I I I) I ?_
     refine Zi <| Zh ?_
     have hif := Z28 h
     refine Z16 I (fun hc => ?_) (fun hc => ?_)
     ·have h := hif.1 hc
      refine Zj <| Zf <| Z2 I (Zo (v := (.int .i64 v9)) I I) I <| Z2 I (Zp (v := (.int .i64 v9)) I I) I <| Zi <| Zh <| Z1g <| At.overR ?_
      refine Z1k ?_
      refine Z1k (At.overR ?_)
      refine Z1k ?_
      have h := Option.some.inj h
      subst h
      refine (hret _ ?_).1
      exact ⟨[(.int .i64 v9)], ⟨rfl, trivial⟩, rfl, trivial⟩
     ·have h := hif.2 hc
      refine Z1b <| At.end <| Zh <| Zf <| Z2 I (Z1u (k := .i64) (a := v1) (b := 1) (c := (IntKind.i64.wrap (v1 + 1))) I I I I) I <| Z2 I (Zo (v := (.int .i64 (IntKind.i64.wrap (v1 + 1)))) I I) I <| Zi ?_
      exact Zy (st' := ⟨[(0, (.sl 2 (a0.map Z10) false)), (1, (.sl 2 (a1.map Z10) false)), (2, (.clo 173 [])), (11, (.sl 2 (a0.map Z10) false)), (12, (.int .i64 (a0.length : Int))), (13, (.int .i64 (IntKind.i64.wrap (v1 + 1))))], []⟩) ⟨rfl, rfl, rfl, rfl, rfl, rfl, trivial⟩ trivial (IH2 _ (IntKind.i64.wrap (v1 + 1)) (Nat.lt_succ_self _) h)
   ·have h := hif.2 hc
    refine AWp.exit <| At.thru ?_
    exact Zy (st' := ⟨[(0, (.sl 2 (a0.map Z10) false)), (1, (.sl 2 (a1.map Z10) false))], []⟩) ⟨rfl, rfl, trivial⟩ trivial (J2 () h)
def F137 (K : Nat) (a0 : Zm) (a1 : Zm) : Option (Int) :=
 (F169 K [a0.Trace, a0.Id, a0.Revision, a0.Parent, a0.Clock, a0.Kind] [a1.Trace, a1.Id, a1.Revision, a1.Parent, a1.Clock, a1.Kind]).bind fun v2 =>
  (F69 K a0.Service a1.Service).bind fun v4 =>
   (F69 K a0.Version a1.Version).bind fun v6 =>
    (F69 K a0.Operation a1.Operation).bind fun v8 =>
     (F68 K a0.Start a1.Start).bind fun v10 =>
      (F68 K a0.End a1.End).bind fun v12 =>
       (F170 K a0.Error).bind fun v14 =>
        (F170 K a1.Error).bind fun v16 =>
         (F171 K a0.Attrs a1.Attrs).bind fun v18 =>
          (F172 K a0.Links a1.Links).bind fun v20 =>
           (F67 K [v2, v4, v6, v8, v10, v12, (IntKind.i64.wrap (v14 - v16)), v18, v20]).bind fun v22 =>
            some v22
theorem F137_ok (K : Nat) (a0 : Zm) (a1 : Zm) (r : Int) (h : F137 K a0 a1 = some r) : ACall P 137 ⟨[(Zd a0), (Zd a1)], [], (.int .i64 r), [], []⟩ := by
 refine Z1s Tryz.func137 Tryz.results137 rfl Tryz.ntmps137 rfl rfl rfl ?_
 intro E Q hP hN hro hret
 obtain ⟨P', nt', w0, F0, p0, S0, β0, ro0⟩ := E
 simp only at hP hN
 subst hP hN
 dsimp only [argT]
 unfold F137 at h
 refine Zj <| Zf <| Z2 I (Z2m (v := (Zd a0)) (cs := (Zd a0).cells) I I I I I) I <| Z2 I (Z2m (v := (Zd a1)) (cs := (Zd a1).cells) I I I I I) I <| Z2 I (Zp (v := (.int .i64 0)) I I) I <| Zi <| Zh <| Zj ?_
 refine Zf <| Z2 I (Zr (m := 2) (o := 0) I f56_0 I I) I <| Z2 I (Zt (cs := (Zd a0).cells) (v := (.int .i64 a0.Trace)) I o3 I I I) I <| Z2 I (Zr (m := 2) (o := 0) I f56_1 I I) I <| Z2 I (Zt (cs := (Zd a0).cells) (v := (.int .i64 a0.Id)) I o3 I I I) I <| Z2 I (Zr (m := 2) (o := 0) I f56_3 I I) I <| Z2 I (Zt (cs := (Zd a0).cells) (v := (.int .i64 a0.Revision)) I o3 I I I) I <| Z2 I (Zr (m := 2) (o := 0) I f56_2 I I) I ?_
 refine Z2 I (Zt (cs := (Zd a0).cells) (v := (.int .i64 a0.Parent)) I o3 I I I) I <| Z2 I (Zr (m := 2) (o := 0) I f56_4 I I) I <| Z2 I (Zt (cs := (Zd a0).cells) (v := (.int .i64 a0.Clock)) I o3 I I I) I <| Z2 I (Zr (m := 2) (o := 0) I f56_5 I I) I <| Z2 I (Zt (cs := (Zd a0).cells) (v := (.int .i64 a0.Kind)) I o3 I I I) I <| Z2 I (Zb1 (vs := [(0, (.int .i64 a0.Trace)), (1, (.int .i64 a0.Id)), (2, (.int .i64 a0.Revision)), (3, (.int .i64 a0.Parent)), (4, (.int .i64 a0.Clock)), (5, (.int .i64 a0.Kind))]) (cs := [(.int .i64 a0.Trace), (.int .i64 a0.Id), (.int .i64 a0.Revision), (.int .i64 a0.Parent), (.int .i64 a0.Clock), (.int .i64 a0.Kind)]) I ar255 ⟨rfl, rfl, rfl, rfl, rfl, rfl, rfl, rfl, rfl, rfl, rfl, rfl, trivial⟩ I) I <| Z2 I (Z1v (cs := [(.int .i64 0), (.int .i64 0), (.int .i64 0), (.int .i64 0), (.int .i64 0), (.int .i64 0)]) I z255 I I I) I <| Z2 I (Z1e (cs := [(.int .i64 0), (.int .i64 0), (.int .i64 0), (.int .i64 0), (.int .i64 0), (.int .i64 0)]) (vs := [(.int .i64 a0.Trace), (.int .i64 a0.Id), (.int .i64 a0.Revision), (.int .i64 a0.Parent), (.int .i64 a0.Clock), (.int .i64 a0.Kind)]) (ds := [(.int .i64 a0.Trace), (.int .i64 a0.Id), (.int .i64 a0.Revision), (.int .i64 a0.Parent), (.int .i64 a0.Clock), (.int .i64 a0.Kind)]) (v := (.ag [(.int .i64 a0.Trace), (.int .i64 a0.Id), (.int .i64 a0.Revision), (.int .i64 a0.Parent), (.int .i64 a0.Clock), (.int .i64 a0.Kind)])) sz255 I I I I I I I I) I ?_
 refine Zi <| Zh <| Zj <| Zf <| Z2 I (Zr (m := 3) (o := 0) I f56_0 I I) I <| Z2 I (Zt (cs := (Zd a1).cells) (v := (.int .i64 a1.Trace)) I o3 I I I) I <| Z2 I (Zr (m := 3) (o := 0) I f56_1 I I) I <| Z2 I (Zt (cs := (Zd a1).cells) (v := (.int .i64 a1.Id)) I o3 I I I) I ?_
 refine Z2 I (Zr (m := 3) (o := 0) I f56_3 I I) I <| Z2 I (Zt (cs := (Zd a1).cells) (v := (.int .i64 a1.Revision)) I o3 I I I) I <| Z2 I (Zr (m := 3) (o := 0) I f56_2 I I) I <| Z2 I (Zt (cs := (Zd a1).cells) (v := (.int .i64 a1.Parent)) I o3 I I I) I <| Z2 I (Zr (m := 3) (o := 0) I f56_4 I I) I <| Z2 I (Zt (cs := (Zd a1).cells) (v := (.int .i64 a1.Clock)) I o3 I I I) I <| Z2 I (Zr (m := 3) (o := 0) I f56_5 I I) I <| Z2 I (Zt (cs := (Zd a1).cells) (v := (.int .i64 a1.Kind)) I o3 I I I) I ?_
 refine Z2 I (Zb1 (vs := [(0, (.int .i64 a1.Trace)), (1, (.int .i64 a1.Id)), (2, (.int .i64 a1.Revision)), (3, (.int .i64 a1.Parent)), (4, (.int .i64 a1.Clock)), (5, (.int .i64 a1.Kind))]) (cs := [(.int .i64 a1.Trace), (.int .i64 a1.Id), (.int .i64 a1.Revision), (.int .i64 a1.Parent), (.int .i64 a1.Clock), (.int .i64 a1.Kind)]) I ar255 ⟨rfl, rfl, rfl, rfl, rfl, rfl, rfl, rfl, rfl, rfl, rfl, rfl, trivial⟩ I) I <| Z2 I (Z1v (cs := [(.int .i64 0), (.int .i64 0), (.int .i64 0), (.int .i64 0), (.int .i64 0), (.int .i64 0)]) I z255 I I I) I <| Z2 I (Z1e (cs := [(.int .i64 0), (.int .i64 0), (.int .i64 0), (.int .i64 0), (.int .i64 0), (.int .i64 0)]) (vs := [(.int .i64 a1.Trace), (.int .i64 a1.Id), (.int .i64 a1.Revision), (.int .i64 a1.Parent), (.int .i64 a1.Clock), (.int .i64 a1.Kind)]) (ds := [(.int .i64 a1.Trace), (.int .i64 a1.Id), (.int .i64 a1.Revision), (.int .i64 a1.Parent), (.int .i64 a1.Clock), (.int .i64 a1.Kind)]) (v := (.ag [(.int .i64 a1.Trace), (.int .i64 a1.Id), (.int .i64 a1.Revision), (.int .i64 a1.Parent), (.int .i64 a1.Clock), (.int .i64 a1.Kind)])) sz255 I I I I I I I I) I <| Zi <| Zh <| Zj <| AWp.ghost (st' := ⟨[(2, (.ptr 2 0)), (3, (.ptr 3 0)), (4, (.int .i64 0)), (5, (.ip [(.int .i64 a0.Trace), (.int .i64 a0.Id), (.int .i64 a0.Revision), (.int .i64 a0.Parent), (.int .i64 a0.Clock), (.int .i64 a0.Kind)])), (6, (.ptr 6 0))], [(2, (.box (Zd a0).cells)), (3, (.box (Zd a1).cells)), (6, (.box [(.int .i64 a1.Trace), (.int .i64 a1.Id), (.int .i64 a1.Revision), (.int .i64 a1.Parent), (.int .i64 a1.Clock), (.int .i64 a1.Kind)]))]⟩) (fun a w h => (Z17 ⟨[(2, (.ptr 2 0)), (3, (.ptr 3 0)), (4, (.int .i64 0)), (5, (.ip [(.int .i64 a0.Trace), (.int .i64 a0.Id), (.int .i64 a0.Revision), (.int .i64 a0.Parent), (.int .i64 a0.Clock), (.int .i64 a0.Kind)])), (6, (.ptr 6 0))], [(2, (.box (Zd a0).cells)), (3, (.box (Zd a1).cells)), (6, (.box [(.int .i64 a1.Trace), (.int .i64 a1.Id), (.int .i64 a1.Revision), (.int .i64 a1.Parent), (.int .i64 a1.Clock), (.int .i64 a1.Kind)]))]⟩ (Z42 (m := 5) (cs := [(.int .i64 a0.Trace), (.int .i64 a0.Id), (.int .i64 a0.Revision), (.int .i64 a0.Parent), (.int .i64 a0.Clock), (.int .i64 a0.Kind)]) I a w (Z17 ⟨[(2, (.ptr 2 0)), (3, (.ptr 3 0)), (4, (.int .i64 0)), (5, (.ptr 5 0)), (6, (.ptr 6 0))], [(5, (.box [(.int .i64 a0.Trace), (.int .i64 a0.Id), (.int .i64 a0.Revision), (.int .i64 a0.Parent), (.int .i64 a0.Clock), (.int .i64 a0.Kind)])), (2, (.box (Zd a0).cells)), (3, (.box (Zd a1).cells)), (6, (.box [(.int .i64 a1.Trace), (.int .i64 a1.Id), (.int .i64 a1.Revision), (.int .i64 a1.Parent), (.int .i64 a1.Clock), (.int .i64 a1.Kind)]))]⟩ h ⟨rfl, rfl, rfl, rfl, rfl, trivial⟩ ⟨rfl, rfl, rfl, rfl, trivial⟩)) ⟨rfl, rfl, rfl, rfl, rfl, trivial⟩ ⟨rfl, rfl, rfl, trivial⟩)) <| AWp.ghost (st' := ⟨[(2, (.ptr 2 0)), (3, (.ptr 3 0)), (4, (.int .i64 0)), (5, (.ip [(.int .i64 a0.Trace), (.int .i64 a0.Id), (.int .i64 a0.Revision), (.int .i64 a0.Parent), (.int .i64 a0.Clock), (.int .i64 a0.Kind)])), (6, (.ip [(.int .i64 a1.Trace), (.int .i64 a1.Id), (.int .i64 a1.Revision), (.int .i64 a1.Parent), (.int .i64 a1.Clock), (.int .i64 a1.Kind)]))], [(2, (.box (Zd a0).cells)), (3, (.box (Zd a1).cells))]⟩) (fun a w h => (Z17 ⟨[(2, (.ptr 2 0)), (3, (.ptr 3 0)), (4, (.int .i64 0)), (5, (.ip [(.int .i64 a0.Trace), (.int .i64 a0.Id), (.int .i64 a0.Revision), (.int .i64 a0.Parent), (.int .i64 a0.Clock), (.int .i64 a0.Kind)])), (6, (.ip [(.int .i64 a1.Trace), (.int .i64 a1.Id), (.int .i64 a1.Revision), (.int .i64 a1.Parent), (.int .i64 a1.Clock), (.int .i64 a1.Kind)]))], [(2, (.box (Zd a0).cells)), (3, (.box (Zd a1).cells))]⟩ (Z42 (m := 6) (cs := [(.int .i64 a1.Trace), (.int .i64 a1.Id), (.int .i64 a1.Revision), (.int .i64 a1.Parent), (.int .i64 a1.Clock), (.int .i64 a1.Kind)]) I a w (Z17 ⟨[(2, (.ptr 2 0)), (3, (.ptr 3 0)), (4, (.int .i64 0)), (5, (.ip [(.int .i64 a0.Trace), (.int .i64 a0.Id), (.int .i64 a0.Revision), (.int .i64 a0.Parent), (.int .i64 a0.Clock), (.int .i64 a0.Kind)])), (6, (.ptr 6 0))], [(6, (.box [(.int .i64 a1.Trace), (.int .i64 a1.Id), (.int .i64 a1.Revision), (.int .i64 a1.Parent), (.int .i64 a1.Clock), (.int .i64 a1.Kind)])), (2, (.box (Zd a0).cells)), (3, (.box (Zd a1).cells))]⟩ h ⟨rfl, rfl, rfl, rfl, rfl, trivial⟩ ⟨rfl, rfl, rfl, trivial⟩)) ⟨rfl, rfl, rfl, rfl, rfl, trivial⟩ ⟨rfl, rfl, trivial⟩)) ?_
 refine Z1r mixed <| Zb 0 I (st_sliceI (l := [a0.Trace, a0.Id, a0.Revision, a0.Parent, a0.Clock, a0.Kind]) (enc := Z2l) (cs := [(.int .i64 a0.Trace), (.int .i64 a0.Id), (.int .i64 a0.Revision), (.int .i64 a0.Parent), (.int .i64 a0.Clock), (.int .i64 a0.Kind)]) I u255 sz3 I I I I Z53) <| Zb 1 I (st_sliceI (l := [a1.Trace, a1.Id, a1.Revision, a1.Parent, a1.Clock, a1.Kind]) (enc := Z2l) (cs := [(.int .i64 a1.Trace), (.int .i64 a1.Id), (.int .i64 a1.Revision), (.int .i64 a1.Parent), (.int .i64 a1.Clock), (.int .i64 a1.Kind)]) I u255 sz3 I I I I Z53) ?_
 have ⟨v2, hv2, h⟩ := Z1f h
 refine Zb 2 I (Z1o (ar := [(.sl 1 ([a0.Trace, a0.Id, a0.Revision, a0.Parent, a0.Clock, a0.Kind].map Z2l) false), (.sl 1 ([a1.Trace, a1.Id, a1.Revision, a1.Parent, a1.Clock, a1.Kind].map Z2l) false)]) (caps := []) Tryz.call169 (F169_ok K [a0.Trace, a0.Id, a0.Revision, a0.Parent, a0.Clock, a0.Kind] [a1.Trace, a1.Id, a1.Revision, a1.Parent, a1.Clock, a1.Kind] v2 hv2) I I ⟨rfl, rfl, trivial⟩ I) <| Zb 3 I (Zr (m := 2) (o := 0) I f56_6 I I) <| Zb 4 I (Zt (cs := (Zd a0).cells) (v := (.str a0.Service)) I o9 I I I) <| Zb 5 I (Zr (m := 3) (o := 0) I f56_6 I I) <| Zb 6 I (Zt (cs := (Zd a1).cells) (v := (.str a1.Service)) I o9 I I I) ?_
 have ⟨v4, hv4, h⟩ := Z1f h
 refine Zb 7 I (Z1o (ar := [(.str a0.Service), (.str a1.Service)]) (caps := []) Tryz.call69 (Z6c K a0.Service a1.Service v4 hv4) I I ⟨rfl, rfl, trivial⟩ I) <| Zb 8 I (Zr (m := 2) (o := 0) I f56_7 I I) <| Zb 9 I (Zt (cs := (Zd a0).cells) (v := (.str a0.Version)) I o9 I I I) <| Zb 10 I (Zr (m := 3) (o := 0) I f56_7 I I) <| Zb 11 I (Zt (cs := (Zd a1).cells) (v := (.str a1.Version)) I o9 I I I) ?_
 have ⟨v6, hv6, h⟩ := Z1f h
 refine Zb 12 I (Z1o (ar := [(.str a0.Version), (.str a1.Version)]) (caps := []) Tryz.call69 (Z6c K a0.Version a1.Version v6 hv6) I I ⟨rfl, rfl, trivial⟩ I) <| Zb 13 I (Zr (m := 2) (o := 0) I f56_8 I I) <| Zb 14 I (Zt (cs := (Zd a0).cells) (v := (.str a0.Operation)) I o9 I I I) <| Zb 15 I (Zr (m := 3) (o := 0) I f56_8 I I) <| Zb 16 I (Zt (cs := (Zd a1).cells) (v := (.str a1.Operation)) I o9 I I I) ?_
 have ⟨v8, hv8, h⟩ := Z1f h
 refine Zb 17 I (Z1o (ar := [(.str a0.Operation), (.str a1.Operation)]) (caps := []) Tryz.call69 (Z6c K a0.Operation a1.Operation v8 hv8) I I ⟨rfl, rfl, trivial⟩ I) <| Zb 18 I (Zr (m := 2) (o := 0) I f56_9 I I) <| Zb 19 I (Zt (cs := (Zd a0).cells) (v := (.int .i64 a0.Start)) I o3 I I I) <| Zb 20 I (Zr (m := 3) (o := 0) I f56_9 I I) <| Zb 21 I (Zt (cs := (Zd a1).cells) (v := (.int .i64 a1.Start)) I o3 I I I) ?_
 have ⟨v10, hv10, h⟩ := Z1f h
 refine Zb 22 I (Z1o (ar := [(.int .i64 a0.Start), (.int .i64 a1.Start)]) (caps := []) Tryz.call68 (Z8k K a0.Start a1.Start v10 hv10) I I ⟨rfl, rfl, trivial⟩ I) <| Zb 23 I (Zr (m := 2) (o := 0) I f56_10 I I) <| Zb 24 I (Zt (cs := (Zd a0).cells) (v := (.int .i64 a0.End)) I o3 I I I) <| Zb 25 I (Zr (m := 3) (o := 0) I f56_10 I I) <| Zb 26 I (Zt (cs := (Zd a1).cells) (v := (.int .i64 a1.End)) I o3 I I I) ?_
 have ⟨v12, hv12, h⟩ := Z1f h
 refine Zb 27 I (Z1o (ar := [(.int .i64 a0.End), (.int .i64 a1.End)]) (caps := []) Tryz.call68 (Z8k K a0.End a1.End v12 hv12) I I ⟨rfl, rfl, trivial⟩ I) <| Zb 28 I (Zr (m := 2) (o := 0) I f56_11 I I) <| Zb 29 I (Zt (cs := (Zd a0).cells) (v := (.bool a0.Error)) I o4 I I I) ?_
 have ⟨v14, hv14, h⟩ := Z1f h
 refine Zb 30 I (Z1o (ar := [(.bool a0.Error)]) (caps := []) Tryz.call170 (F170_ok K a0.Error v14 hv14) I I ⟨rfl, trivial⟩ I) <| Zb 31 I (Zr (m := 3) (o := 0) I f56_11 I I) <| Zb 32 I (Zt (cs := (Zd a1).cells) (v := (.bool a1.Error)) I o4 I I I) ?_
 have ⟨v16, hv16, h⟩ := Z1f h
 refine Zb 33 I (Z1o (ar := [(.bool a1.Error)]) (caps := []) Tryz.call170 (F170_ok K a1.Error v16 hv16) I I ⟨rfl, trivial⟩ I) <| Zb 34 I (Z1u (k := .i64) (a := v14) (b := v16) (c := (IntKind.i64.wrap (v14 - v16))) I I I I) <| Zb 35 I (Zr (m := 2) (o := 0) I f56_12 I I) <| Zb 36 I (Zt (cs := (Zd a0).cells) (v := (.sl 4 (a0.Attrs.map Zw) false)) I o53 I I I) <| Zb 37 I (Zr (m := 3) (o := 0) I f56_12 I I) <| Zb 38 I (Zt (cs := (Zd a1).cells) (v := (.sl 4 (a1.Attrs.map Zw) false)) I o53 I I I) ?_
 have ⟨v18, hv18, h⟩ := Z1f h
 refine Zb 39 I (Z1o (ar := [(.sl 4 (a0.Attrs.map Zw) false), (.sl 4 (a1.Attrs.map Zw) false)]) (caps := []) Tryz.call171 (F171_ok K a0.Attrs a1.Attrs v18 hv18) I I ⟨rfl, rfl, trivial⟩ I) <| Zb 40 I (Zr (m := 2) (o := 0) I f56_13 I I) <| Zb 41 I (Zt (cs := (Zd a0).cells) (v := (.sl 2 (a0.Links.map Z10) false)) I o54 I I I) <| Zb 42 I (Zr (m := 3) (o := 0) I f56_13 I I) <| Zb 43 I (Zt (cs := (Zd a1).cells) (v := (.sl 2 (a1.Links.map Z10) false)) I o54 I I I) ?_
 have ⟨v20, hv20, h⟩ := Z1f h
 refine Zb 44 I (Z1o (ar := [(.sl 2 (a0.Links.map Z10) false), (.sl 2 (a1.Links.map Z10) false), (.clo 173 [])]) (caps := []) Tryz.call172 (F172_ok K a0.Links a1.Links v20 hv20) I I ⟨rfl, rfl, rfl, trivial⟩ I) <| Zb 45 I (Z1m (vs := [(.int .i64 v2), (.int .i64 v4), (.int .i64 v6), (.int .i64 v8), (.int .i64 v10), (.int .i64 v12), (.int .i64 (IntKind.i64.wrap (v14 - v16))), (.int .i64 v18), (.int .i64 v20)]) (enc := Z2l) (l := [v2, v4, v6, v8, v10, v12, (IntKind.i64.wrap (v14 - v16)), v18, v20]) I el65 I I ⟨rfl, rfl, rfl, rfl, rfl, rfl, rfl, rfl, rfl, trivial⟩ I Z53 I I I I) ?_
 have ⟨v22, hv22, h⟩ := Z1f h
 refine Zb 46 I (Z66 (rd := [(78, (.vec 1 (List.map Z2l [v2, v4, v6, v8, v10, v12, (IntKind.i64.wrap (v14 - v16)), v18, v20])))]) (ar := [(.vs 78)]) (caps := []) Tryz.call67 (Zb6 K [v2, v4, v6, v8, v10, v12, (IntKind.i64.wrap (v14 - v16)), v18, v20] v22 hv22) I I ⟨rfl, trivial⟩ (Z4f ⟨rfl, trivial⟩) I I I) <| Zb 47 I (Zp (v := (.int .i64 v22)) I I) <| AOpsD.nil (by kernel_rfl) I <| Zh <| Z1g ?_
 have h := Option.some.inj h
 subst h
 refine (hret _ ?_).1
 exact ⟨[(.int .i64 v22)], ⟨rfl, trivial⟩, rfl, trivial⟩
def F135 (K : Nat) (a000 : (List Zm)) : Option ((List Zm)) :=
 (F166 K a000).bind fun v2 =>
  (sortF (fun a b => F137 K a b) v2).bind fun v4 =>
   some v4
theorem F135_ok (K : Nat) (a000 : (List Zm)) (r : (List Zm)) (h : F135 K a000 = some r) : ACall P 135 ⟨[(.clo 168 [(.ip [(.sl 14 (a000.map Zd) false)])]), (.clo 137 [])], [], .vs 4, [(4, .vec 14 (List.map Zd r))], [4]⟩ := by
 refine Z1s Tryz.func135 Tryz.results135 rfl Tryz.ntmps135 rfl rfl rfl ?_
 intro E Q hP hN hro hret
 obtain ⟨P', nt', w0, F0, p0, S0, β0, ro0⟩ := E
 simp only at hP hN
 subst hP hN
 dsimp only [argT]
 unfold F135 at h
 refine Zj <| Zf <| Z2 I (Zp (v := (.sl 14 [] false)) I I) I <| Zi <| Zh <| Zj <| Zf <| Z2 I (Zo (v := (.clo 168 [(.ip [(.sl 14 (a000.map Zd) false)])])) I I) I ?_
 have ⟨v2, hv2, h⟩ := Z1f h
 refine Z2 I (Z8x (sz := 14) (es := (List.map Zd v2)) (ar := [(.clo 168 [(.ip [(.sl 14 (a000.map Zd) false)])])]) (caps := []) Tryz.call166 ((F166_ok K a000 v2 hv2).sw 2 7) I I ⟨rfl, trivial⟩ I) I <| Z2 I (Zp (v := (.vs 7)) I I) I <| Zi <| Zh <| Zj <| Zf <| Z2 I (Zo (v := (.vs 7)) I I) I <| Z2 I (Zo (v := (.clo 137 [])) I I) I ?_
 have ⟨v4, hv4, h⟩ := Z1f h
 refine Z2 I (Z2v (d := some 10) (c := ⟨[(.vs 7), (.clo 137 [])], [(7, (.vec 14 (List.map Zd v2)))], .tup [], [(7, .vec 14 (List.map Zd v4))], []⟩) (ar := [(.vs 7), (.clo 137 [])]) (caps := []) (news := []) (forg := []) Tryz.call167 (sort_ok (n := 7) (enc := Zd) (l := v2) (caps := []) (c := (fun a b => F137 K a b)) sortC167 Tryz.call137 Z2z (fun _ => I) (fun a b m hm => F137_ok K a b m hm) hv4) I I ⟨rfl, rfl, trivial⟩ I ⟨rfl, trivial⟩ I) I <| Zi <| Zh <| Zj <| Zf <| Z2 I (Zo (v := (.vs 7)) I I) I <| Z2 I (Zp (v := (.vs 7)) I I) I <| Zi ?_
 refine Zh <| Z1g <| At.ghost (st' := ⟨[(4, (.vs 4))], [(4, (.vec 14 (List.map Zd v4)))]⟩) (fun a w h => (Z17 ⟨[(4, (.vs 4))], [(4, (.vec 14 (List.map Zd v4)))]⟩ (Z4z (a := 7) (b := 4) I I a w (Z17 ⟨[(4, (.vs 7))], [(7, (.vec 14 (List.map Zd v4)))]⟩ h ⟨rfl, trivial⟩ ⟨rfl, trivial⟩)) ⟨rfl, trivial⟩ ⟨rfl, trivial⟩)) ?_
 have h := Option.some.inj h
 subst h
 refine (hret _ ?_).1
 exact ⟨[(.vs 4)], ⟨rfl, trivial⟩, rfl, ⟨rfl, trivial⟩⟩
def F138 (K : Nat) (a0 : Zm) (a1 : Zm) : Option (Bool) :=
 (F137 K a0 a1).bind fun v2 =>
  some (v2 == 0)
theorem F138_ok (K : Nat) (a0 : Zm) (a1 : Zm) (r : Bool) (h : F138 K a0 a1 = some r) : ACall P 138 ⟨[(Zd a0), (Zd a1)], [], (.bool r), [], []⟩ := by
 refine Z1s Tryz.func138 Tryz.results138 rfl Tryz.ntmps138 rfl rfl rfl ?_
 intro E Q hP hN hro hret
 obtain ⟨P', nt', w0, F0, p0, S0, β0, ro0⟩ := E
 simp only at hP hN
 subst hP hN
 dsimp only [argT]
 unfold F138 at h
 refine Zj <| Zf <| Z2 I (Z2m (v := (Zd a0)) (cs := (Zd a0).cells) I I I I I) I <| Z2 I (Z2m (v := (Zd a1)) (cs := (Zd a1).cells) I I I I I) I <| Z2 I (Zp (v := (.bool false)) I I) I <| Zi <| Zh <| Zj ?_
 refine Zf <| Z2 I (Z1l (cs := (Zd a0).cells) (vs := (Zd a0).cells) I a56 I I I I) I <| Z2 I (Z1l (cs := (Zd a1).cells) (vs := (Zd a1).cells) I a56 I I I I) I ?_
 have ⟨v2, hv2, h⟩ := Z1f h
 refine Z2 I (Z1o (ar := [(Zd a0), (Zd a1)]) (caps := []) Tryz.call137 (F137_ok K a0 a1 v2 hv2) I I ⟨rfl, rfl, trivial⟩ I) I <| Z2 I (Z25 (k := .i64) (a := v2) (b := 0) (c := (v2 == 0)) I I I I) I <| Z2 I (Zp (v := (.bool (v2 == 0))) I I) I <| Zi <| Zh <| Z1g ?_
 have h := Option.some.inj h
 subst h
 refine (hret _ ?_).1
 exact ⟨[(.bool (v2 == 0))], ⟨rfl, trivial⟩, rfl, trivial⟩
def F134_c3 (K : Nat) (a0 : (List Zm)) : Option ((List Zm)) :=
 some a0
def Z6y (K : Nat) (v18 : Int) (v19 : (List Zm)) : Option ((List Zm)) :=
 if (0 : Int) ≤ v18 ∧ v18 ≤ (v19.length : Int) ∧ (v19.length : Int) ≤ (v19.length : Nat) then
  if (0 + v18.toNat) + ((v19.length : Int).toNat - v18.toNat) ≤ v19.length then
   if (0 + v18.toNat) + ((v19.length : Int).toNat - v18.toNat) ≤ v19.length then
    if (0 : Int) ≤ 0 ∧ 0 ≤ v18 ∧ v18 ≤ ((v19.take (0 + v18.toNat) ++ List.replicate ((v19.length : Int).toNat - v18.toNat) Z8 ++ v19.drop ((0 + v18.toNat) + ((v19.length : Int).toNat - v18.toNat))).length : Nat) then
     if (0 + (0 : Int).toNat) + (v18.toNat - (0 : Int).toNat) ≤ (v19.take (0 + v18.toNat) ++ List.replicate ((v19.length : Int).toNat - v18.toNat) Z8 ++ v19.drop ((0 + v18.toNat) + ((v19.length : Int).toNat - v18.toNat))).length then
      some (((v19.take (0 + v18.toNat) ++ List.replicate ((v19.length : Int).toNat - v18.toNat) Z8 ++ v19.drop ((0 + v18.toNat) + ((v19.length : Int).toNat - v18.toNat))).drop (0 + (0 : Int).toNat)).take (v18.toNat - (0 : Int).toNat))
     else none
    else none
   else none
  else none
 else none
def Z8v (K : Nat) (b27 : Int → Int → (List Zm) → Option ((List Zm))) (v15 : Int) (v37 : Int) (v38 : (List Zm)) : Option ((List Zm)) :=
 b27 v37 (IntKind.i64.wrap (v15 + 1)) v38
def Z5x (K : Nat) (v1 : Int) (a0 : (List Zm)) (c21 : Int → (List Zm) → Option ((List Zm))) : Nat → Int → Int → (List Zm) → Option ((List Zm))
 | 0, _, _, _ => none
 | k17 + 1, v14, v15, v16 =>
  if (0 + v1.toNat) + ((a0.length : Int).toNat - v1.toNat) ≤ v16.length then
   if (decide (v15 < ((((a0.length : Int).toNat - v1.toNat) : Nat) : Int))) = true then
    if (0 + v1.toNat) + ((a0.length : Int).toNat - v1.toNat) ≤ v16.length then
     if (0 : Int) ≤ v15 ∧ v15 < (((a0.length : Int).toNat - v1.toNat) : Nat) then
      if ((0 + v1.toNat) + v15.toNat) < v16.length then
       if (0 + v1.toNat) + ((a0.length : Int).toNat - v1.toNat) ≤ v16.length then
        if (0 : Int) ≤ (IntKind.i64.wrap (v15 - 1)) ∧ (IntKind.i64.wrap (v15 - 1)) < (((a0.length : Int).toNat - v1.toNat) : Nat) then
         if ((0 + v1.toNat) + (IntKind.i64.wrap (v15 - 1)).toNat) < v16.length then
          (F138 K (v16.getD ((0 + v1.toNat) + v15.toNat) Z8) (v16.getD ((0 + v1.toNat) + (IntKind.i64.wrap (v15 - 1)).toNat) Z8)).bind fun v36 =>
           if (!v36) = true then
            if (0 + v1.toNat) + ((a0.length : Int).toNat - v1.toNat) ≤ v16.length then
             if (0 : Int) ≤ v15 ∧ v15 < (((a0.length : Int).toNat - v1.toNat) : Nat) then
              if ((0 + v1.toNat) + v15.toNat) < v16.length then
               if (0 : Int) ≤ v14 ∧ v14 < (v16.length : Nat) then
                if v14.toNat < v16.length then
                 Z8v K (Z5x K v1 a0 c21 k17) v15 (IntKind.i64.wrap (v14 + 1)) (v16.set v14.toNat (v16.getD ((0 + v1.toNat) + v15.toNat) Z8))
                else none
               else none
              else none
             else none
            else none
           else
            Z8v K (Z5x K v1 a0 c21 k17) v15 v14 v16
         else none
        else none
       else none
      else none
     else none
    else none
   else
    c21 v14 v16
  else none
def F134_l2 (K : Nat) (a0 : (List Zm)) (c4 : Option ((List Zm))) : Nat → Int → Option ((List Zm))
 | 0, _ => none
 | k2 + 1, v1 =>
  if (decide (v1 < (a0.length : Int))) = true then
   if (0 : Int) ≤ v1 ∧ v1 < (a0.length : Nat) then
    if v1.toNat < a0.length then
     if (0 : Int) ≤ (IntKind.i64.wrap (v1 - 1)) ∧ (IntKind.i64.wrap (v1 - 1)) < (a0.length : Nat) then
      if (IntKind.i64.wrap (v1 - 1)).toNat < a0.length then
       (F138 K (a0.getD v1.toNat Z8) (a0.getD (IntKind.i64.wrap (v1 - 1)).toNat Z8)).bind fun v11 =>
        if v11 = true then
         if (0 : Int) ≤ v1 ∧ v1 ≤ (a0.length : Int) ∧ (a0.length : Int) ≤ (a0.length : Nat) then
          if (0 + v1.toNat) + ((a0.length : Int).toNat - v1.toNat) ≤ a0.length then
           Z5x K v1 a0 (Z6y K) K v1 1 a0
          else none
         else none
        else
         (F134_l2 K a0 c4 k2) (IntKind.i64.wrap (v1 + 1))
      else none
     else none
    else none
   else none
  else
   c4
def F134 (K : Nat) (a0 : (List Zm)) : Option ((List Zm)) :=
 if (decide ((a0.length : Int) < 2)) = true then
  some a0
 else
  F134_l2 K a0 (F134_c3 K a0) K 1
theorem F134_ok (K : Nat) (a0 : (List Zm)) (r : (List Zm)) (h : F134 K a0 = some r) : ACall P 134 ⟨[(.vs 0), (.clo 138 [])], [(0, .vec 14 (List.map Zd a0))], .vs 0, [(0, .vec 14 (List.map Zd r))], [0]⟩ := by
 refine Z1s Tryz.func134 Tryz.results134 rfl Tryz.ntmps134 rfl rfl rfl ?_
 intro E Q hP hN hro hret
 obtain ⟨P', nt', w0, F0, p0, S0, β0, ro0⟩ := E
 simp only at hP hN
 subst hP hN
 dsimp only [argT]
 unfold F134 at h
 refine Zj <| Zf <| Z2 I (Zp (v := (.sl 14 [] false)) I I) I <| Zi <| Zh <| Zj <| Zj <| Zf ?_
 refine Z2 I (Zo (v := (.vs 0)) I I) I <| Z2 I (stx_lenV (l := a0) (enc := Zd) I u37 I I) I <| Z2 I (Z25 (k := .i64) (a := (a0.length : Int)) (b := 2) (c := (decide ((a0.length : Int) < 2))) I I I I) I <| Zi <| Zh ?_
 have hif := Z28 h
 refine Z16 I (fun hc => ?_) (fun hc => ?_)
 ·have h := hif.1 hc
  refine Zj <| Zf <| Z2 I (Zo (v := (.vs 0)) I I) I <| Z2 I (Zp (v := (.vs 0)) I I) I <| Zi <| Zh <| Z1g <| Z1k ?_
  have h := Option.some.inj h
  subst h
  refine (hret _ ?_).1
  exact ⟨[(.vs 0)], ⟨rfl, trivial⟩, rfl, ⟨rfl, trivial⟩⟩
 ·have h := hif.2 hc
  refine Z1b <| Zh <| Zj <| Zj <| Zf <| Z2 I (Zp (v := (.int .i64 1)) I I) I <| Zi <| Zh ?_
  refine AWp.weaken (st' := ⟨[(0, (.vs 0)), (1, (.clo 138 [])), (5, (.int .i64 1))], [(0, (.vec 14 (List.map Zd a0)))]⟩) ⟨rfl, rfl, rfl, trivial⟩ ⟨rfl, trivial⟩ ?_
  refine Z1n (V := Int) (X := Unit) (lp := fun k v => F134_l2 K a0 (F134_c3 K a0) k v = some r) (sh := fun v => ⟨[(0, (.vs 0)), (1, (.clo 138 [])), (5, (.int .i64 v))], [(0, (.vec 14 (List.map Zd a0)))]⟩) (x := fun v => F134_c3 K a0 = some r) (shx := fun v => ⟨[(0, (.vs 0))], [(0, (.vec 14 (List.map Zd a0)))]⟩) (k := K) (v := 1) h ?_ ?_
  ·intro v h
   try dsimp only at h ⊢
   unfold F134_c3 at h
   refine Zh <| Zj <| Zf <| Z2 I (Zo (v := (.vs 0)) I I) I <| Z2 I (Zp (v := (.vs 0)) I I) I <| Zi <| Zh <| Z1g ?_
   have h := Option.some.inj h
   subst h
   refine (hret _ ?_).1
   exact ⟨[(.vs 0)], ⟨rfl, trivial⟩, rfl, ⟨rfl, trivial⟩⟩
  ·intro N k2 v h IH2 J2
   revert h
   revert v
   intro v1 h
   try dsimp only at h IH2 J2 ⊢
   cases k2 with
   | zero => cases h
   | succ k2 =>
    rw [F134_l2] at h
    refine Zj <| Zj <| Zf <| Z2 I (Zo (v := (.int .i64 v1)) I I) I <| Z2 I (Zo (v := (.vs 0)) I I) I <| Z2 I (stx_lenV (l := a0) (enc := Zd) I u37 I I) I <| Z2 I (Z25 (k := .i64) (a := v1) (b := (a0.length : Int)) (c := (decide (v1 < (a0.length : Int)))) I I I I) I <| Zi ?_
    refine Zh ?_
    have hif := Z28 h
    refine Z16 I (fun hc => ?_) (fun hc => ?_)
    ·have h := hif.1 hc
     refine Z1b <| Zh <| Zj <| AWp.block <| Zj <| Z1r mixed <| Zb 0 I (Zo (v := (.clo 138 [])) I I) <| Zb 1 I (Zo (v := (.vs 0)) I I) ?_
     refine Zb 2 I (Zo (v := (.int .i64 v1)) I I) ?_
     have ⟨hg6, h⟩ := Z13 h
     refine Zb 3 I (Z3t (k := .i64) (v := (.vs 0)) (n := 0) (off := 0) (len := a0.length) (es := (List.map Zd a0)) (j := v1) (m := v1.toNat) I s37 I I (Z43 _ _ _) I hg6 (Nat.zero_add _)) ?_
     have ⟨hg7, h⟩ := Z13 h
     refine Zb 4 I (Z4o (l := a0) (enc := Zd) (z := Z8) (vs := (Zd (a0.getD v1.toNat Z8)).cells) I a56 I I hg7 I I) <| Zb 5 I (Zo (v := (.vs 0)) I I) <| Zb 6 I (Zo (v := (.int .i64 v1)) I I) <| Zb 7 I (Z1u (k := .i64) (a := v1) (b := 1) (c := (IntKind.i64.wrap (v1 - 1))) I I I I) ?_
     have ⟨hg8, h⟩ := Z13 h
     refine Zb 8 I (Z3t (k := .i64) (v := (.vs 0)) (n := 0) (off := 0) (len := a0.length) (es := (List.map Zd a0)) (j := (IntKind.i64.wrap (v1 - 1))) (m := (IntKind.i64.wrap (v1 - 1)).toNat) I s37 I I (Z43 _ _ _) I hg8 (Nat.zero_add _)) ?_
     have ⟨hg9, h⟩ := Z13 h
     refine Zb 9 I (Z4o (l := a0) (enc := Zd) (z := Z8) (vs := (Zd (a0.getD (IntKind.i64.wrap (v1 - 1)).toNat Z8)).cells) I a56 I I hg9 I I) ?_
     have ⟨v11, hv11, h⟩ := Z1f h
     refine Zb 10 I (Z1o (ar := [(Zd (a0.getD v1.toNat Z8)), (Zd (a0.getD (IntKind.i64.wrap (v1 - 1)).toNat Z8))]) (caps := []) Tryz.call138 (F138_ok K (a0.getD v1.toNat Z8) (a0.getD (IntKind.i64.wrap (v1 - 1)).toNat Z8) v11 hv11) I I ⟨rfl, rfl, trivial⟩ I) <| AOpsD.nil (by kernel_rfl) I <| Zh ?_
     have hif := Z28 h
     refine Z16 I (fun hc => ?_) (fun hc => ?_)
     ·have h := hif.1 hc
      refine Zj <| Zf <| Z2 I (Zo (v := (.vs 0)) I I) I <| Z2 I (Zo (v := (.int .i64 v1)) I I) I ?_
      have ⟨hg12, h⟩ := Z13 h
      have ⟨hg13, h⟩ := Z13 h
      refine Z2 I (Za3 (v := (.vs 0)) (n := 0) (off := 0) (len := a0.length) (l := a0) (enc := Zd) (kl := .i64) (lo := v1) I s37 I I (Z43 _ _ _) I hg12 I) I <| Z2 I (Zp (v := (.vsub 0 (0 + v1.toNat) ((a0.length : Int).toNat - v1.toNat) false)) I I) I <| Zi <| Zh <| Zj <| Zj <| Zf <| Z2 I (Zp (v := (.int .i64 1)) I I) I ?_
      refine Zi <| Zh <| AWp.weaken (st' := ⟨[(0, (.vs 0)), (1, (.clo 138 [])), (5, (.int .i64 v1)), (6, (.vsub 0 (0 + v1.toNat) ((a0.length : Int).toNat - v1.toNat) false)), (7, (.int .i64 1))], [(0, (.vec 14 (List.map Zd a0)))]⟩) ⟨rfl, rfl, rfl, rfl, rfl, trivial⟩ ⟨rfl, trivial⟩ ?_
      refine Z1n (V := Int × Int × (List Zm)) (X := Int × (List Zm)) (lp := fun k v => Z5x K v1 a0 (Z6y K) k v.1 v.2.1 v.2.2 = some r) (sh := fun v => ⟨[(0, (.vs 0)), (1, (.clo 138 [])), (5, (.int .i64 v.1)), (6, (.vsub 0 (0 + v1.toNat) ((a0.length : Int).toNat - v1.toNat) false)), (7, (.int .i64 v.2.1))], [(0, (.vec 14 (List.map Zd v.2.2)))]⟩) (x := fun v => Z6y K v.1 v.2 = some r) (shx := fun v => ⟨[(0, (.vs 0)), (5, (.int .i64 v.1))], [(0, (.vec 14 (List.map Zd v.2)))]⟩) (k := K) (v := (v1, 1, a0)) h ?_ ?_
      ·intro v h
       obtain ⟨v18, v19⟩ := v
       try dsimp only at h ⊢
       unfold Z6y at h
       refine Zh <| Zj <| Zf <| Z2 I (Zo (v := (.vs 0)) I I) I <| Z2 I (Zo (v := (.int .i64 v18)) I I) I ?_
       have ⟨hg22, h⟩ := Z13 h
       have ⟨hg23, h⟩ := Z13 h
       refine Z2 I (Za3 (v := (.vs 0)) (n := 0) (off := 0) (len := v19.length) (l := v19) (enc := Zd) (kl := .i64) (lo := v18) I s37 I I (Z43 _ _ _) I hg22 I) I ?_
       have ⟨hg24, h⟩ := Z13 h
       refine Z2 I (st_clear (v := (.vsub 0 (0 + v18.toNat) ((v19.length : Int).toNat - v18.toNat) false)) (n := 0) (off := (0 + v18.toNat)) (len := ((v19.length : Int).toNat - v18.toNat)) (l := v19) (enc := Zd) el37 ze56 I I I (Z7j hg24) Z2z) I <| Zi <| Zh <| Zj <| Zf <| Z2 I (Zo (v := (.vs 0)) I I) I <| Z2 I (Zo (v := (.int .i64 v18)) I I) I ?_
       have ⟨hg25, h⟩ := Z13 h
       have ⟨hg26, h⟩ := Z13 h
       refine Z2 I (Z9a (v := (.vs 0)) (n := 0) (off := 0) (len := (v19.take (0 + v18.toNat) ++ List.replicate ((v19.length : Int).toNat - v18.toNat) Z8 ++ v19.drop ((0 + v18.toNat) + ((v19.length : Int).toNat - v18.toNat))).length) (l := (v19.take (0 + v18.toNat) ++ List.replicate ((v19.length : Int).toNat - v18.toNat) Z8 ++ v19.drop ((0 + v18.toNat) + ((v19.length : Int).toNat - v18.toNat)))) (enc := Zd) (kh := .i64) (hi := v18) I s37 I I (Z43 _ _ _) I hg25 I) I <| Z2 I (Zp (v := (.vsub 0 (0 + (0 : Int).toNat) (v18.toNat - (0 : Int).toNat) false)) I I) I <| Zi <| Zh <| Z1g <| At.overR <| Z1k ?_
       refine Z1k (At.overR ?_)
       refine Z1k <| At.ghost (st' := ⟨[(4, (.vs 0))], [(0, (.vec 14 (List.map Zd (((v19.take (0 + v18.toNat) ++ List.replicate ((v19.length : Int).toNat - v18.toNat) Z8 ++ v19.drop ((0 + v18.toNat) + ((v19.length : Int).toNat - v18.toNat))).drop (0 + (0 : Int).toNat)).take (v18.toNat - (0 : Int).toNat)))))]⟩) (fun a w h => (Z17 ⟨[(4, (.vs 0))], [(0, (.vec 14 (List.map Zd (((v19.take (0 + v18.toNat) ++ List.replicate ((v19.length : Int).toNat - v18.toNat) Z8 ++ v19.drop ((0 + v18.toNat) + ((v19.length : Int).toNat - v18.toNat))).drop (0 + (0 : Int).toNat)).take (v18.toNat - (0 : Int).toNat)))))]⟩ (Z9k (k := 4) (m := 0) (sz := 14) (off := (0 + (0 : Int).toNat)) (len := (v18.toNat - (0 : Int).toNat)) (enc := Zd) (l := (v19.take (0 + v18.toNat) ++ List.replicate ((v19.length : Int).toNat - v18.toNat) Z8 ++ v19.drop ((0 + v18.toNat) + ((v19.length : Int).toNat - v18.toNat)))) I hg26 a w (Z17 ⟨[(4, (.vsub 0 (0 + (0 : Int).toNat) (v18.toNat - (0 : Int).toNat) false))], [(0, (.vec 14 (List.map Zd (v19.take (0 + v18.toNat) ++ List.replicate ((v19.length : Int).toNat - v18.toNat) Z8 ++ v19.drop ((0 + v18.toNat) + ((v19.length : Int).toNat - v18.toNat))))))]⟩ h ⟨rfl, trivial⟩ ⟨rfl, trivial⟩)) ⟨rfl, trivial⟩ ⟨rfl, trivial⟩)) ?_
       have h := Option.some.inj h
       subst h
       refine (hret _ ?_).1
       exact ⟨[(.vs 0)], ⟨rfl, trivial⟩, rfl, ⟨rfl, trivial⟩⟩
      ·intro N k17 v h IH17 J17
       obtain ⟨v14, v15, v16⟩ := v
       try dsimp only at h IH17 J17 ⊢
       cases k17 with
       | zero => cases h
       | succ k17 =>
        rw [Z5x] at h
        refine Zj <| Zj <| Zf <| Z2 I (Zo (v := (.int .i64 v15)) I I) I <| Z2 I (Zo (v := (.vsub 0 (0 + v1.toNat) ((a0.length : Int).toNat - v1.toNat) false)) I I) I ?_
        have ⟨hg28, h⟩ := Z13 h
        refine Z2 I (stx_lenVS (v := (.vsub 0 (0 + v1.toNat) ((a0.length : Int).toNat - v1.toNat) false)) (n := 0) (off := (0 + v1.toNat)) (len := ((a0.length : Int).toNat - v1.toNat)) (l := v16) (enc := Zd) I u37 I I (Z7j hg28)) I <| Z2 I (Z25 (k := .i64) (a := v15) (b := ((((a0.length : Int).toNat - v1.toNat) : Nat) : Int)) (c := (decide (v15 < ((((a0.length : Int).toNat - v1.toNat) : Nat) : Int)))) I I I I) I <| Zi <| Zh ?_
        have hif := Z28 h
        refine Z16 I (fun hc => ?_) (fun hc => ?_)
        ·have h := hif.1 hc
         refine Z1b <| Zh <| Zj <| AWp.block <| Zj <| Z1r mixed <| Zb 0 I (Zo (v := (.clo 138 [])) I I) <| Zb 1 I (Zo (v := (.vsub 0 (0 + v1.toNat) ((a0.length : Int).toNat - v1.toNat) false)) I I) ?_
         refine Zb 2 I (Zo (v := (.int .i64 v15)) I I) ?_
         have ⟨hg29, h⟩ := Z13 h
         have ⟨hg30, h⟩ := Z13 h
         refine Zb 3 I (Z3t (k := .i64) (v := (.vsub 0 (0 + v1.toNat) ((a0.length : Int).toNat - v1.toNat) false)) (n := 0) (off := (0 + v1.toNat)) (len := ((a0.length : Int).toNat - v1.toNat)) (es := (List.map Zd v16)) (j := v15) (m := ((0 + v1.toNat) + v15.toNat)) I s37 I I (Z7j hg29) I hg30 (I)) ?_
         have ⟨hg31, h⟩ := Z13 h
         refine Zb 4 I (Z4o (l := v16) (enc := Zd) (z := Z8) (vs := (Zd (v16.getD ((0 + v1.toNat) + v15.toNat) Z8)).cells) I a56 I I hg31 I I) <| Zb 5 I (Zo (v := (.vsub 0 (0 + v1.toNat) ((a0.length : Int).toNat - v1.toNat) false)) I I) <| Zb 6 I (Zo (v := (.int .i64 v15)) I I) <| Zb 7 I (Z1u (k := .i64) (a := v15) (b := 1) (c := (IntKind.i64.wrap (v15 - 1))) I I I I) ?_
         have ⟨hg32, h⟩ := Z13 h
         have ⟨hg33, h⟩ := Z13 h
         refine Zb 8 I (Z3t (k := .i64) (v := (.vsub 0 (0 + v1.toNat) ((a0.length : Int).toNat - v1.toNat) false)) (n := 0) (off := (0 + v1.toNat)) (len := ((a0.length : Int).toNat - v1.toNat)) (es := (List.map Zd v16)) (j := (IntKind.i64.wrap (v15 - 1))) (m := ((0 + v1.toNat) + (IntKind.i64.wrap (v15 - 1)).toNat)) I s37 I I (Z7j hg32) I hg33 (I)) ?_
         have ⟨hg34, h⟩ := Z13 h
         refine Zb 9 I (Z4o (l := v16) (enc := Zd) (z := Z8) (vs := (Zd (v16.getD ((0 + v1.toNat) + (IntKind.i64.wrap (v15 - 1)).toNat) Z8)).cells) I a56 I I hg34 I I) ?_
         have ⟨v36, hv36, h⟩ := Z1f h
         refine Zb 10 I (Z1o (ar := [(Zd (v16.getD ((0 + v1.toNat) + v15.toNat) Z8)), (Zd (v16.getD ((0 + v1.toNat) + (IntKind.i64.wrap (v15 - 1)).toNat) Z8))]) (caps := []) Tryz.call138 (F138_ok K (v16.getD ((0 + v1.toNat) + v15.toNat) Z8) (v16.getD ((0 + v1.toNat) + (IntKind.i64.wrap (v15 - 1)).toNat) Z8) v36 hv36) I I ⟨rfl, rfl, trivial⟩ I) <| Zb 11 I (Zbj (b := v36) I I) <| AOpsD.nil (by kernel_rfl) I <| Zh ?_
         refine AWp.join (V := Int × (List Zm)) (lp := fun v => Z8v K (Z5x K v1 a0 (Z6y K) k17) v15 v.1 v.2 = some r) (sh := fun v => ⟨[(0, (.vs 0)), (1, (.clo 138 [])), (5, (.int .i64 v.1)), (6, (.vsub 0 (0 + v1.toNat) ((a0.length : Int).toNat - v1.toNat) false)), (7, (.int .i64 v15))], [(0, (.vec 14 (List.map Zd v.2)))]⟩) ?_ ?_
         ·intro v h
          obtain ⟨v37, v38⟩ := v
          try dsimp only at h ⊢
          unfold Z8v at h
          refine At.end <| Zh <| Zf <| Z2 I (Zo (v := (.int .i64 v15)) I I) I <| Z2 I (Z1u (k := .i64) (a := v15) (b := 1) (c := (IntKind.i64.wrap (v15 + 1))) I I I I) I <| Z2 I (Zp (v := (.int .i64 (IntKind.i64.wrap (v15 + 1)))) I I) I <| Zi ?_
          exact Zy (st' := ⟨[(0, (.vs 0)), (1, (.clo 138 [])), (5, (.int .i64 v37)), (6, (.vsub 0 (0 + v1.toNat) ((a0.length : Int).toNat - v1.toNat) false)), (7, (.int .i64 (IntKind.i64.wrap (v15 + 1))))], [(0, (.vec 14 (List.map Zd v38)))]⟩) ⟨rfl, rfl, rfl, rfl, rfl, trivial⟩ ⟨rfl, trivial⟩ (IH17 _ (v37, (IntKind.i64.wrap (v15 + 1)), v38) (Nat.lt_succ_self _) h)
         ·intro J39
          have hif := Z28 h
          refine Z16 I (fun hc => ?_) (fun hc => ?_)
          ·have h := hif.1 hc
           refine Zj <| Zf <| Z2 I (Zo (v := (.vs 0)) I I) I <| Z2 I (Zo (v := (.int .i64 v14)) I I) I <| Z2 I (Zo (v := (.vsub 0 (0 + v1.toNat) ((a0.length : Int).toNat - v1.toNat) false)) I I) I <| Z2 I (Zo (v := (.int .i64 v15)) I I) I ?_
           have ⟨hg40, h⟩ := Z13 h
           have ⟨hg41, h⟩ := Z13 h
           refine Z2 I (Z3t (k := .i64) (v := (.vsub 0 (0 + v1.toNat) ((a0.length : Int).toNat - v1.toNat) false)) (n := 0) (off := (0 + v1.toNat)) (len := ((a0.length : Int).toNat - v1.toNat)) (es := (List.map Zd v16)) (j := v15) (m := ((0 + v1.toNat) + v15.toNat)) I s37 I I (Z7j hg40) I hg41 (I)) I ?_
           have ⟨hg42, h⟩ := Z13 h
           refine Z2 I (Z4o (l := v16) (enc := Zd) (z := Z8) (vs := (Zd (v16.getD ((0 + v1.toNat) + v15.toNat) Z8)).cells) I a56 I I hg42 I I) I ?_
           have ⟨hg43, h⟩ := Z13 h
           refine Z2 I (Z3t (k := .i64) (v := (.vs 0)) (n := 0) (off := 0) (len := v16.length) (es := (List.map Zd v16)) (j := v14) (m := v14.toNat) I s37 I I (Z43 _ _ _) I hg43 (Nat.zero_add _)) I ?_
           have ⟨hg44, h⟩ := Z13 h
           refine Z2 I (st_storeV (l := v16) (enc := Zd) (z := Z8) (a := (v16.getD ((0 + v1.toNat) + v15.toNat) Z8)) (v := (Zd (v16.getD ((0 + v1.toNat) + v15.toNat) Z8))) sz56 I I hg44 I Z2z I I I I) I <| Zi <| Zh <| Zf <| Z2 I (Zo (v := (.int .i64 v14)) I I) I <| Z2 I (Z1u (k := .i64) (a := v14) (b := 1) (c := (IntKind.i64.wrap (v14 + 1))) I I I I) I <| Z2 I (Zp (v := (.int .i64 (IntKind.i64.wrap (v14 + 1)))) I I) I <| Zi ?_
           exact Zy (st' := ⟨[(0, (.vs 0)), (1, (.clo 138 [])), (5, (.int .i64 (IntKind.i64.wrap (v14 + 1)))), (6, (.vsub 0 (0 + v1.toNat) ((a0.length : Int).toNat - v1.toNat) false)), (7, (.int .i64 v15))], [(0, (.vec 14 (List.map Zd (v16.set v14.toNat (v16.getD ((0 + v1.toNat) + v15.toNat) Z8)))))]⟩) ⟨rfl, rfl, rfl, rfl, rfl, trivial⟩ ⟨rfl, trivial⟩ (J39 ((IntKind.i64.wrap (v14 + 1)), (v16.set v14.toNat (v16.getD ((0 + v1.toNat) + v15.toNat) Z8))) h)
          ·have h := hif.2 hc
           refine Z1b ?_
           exact Zy (st' := ⟨[(0, (.vs 0)), (1, (.clo 138 [])), (5, (.int .i64 v14)), (6, (.vsub 0 (0 + v1.toNat) ((a0.length : Int).toNat - v1.toNat) false)), (7, (.int .i64 v15))], [(0, (.vec 14 (List.map Zd v16)))]⟩) ⟨rfl, rfl, rfl, rfl, rfl, trivial⟩ ⟨rfl, trivial⟩ (J39 (v14, v16) h)
        ·have h := hif.2 hc
         refine AWp.exit <| At.thru ?_
         exact Zy (st' := ⟨[(0, (.vs 0)), (5, (.int .i64 v14))], [(0, (.vec 14 (List.map Zd v16)))]⟩) ⟨rfl, rfl, trivial⟩ ⟨rfl, trivial⟩ (J17 (v14, v16) h)
     ·have h := hif.2 hc
      refine Z1b <| At.end <| Zh <| Zf <| Z2 I (Zo (v := (.int .i64 v1)) I I) I <| Z2 I (Z1u (k := .i64) (a := v1) (b := 1) (c := (IntKind.i64.wrap (v1 + 1))) I I I I) I <| Z2 I (Zp (v := (.int .i64 (IntKind.i64.wrap (v1 + 1)))) I I) I <| Zi ?_
      exact Zy (st' := ⟨[(0, (.vs 0)), (1, (.clo 138 [])), (5, (.int .i64 (IntKind.i64.wrap (v1 + 1))))], [(0, (.vec 14 (List.map Zd a0)))]⟩) ⟨rfl, rfl, rfl, trivial⟩ ⟨rfl, trivial⟩ (IH2 _ (IntKind.i64.wrap (v1 + 1)) (Nat.lt_succ_self _) h)
    ·have h := hif.2 hc
     refine AWp.exit <| At.thru ?_
     exact Zy (st' := ⟨[(0, (.vs 0))], [(0, (.vec 14 (List.map Zd a0)))]⟩) ⟨rfl, trivial⟩ ⟨rfl, trivial⟩ (J2 () h)
def F92 (K : Nat) (a0 : (List Zm)) : Option ((List Zm)) :=
 (F136 K a0).bind fun v2 =>
  (F135 K v2).bind fun v4 =>
   (F134 K v4).bind fun v6 =>
    some v6
theorem F92_ok (K : Nat) (a0 : (List Zm)) (r : (List Zm)) (h : F92 K a0 = some r) : ACall P 92 ⟨[(.sl 14 (a0.map Zd) false)], [], (.sl 14 (r.map Zd) false), [], []⟩ := by
 refine Z1s Tryz.func92 Tryz.results92 rfl Tryz.ntmps92 rfl rfl rfl ?_
 intro E Q hP hN hro hret
 obtain ⟨P', nt', w0, F0, p0, S0, β0, ro0⟩ := E
 simp only at hP hN
 subst hP hN
 dsimp only [argT]
 unfold F92 at h
 refine Zj <| Zf <| Z2 I (Zp (v := (.sl 14 [] false)) I I) I <| Zi <| Zh <| Zj <| Zf <| Z2 I (Zo (v := (.sl 14 (a0.map Zd) false)) I I) I ?_
 have ⟨v2, hv2, h⟩ := Z1f h
 refine Z2 I (Z1o (ar := [(.sl 14 (a0.map Zd) false)]) (caps := []) Tryz.call136 (F136_ok K a0 v2 hv2) I I ⟨rfl, trivial⟩ I) I ?_
 have ⟨v4, hv4, h⟩ := Z1f h
 refine Z2 I (Z8x (sz := 14) (es := (List.map Zd v4)) (ar := [(.clo 168 [(.ip [(.sl 14 (v2.map Zd) false)])]), (.clo 137 [])]) (caps := []) Tryz.call135 ((F135_ok K v2 v4 hv4).sw 4 5) I I ⟨rfl, rfl, trivial⟩ I) I ?_
 have ⟨v6, hv6, h⟩ := Z1f h
 refine Z2 I (Z2v (d := some 6) (c := ⟨[(.vs 5), (.clo 138 [])] ++ [], [(5, (.vec 14 (List.map Zd v4)))], .vs 5, [(5, .vec 14 (List.map Zd v6))], [5]⟩) (ar := [(.vs 5), (.clo 138 [])]) (caps := []) (news := []) (forg := [5]) Tryz.call134 ((F134_ok K v4 v6 hv6).sw 0 5) I I ⟨rfl, rfl, trivial⟩ I ⟨rfl, trivial⟩ I) I <| Z2 I (Zp (v := (.vs 5)) I I) I <| Zi <| Zh <| Z1g <| At.ghost (st' := ⟨[(2, (.sl 14 (v6.map Zd) false))], []⟩) (fun a w h => (Z17 ⟨[(2, (.sl 14 (v6.map Zd) false))], []⟩ (Z29 (m := 5) (sz := 14) (es := (List.map Zd v6)) a w (Z17 ⟨[(2, (.vs 5))], [(5, (.vec 14 (List.map Zd v6)))]⟩ h ⟨rfl, trivial⟩ ⟨rfl, trivial⟩)) ⟨rfl, trivial⟩ trivial)) ?_
 have h := Option.some.inj h
 subst h
 refine (hret _ ?_).1
 exact ⟨[(.sl 14 (v6.map Zd) false)], ⟨rfl, trivial⟩, rfl, trivial⟩
def F95 (K : Nat) (a0 : Zm) : Option (Z2j) :=
 some (⟨a0.Trace, a0.Id⟩ : Z2j)
theorem F95_ok (K : Nat) (a0 : Zm) (r : Z2j) (h : F95 K a0 = some r) : ACall P 95 ⟨[(Zd a0)], [], (Z10 r), [], []⟩ := by
 refine Z1s Tryz.func95 Tryz.results95 rfl Tryz.ntmps95 rfl rfl rfl ?_
 intro E Q hP hN hro hret
 obtain ⟨P', nt', w0, F0, p0, S0, β0, ro0⟩ := E
 simp only at hP hN
 subst hP hN
 dsimp only [argT]
 unfold F95 at h
 refine Zj <| Zf <| Z2 I (Z2m (v := (Zd a0)) (cs := (Zd a0).cells) I I I I I) I <| Z2 I (Z1v (cs := [(.int .i64 0), (.int .i64 0)]) I z177 I I I) I <| Zi <| Zh <| Zj <| Zf ?_
 refine Z2 I (Zr (m := 1) (o := 0) I f56_0 I I) I <| Z2 I (Zt (cs := (Zd a0).cells) (v := (.int .i64 a0.Trace)) I o3 I I I) I <| Z2 I (Zr (m := 1) (o := 0) I f56_1 I I) I <| Z2 I (Zt (cs := (Zd a0).cells) (v := (.int .i64 a0.Id)) I o3 I I I) I <| Z2 I (Z27 (vs := [(0, (.int .i64 a0.Trace)), (1, (.int .i64 a0.Id))]) (cs := [(.int .i64 a0.Trace), (.int .i64 a0.Id)]) I st177 ⟨rfl, rfl, rfl, rfl, trivial⟩ I) I <| Z2 I (Z1e (cs := [(.int .i64 0), (.int .i64 0)]) (vs := [(.int .i64 a0.Trace), (.int .i64 a0.Id)]) (ds := [(.int .i64 a0.Trace), (.int .i64 a0.Id)]) (v := (.ag [(.int .i64 a0.Trace), (.int .i64 a0.Id)])) sz177 I I I I I I I I) I <| Zi <| Zh ?_
 refine Z1g ?_
 have h := Option.some.inj h
 subst h
 refine (hret _ ?_).1
 exact ⟨[(.ag [(.int .i64 a0.Trace), (.int .i64 a0.Id)])], ⟨⟨2, _, rfl, rfl, .inr ⟨_, a177, rfl, rfl⟩⟩, trivial⟩, rfl, trivial⟩
def F94 (K : Nat) (a0 : Int) (a1 : (List Zm)) : Option (Bool) :=
 if ((IntKind.i64.wrap (a0 + 1)) == (a1.length : Int)) = true then
  some true
 else
  if (0 : Int) ≤ (IntKind.i64.wrap (a0 + 1)) ∧ (IntKind.i64.wrap (a0 + 1)) < a1.length then
   (F95 K (a1.getD (IntKind.i64.wrap (a0 + 1)).toNat Z8)).bind fun v3 =>
    if (0 : Int) ≤ a0 ∧ a0 < a1.length then
     (F95 K (a1.getD a0.toNat Z8)).bind fun v6 =>
      some (!((v3.Trace == v6.Trace) && ((v3.Id == v6.Id) && true)))
    else none
  else none
theorem F94_ok (K : Nat) (a0 : Int) (a1 : (List Zm)) (r : Bool) (h : F94 K a0 a1 = some r) : ACall P 94 ⟨[(.int .i64 a0), (.ip [(.sl 14 (a1.map Zd) false)])], [], (.bool r), [], []⟩ := by
 refine Z1s Tryz.func94 Tryz.results94 rfl Tryz.ntmps94 rfl rfl rfl ?_
 intro E Q hP hN hro hret
 obtain ⟨P', nt', w0, F0, p0, S0, β0, ro0⟩ := E
 simp only at hP hN
 subst hP hN
 dsimp only [argT]
 unfold F94 at h
 refine Zj <| Zf <| Z2 I (Zp (v := (.bool false)) I I) I <| Zi <| Zh <| Zj <| Z1r mixed <| Zb 0 I (Zo (v := (.int .i64 a0)) I I) ?_
 refine Zb 1 I (Z1u (k := .i64) (a := a0) (b := 1) (c := (IntKind.i64.wrap (a0 + 1))) I I I I) <| Zb 2 I (Z2f (cs := [(.sl 14 (a1.map Zd) false)]) (v := (.sl 14 (a1.map Zd) false)) I o37 I I) <| Zb 3 I (Z24 (l := a1) (enc := Zd) I s37 I) <| Zb 4 I (Z25 (k := .i64) (a := (IntKind.i64.wrap (a0 + 1))) (b := (a1.length : Int)) (c := ((IntKind.i64.wrap (a0 + 1)) == (a1.length : Int))) I I I I) <| Zb 5 I (Zo (v := (.bool ((IntKind.i64.wrap (a0 + 1)) == (a1.length : Int)))) I I) ?_
 have hif := Z28 h
 refine AOpsD.split (fun hc => ?_) (fun hc => ?_)
 ·have h := hif.1 hc
  refine Z12 6 I I I I I I I <| Z12 7 I I I I I I I <| Z12 8 I I I I I I I <| Z12 9 I I I I I I I <| Z12 10 I I I I I I I <| Z12 11 I I I I I I I <| Z12 12 I I I I I I I <| Z12 13 I I I I I I I ?_
  refine Z12 14 I I I I I I I <| Z12 15 I I I I I I I <| Z12 16 I I I I I I I <| Z12 17 I I I I I I I <| Zb 18 I (Z2w (v := (.bool true)) I I I) <| Zb 19 I (Zp (v := (.bool true)) I I) <| AOpsD.nil (by kernel_rfl) I <| Zh ?_
  refine Z1g ?_
  have h := Option.some.inj h
  subst h
  refine (hret _ ?_).1
  exact ⟨[(.bool true)], ⟨rfl, trivial⟩, rfl, trivial⟩
 ·have h := hif.2 hc
  refine Z14 6 I I I I (Z2f (cs := [(.sl 14 (a1.map Zd) false)]) (v := (.sl 14 (a1.map Zd) false)) I o37 I I) <| Z14 7 I I I I (Zo (v := (.int .i64 a0)) I I) <| Z14 8 I I I I (Z1u (k := .i64) (a := a0) (b := 1) (c := (IntKind.i64.wrap (a0 + 1))) I I I I) ?_
  have ⟨hg1, h⟩ := Z13 h
  refine Z14 9 I I I I (Z1w (k := .i64) (l := a1) (enc := Zd) (z := Z8) (n := (IntKind.i64.wrap (a0 + 1))) (cs := (Zd (a1.getD (IntKind.i64.wrap (a0 + 1)).toNat Z8)).cells) (full := false) I s37 I I hg1 I) <| Z14 10 I I I I (Z2i (cs := (Zd (a1.getD (IntKind.i64.wrap (a0 + 1)).toNat Z8)).cells) (vs := (Zd (a1.getD (IntKind.i64.wrap (a0 + 1)).toNat Z8)).cells) I a56 I I I) ?_
  have ⟨v3, hv3, h⟩ := Z1f h
  refine Z14 11 I I I I (Z1o (ar := [(Zd (a1.getD (IntKind.i64.wrap (a0 + 1)).toNat Z8))]) (caps := []) Tryz.call95 (F95_ok K (a1.getD (IntKind.i64.wrap (a0 + 1)).toNat Z8) v3 hv3) I I ⟨rfl, trivial⟩ I) <| Z14 12 I I I I (Z2f (cs := [(.sl 14 (a1.map Zd) false)]) (v := (.sl 14 (a1.map Zd) false)) I o37 I I) <| Z14 13 I I I I (Zo (v := (.int .i64 a0)) I I) ?_
  have ⟨hg4, h⟩ := Z13 h
  refine Z14 14 I I I I (Z1w (k := .i64) (l := a1) (enc := Zd) (z := Z8) (n := a0) (cs := (Zd (a1.getD a0.toNat Z8)).cells) (full := false) I s37 I I hg4 I) <| Z14 15 I I I I (Z2i (cs := (Zd (a1.getD a0.toNat Z8)).cells) (vs := (Zd (a1.getD a0.toNat Z8)).cells) I a56 I I I) ?_
  have ⟨v6, hv6, h⟩ := Z1f h
  refine Z14 16 I I I I (Z1o (ar := [(Zd (a1.getD a0.toNat Z8))]) (caps := []) Tryz.call95 (F95_ok K (a1.getD a0.toNat Z8) v6 hv6) I I ⟨rfl, trivial⟩ I) <| Z14 17 I I I I (Zad (xs := (Z10 v3).cells) (ys := (Z10 v6).cells) (b := ((v3.Trace == v6.Trace) && ((v3.Id == v6.Id) && true))) (c := (!((v3.Trace == v6.Trace) && ((v3.Id == v6.Id) && true)))) I eq177 I I I I) <| Zb 18 I (Z2u (v := (.bool (!((v3.Trace == v6.Trace) && ((v3.Id == v6.Id) && true))))) I I I) <| Zb 19 I (Zp (v := (.bool (!((v3.Trace == v6.Trace) && ((v3.Id == v6.Id) && true))))) I I) <| AOpsD.nil (by kernel_rfl) I <| Zh <| Z1g ?_
  have h := Option.some.inj h
  subst h
  refine (hret _ ?_).1
  exact ⟨[(.bool (!((v3.Trace == v6.Trace) && ((v3.Id == v6.Id) && true))))], ⟨rfl, trivial⟩, rfl, trivial⟩
def F90 (K : Nat) (a0 : (List Z1z)) : Option ((List Z1z)) :=
 if ([] : List Z1z).length + a0.length ≤ 1073741824 then
  some a0
 else none
theorem F90_ok (K : Nat) (a0 : (List Z1z)) (r : (List Z1z)) (h : F90 K a0 = some r) : ACall P 90 ⟨[(.sl 4 (a0.map Zw) false)], [], (.sl 4 (r.map Zw) false), [], []⟩ := by
 refine Z1s Tryz.func90 Tryz.results90 rfl Tryz.ntmps90 rfl rfl rfl ?_
 intro E Q hP hN hro hret
 obtain ⟨P', nt', w0, F0, p0, S0, β0, ro0⟩ := E
 simp only at hP hN
 subst hP hN
 dsimp only [argT]
 unfold F90 at h
 refine Zj <| Zf <| Z2 I (Zp (v := (.sl 4 [] true)) I I) I <| Zi <| Zh <| Zj <| Zj <| Zf ?_
 refine Z2 I (Zo (v := (.sl 4 (a0.map Zw) false)) I I) I ?_
 refine AOps.consNil (enc := Zw) (es := a0) (full := false) I u53 I (fun x1 hbx1 => ?_)
 refine Zi <| Zh ?_
 refine Z16 I (fun hc => ?_) (fun hc => ?_)
 ·have hz := hbx1 hc
  have h : (some []) = some r := by simp only [hz] at h ⊢; simpa using h
  refine Zj <| Zf <| Z2 I (Zp (v := (.sl 4 [] true)) I I) I <| Zi <| Zh <| Z1g <| Z1k <| At.ghost (st' := ⟨[(2, (.sl 4 [] false))], []⟩) (fun a w h => (Z17 ⟨[(2, (.sl 4 [] false))], []⟩ (Z9z a w (Z17 ⟨[(2, (.sl 4 [] true))], []⟩ h ⟨rfl, trivial⟩ trivial)) ⟨rfl, trivial⟩ trivial)) ?_
  have h := Option.some.inj h
  subst h
  refine (hret _ ?_).1
  exact ⟨[(.sl 4 [] false)], ⟨rfl, trivial⟩, rfl, trivial⟩
 ·refine Z1b <| Zh <| Zj <| Zf <| Z2 I (Z1m (vs := []) (enc := Zw) (l := ([] : List Z1z)) I el53 I I trivial I Z79 I I I I) I <| Z2 I (Zo (v := (.sl 4 (a0.map Zw) false)) I I) I ?_
  have ⟨hg2, h⟩ := Z13 h
  refine Z2 I (Z2p (m := 5) (enc := Zw) (l := ([] : List Z1z)) (l' := a0) (src := (.sl 4 (a0.map Zw) false)) (rd := []) I I el53 I u53 I I I ⟨rfl, rfl, rfl⟩ noReads Z79 hg2) I <| Z2 I (Zp (v := (.vs 5)) I I) I <| Zi <| Zh <| Z1g <| At.ghost (st' := ⟨[(2, (.sl 4 (a0.map Zw) false))], []⟩) (fun a w h => (Z17 ⟨[(2, (.sl 4 (a0.map Zw) false))], []⟩ (Z29 (m := 5) (sz := 4) (es := (List.map Zw a0)) a w (Z17 ⟨[(2, (.vs 5))], [(5, (.vec 4 (List.map Zw a0)))]⟩ h ⟨rfl, trivial⟩ ⟨rfl, trivial⟩)) ⟨rfl, trivial⟩ trivial)) ?_
  have h := Option.some.inj h
  subst h
  refine (hret _ ?_).1
  exact ⟨[(.sl 4 (a0.map Zw) false)], ⟨rfl, trivial⟩, rfl, trivial⟩
def F91 (K : Nat) (a0 : (List Z2j)) : Option ((List Z2j)) :=
 if ([] : List Z2j).length + a0.length ≤ 1073741824 then
  some a0
 else none
theorem F91_ok (K : Nat) (a0 : (List Z2j)) (r : (List Z2j)) (h : F91 K a0 = some r) : ACall P 91 ⟨[(.sl 2 (a0.map Z10) false)], [], (.sl 2 (r.map Z10) false), [], []⟩ := by
 refine Z1s Tryz.func91 Tryz.results91 rfl Tryz.ntmps91 rfl rfl rfl ?_
 intro E Q hP hN hro hret
 obtain ⟨P', nt', w0, F0, p0, S0, β0, ro0⟩ := E
 simp only at hP hN
 subst hP hN
 dsimp only [argT]
 unfold F91 at h
 refine Zj <| Zf <| Z2 I (Zp (v := (.sl 2 [] true)) I I) I <| Zi <| Zh <| Zj <| Zj <| Zf ?_
 refine Z2 I (Zo (v := (.sl 2 (a0.map Z10) false)) I I) I ?_
 refine AOps.consNil (enc := Z10) (es := a0) (full := false) I u54 I (fun x1 hbx1 => ?_)
 refine Zi <| Zh ?_
 refine Z16 I (fun hc => ?_) (fun hc => ?_)
 ·have hz := hbx1 hc
  have h : (some []) = some r := by simp only [hz] at h ⊢; simpa using h
  refine Zj <| Zf <| Z2 I (Zp (v := (.sl 2 [] true)) I I) I <| Zi <| Zh <| Z1g <| Z1k <| At.ghost (st' := ⟨[(2, (.sl 2 [] false))], []⟩) (fun a w h => (Z17 ⟨[(2, (.sl 2 [] false))], []⟩ (Z9z a w (Z17 ⟨[(2, (.sl 2 [] true))], []⟩ h ⟨rfl, trivial⟩ trivial)) ⟨rfl, trivial⟩ trivial)) ?_
  have h := Option.some.inj h
  subst h
  refine (hret _ ?_).1
  exact ⟨[(.sl 2 [] false)], ⟨rfl, trivial⟩, rfl, trivial⟩
 ·refine Z1b <| Zh <| Zj <| Zf <| Z2 I (Z1m (vs := []) (enc := Z10) (l := ([] : List Z2j)) I el54 I I trivial I Z8f I I I I) I <| Z2 I (Zo (v := (.sl 2 (a0.map Z10) false)) I I) I ?_
  have ⟨hg2, h⟩ := Z13 h
  refine Z2 I (Z2p (m := 5) (enc := Z10) (l := ([] : List Z2j)) (l' := a0) (src := (.sl 2 (a0.map Z10) false)) (rd := []) I I el54 I u54 I I I ⟨rfl, rfl, rfl⟩ noReads Z8f hg2) I <| Z2 I (Zp (v := (.vs 5)) I I) I <| Zi <| Zh <| Z1g <| At.ghost (st' := ⟨[(2, (.sl 2 (a0.map Z10) false))], []⟩) (fun a w h => (Z17 ⟨[(2, (.sl 2 (a0.map Z10) false))], []⟩ (Z29 (m := 5) (sz := 2) (es := (List.map Z10 a0)) a w (Z17 ⟨[(2, (.vs 5))], [(5, (.vec 2 (List.map Z10 a0)))]⟩ h ⟨rfl, trivial⟩ ⟨rfl, trivial⟩)) ⟨rfl, trivial⟩ trivial)) ?_
  have h := Option.some.inj h
  subst h
  refine (hret _ ?_).1
  exact ⟨[(.sl 2 (a0.map Z10) false)], ⟨rfl, trivial⟩, rfl, trivial⟩
def F139 (K : Nat) (a0 : Zm) : Option (Zm) :=
 (F90 K a0.Attrs).bind fun v2 =>
  (F91 K a0.Links).bind fun v4 =>
   some (⟨a0.Trace, a0.Id, a0.Parent, a0.Revision, a0.Clock, a0.Kind, a0.Service, a0.Version, a0.Operation, a0.Start, a0.End, a0.Error, v2, v4⟩ : Zm)
theorem F139_ok (K : Nat) (a0 : Zm) (r : Zm) (h : F139 K a0 = some r) : ACall P 139 ⟨[(Zd a0)], [], (Zd r), [], []⟩ := by
 refine Z1s Tryz.func139 Tryz.results139 rfl Tryz.ntmps139 rfl rfl rfl ?_
 intro E Q hP hN hro hret
 obtain ⟨P', nt', w0, F0, p0, S0, β0, ro0⟩ := E
 simp only at hP hN
 subst hP hN
 dsimp only [argT]
 unfold F139 at h
 refine Zj <| Zf <| Z2 I (Z2m (v := (Zd a0)) (cs := (Zd a0).cells) I I I I I) I <| Z2 I (Z1v (cs := [(.int .i64 0), (.int .i64 0), (.int .i64 0), (.int .i64 0), (.int .i64 0), (.int .i64 0), (.str []), (.str []), (.str []), (.int .i64 0), (.int .i64 0), (.bool false), (.sl 4 [] false), (.sl 2 [] false)]) I z56 I I I) I <| Zi <| Zh <| Zj <| Z1r mixed ?_
 refine Zb 0 I (Zr (m := 1) (o := 0) I f56_12 I I) <| Zb 1 I (Zt (cs := (Zd a0).cells) (v := (.sl 4 (a0.Attrs.map Zw) false)) I o53 I I I) ?_
 have ⟨v2, hv2, h⟩ := Z1f h
 refine Zb 2 I (Z1o (ar := [(.sl 4 (a0.Attrs.map Zw) false)]) (caps := []) Tryz.call90 (F90_ok K a0.Attrs v2 hv2) I I ⟨rfl, trivial⟩ I) <| Zb 3 I (Zr (m := 1) (o := 0) I f56_13 I I) <| Zb 4 I (Zt (cs := (Zd a0).cells) (v := (.sl 2 (a0.Links.map Z10) false)) I o54 I I I) ?_
 have ⟨v4, hv4, h⟩ := Z1f h
 refine Zb 5 I (Z1o (ar := [(.sl 2 (a0.Links.map Z10) false)]) (caps := []) Tryz.call91 (F91_ok K a0.Links v4 hv4) I I ⟨rfl, trivial⟩ I) <| Zb 6 I (Zr (m := 1) (o := 0) I f56_12 I I) <| Zb 7 I (Z1e (cs := (Zd a0).cells) (vs := [(.sl 4 (v2.map Zw) false)]) (ds := [(.int .i64 a0.Trace), (.int .i64 a0.Id), (.int .i64 a0.Parent), (.int .i64 a0.Revision), (.int .i64 a0.Clock), (.int .i64 a0.Kind), (.str a0.Service), (.str a0.Version), (.str a0.Operation), (.int .i64 a0.Start), (.int .i64 a0.End), (.bool a0.Error), (.sl 4 (v2.map Zw) false), (.sl 2 (a0.Links.map Z10) false)]) (v := (.sl 4 (v2.map Zw) false)) sz53 I I I I I I I I) <| Zb 8 I (Zr (m := 1) (o := 0) I f56_13 I I) <| Zb 9 I (Z1e (cs := [(.int .i64 a0.Trace), (.int .i64 a0.Id), (.int .i64 a0.Parent), (.int .i64 a0.Revision), (.int .i64 a0.Clock), (.int .i64 a0.Kind), (.str a0.Service), (.str a0.Version), (.str a0.Operation), (.int .i64 a0.Start), (.int .i64 a0.End), (.bool a0.Error), (.sl 4 (v2.map Zw) false), (.sl 2 (a0.Links.map Z10) false)]) (vs := [(.sl 2 (v4.map Z10) false)]) (ds := [(.int .i64 a0.Trace), (.int .i64 a0.Id), (.int .i64 a0.Parent), (.int .i64 a0.Revision), (.int .i64 a0.Clock), (.int .i64 a0.Kind), (.str a0.Service), (.str a0.Version), (.str a0.Operation), (.int .i64 a0.Start), (.int .i64 a0.End), (.bool a0.Error), (.sl 4 (v2.map Zw) false), (.sl 2 (v4.map Z10) false)]) (v := (.sl 2 (v4.map Z10) false)) sz54 I I I I I I I I) <| AOpsD.nil (by kernel_rfl) I <| Zh <| Zj ?_
 refine Zf <| Z2 I (Z1l (cs := [(.int .i64 a0.Trace), (.int .i64 a0.Id), (.int .i64 a0.Parent), (.int .i64 a0.Revision), (.int .i64 a0.Clock), (.int .i64 a0.Kind), (.str a0.Service), (.str a0.Version), (.str a0.Operation), (.int .i64 a0.Start), (.int .i64 a0.End), (.bool a0.Error), (.sl 4 (v2.map Zw) false), (.sl 2 (v4.map Z10) false)]) (vs := [(.int .i64 a0.Trace), (.int .i64 a0.Id), (.int .i64 a0.Parent), (.int .i64 a0.Revision), (.int .i64 a0.Clock), (.int .i64 a0.Kind), (.str a0.Service), (.str a0.Version), (.str a0.Operation), (.int .i64 a0.Start), (.int .i64 a0.End), (.bool a0.Error), (.sl 4 (v2.map Zw) false), (.sl 2 (v4.map Z10) false)]) I a56 I I I I) I <| Z2 I (Z1e (cs := [(.int .i64 0), (.int .i64 0), (.int .i64 0), (.int .i64 0), (.int .i64 0), (.int .i64 0), (.str []), (.str []), (.str []), (.int .i64 0), (.int .i64 0), (.bool false), (.sl 4 [] false), (.sl 2 [] false)]) (vs := [(.int .i64 a0.Trace), (.int .i64 a0.Id), (.int .i64 a0.Parent), (.int .i64 a0.Revision), (.int .i64 a0.Clock), (.int .i64 a0.Kind), (.str a0.Service), (.str a0.Version), (.str a0.Operation), (.int .i64 a0.Start), (.int .i64 a0.End), (.bool a0.Error), (.sl 4 (v2.map Zw) false), (.sl 2 (v4.map Z10) false)]) (ds := [(.int .i64 a0.Trace), (.int .i64 a0.Id), (.int .i64 a0.Parent), (.int .i64 a0.Revision), (.int .i64 a0.Clock), (.int .i64 a0.Kind), (.str a0.Service), (.str a0.Version), (.str a0.Operation), (.int .i64 a0.Start), (.int .i64 a0.End), (.bool a0.Error), (.sl 4 (v2.map Zw) false), (.sl 2 (v4.map Z10) false)]) (v := (.ag [(.int .i64 a0.Trace), (.int .i64 a0.Id), (.int .i64 a0.Parent), (.int .i64 a0.Revision), (.int .i64 a0.Clock), (.int .i64 a0.Kind), (.str a0.Service), (.str a0.Version), (.str a0.Operation), (.int .i64 a0.Start), (.int .i64 a0.End), (.bool a0.Error), (.sl 4 (v2.map Zw) false), (.sl 2 (v4.map Z10) false)])) sz56 I I I I I I I I) I <| Zi <| Zh <| Z1g ?_
 have h := Option.some.inj h
 subst h
 refine (hret _ ?_).1
 exact ⟨[(.ag [(.int .i64 a0.Trace), (.int .i64 a0.Id), (.int .i64 a0.Parent), (.int .i64 a0.Revision), (.int .i64 a0.Clock), (.int .i64 a0.Kind), (.str a0.Service), (.str a0.Version), (.str a0.Operation), (.int .i64 a0.Start), (.int .i64 a0.End), (.bool a0.Error), (.sl 4 (v2.map Zw) false), (.sl 2 (v4.map Z10) false)])], ⟨⟨2, _, rfl, rfl, .inr ⟨_, a56, rfl, rfl⟩⟩, trivial⟩, rfl, trivial⟩
def F93_c5 (K : Nat) (v4 : (List Zm)) : Option ((List Zm)) :=
 some v4
def F93_j12 (K : Nat) (b7 : Int → (List Zm) → Option ((List Zm))) (v1 : Int) (v11 : (List Zm)) : Option ((List Zm)) :=
 b7 (IntKind.i64.wrap (v1 + 1)) v11
def Zbi (K : Nat) (a0 : (List Zm)) (a100 : (List Zm)) (c6 : (List Zm) → Option ((List Zm))) : Nat → Int → (List Zm) → Option ((List Zm))
 | 0, _, _ => none
 | k3 + 1, v1, v2 =>
  if (decide (v1 < (a0.length : Int))) = true then
   if (0 : Int) ≤ v1 ∧ v1 < a0.length then
    (F94 K v1 a100).bind fun v10 =>
     if v10 = true then
      (F139 K (a0.getD v1.toNat Z8)).bind fun v14 =>
       if v2.length + [v14].length ≤ 1073741824 then
        F93_j12 K (Zbi K a0 a100 c6 k3) v1 (v2 ++ [v14])
       else none
     else
      F93_j12 K (Zbi K a0 a100 c6 k3) v1 v2
   else none
  else
   c6 v2
def F93 (K : Nat) (a0 : (List Zm)) (a100 : (List Zm)) : Option ((List Zm)) :=
 Zbi K a0 a100 (F93_c5 K) K 0 []
theorem F93_ok (K : Nat) (a0 : (List Zm)) (a100 : (List Zm)) (r : (List Zm)) (h : F93 K a0 a100 = some r) : ACall P 93 ⟨[(.sl 14 (a0.map Zd) false), (.clo 94 [(.ip [(.sl 14 (a100.map Zd) false)])])], [], (.sl 14 (r.map Zd) false), [], []⟩ := by
 refine Z1s Tryz.func93 Tryz.results93 rfl Tryz.ntmps93 rfl rfl rfl ?_
 intro E Q hP hN hro hret
 obtain ⟨P', nt', w0, F0, p0, S0, β0, ro0⟩ := E
 simp only at hP hN
 subst hP hN
 dsimp only [argT]
 unfold F93 at h
 refine Zj <| Zf <| Z2 I (Zp (v := (.sl 14 [] false)) I I) I <| Zi <| Zh <| Zj <| Zf <| Z2 I (Zp (v := (.sl 14 [] true)) I I) I ?_
 refine Zi <| Zh <| Zj <| Zj <| Zf <| Z2 I (Zo (v := (.sl 14 (a0.map Zd) false)) I I) I <| Z2 I (Z24 (l := a0) (enc := Zd) I s37 I) I <| Z2 I (Zo (v := (.int .i64 0)) I I) I ?_
 refine Zi <| Zh <| AWp.ghost (st' := ⟨[(1, (.clo 94 [(.ip [(.sl 14 (a100.map Zd) false)])])), (5, (.vs 5)), (8, (.sl 14 (a0.map Zd) false)), (9, (.int .i64 (a0.length : Int))), (10, (.int .i64 0))], [(5, (.vec 14 (List.map Zd ([] : List Zm))))]⟩) (fun a w h => (Z17 ⟨[(1, (.clo 94 [(.ip [(.sl 14 (a100.map Zd) false)])])), (5, (.vs 5)), (8, (.sl 14 (a0.map Zd) false)), (9, (.int .i64 (a0.length : Int))), (10, (.int .i64 0))], [(5, (.vec 14 (List.map Zd ([] : List Zm))))]⟩ (Za7 (k := 5) (m := 5) (sz := 14) I I a w (Z17 ⟨[(5, (.sl 14 [] true)), (1, (.clo 94 [(.ip [(.sl 14 (a100.map Zd) false)])])), (8, (.sl 14 (a0.map Zd) false)), (9, (.int .i64 (a0.length : Int))), (10, (.int .i64 0))], []⟩ h ⟨rfl, rfl, rfl, rfl, rfl, trivial⟩ trivial)) ⟨rfl, rfl, rfl, rfl, rfl, trivial⟩ ⟨rfl, trivial⟩)) <| AWp.weaken (st' := ⟨[(1, (.clo 94 [(.ip [(.sl 14 (a100.map Zd) false)])])), (5, (.vs 5)), (8, (.sl 14 (a0.map Zd) false)), (9, (.int .i64 (a0.length : Int))), (10, (.int .i64 0))], [(5, (.vec 14 (List.map Zd [])))]⟩) ⟨rfl, rfl, rfl, rfl, rfl, trivial⟩ ⟨rfl, trivial⟩ ?_
 refine Z1n (V := Int × (List Zm)) (X := (List Zm)) (lp := fun k v => Zbi K a0 a100 (F93_c5 K) k v.1 v.2 = some r) (sh := fun v => ⟨[(1, (.clo 94 [(.ip [(.sl 14 (a100.map Zd) false)])])), (5, (.vs 5)), (8, (.sl 14 (a0.map Zd) false)), (9, (.int .i64 (a0.length : Int))), (10, (.int .i64 v.1))], [(5, (.vec 14 (List.map Zd v.2)))]⟩) (x := fun v => F93_c5 K v = some r) (shx := fun v => ⟨[(5, (.vs 5))], [(5, (.vec 14 (List.map Zd v)))]⟩) (k := K) (v := (0, [])) h ?_ ?_
 ·intro v h
  revert h
  revert v
  intro v4 h
  try dsimp only at h ⊢
  unfold F93_c5 at h
  refine Zh <| Zj <| Zf <| Z2 I (Zo (v := (.vs 5)) I I) I <| Z2 I (Zp (v := (.vs 5)) I I) I <| Zi <| Zh <| Z1g ?_
  refine At.ghost (st' := ⟨[(4, (.sl 14 (v4.map Zd) false))], []⟩) (fun a w h => (Z17 ⟨[(4, (.sl 14 (v4.map Zd) false))], []⟩ (Z29 (m := 5) (sz := 14) (es := (List.map Zd v4)) a w (Z17 ⟨[(4, (.vs 5))], [(5, (.vec 14 (List.map Zd v4)))]⟩ h ⟨rfl, trivial⟩ ⟨rfl, trivial⟩)) ⟨rfl, trivial⟩ trivial)) ?_
  have h := Option.some.inj h
  subst h
  refine (hret _ ?_).1
  exact ⟨[(.sl 14 (v4.map Zd) false)], ⟨rfl, trivial⟩, rfl, trivial⟩
 ·intro N k3 v h IH3 J3
  obtain ⟨v1, v2⟩ := v
  try dsimp only at h IH3 J3 ⊢
  cases k3 with
  | zero => cases h
  | succ k3 =>
   rw [Zbi] at h
   refine Zj <| Zf <| Z2 I (Z25 (k := .i64) (a := v1) (b := (a0.length : Int)) (c := (decide (v1 < (a0.length : Int)))) I I I I) I <| Zi <| Zh <| Zj ?_
   have hif := Z28 h
   refine Z16 I (fun hc => ?_) (fun hc => ?_)
   ·have h := hif.1 hc
    refine Z1b <| Zh <| Zj <| AWp.block <| Zj <| Zf <| Z2 I (Zo (v := (.int .i64 v1)) I I) I ?_
    have ⟨hg8, h⟩ := Z13 h
    refine Z2 I (Z1w (k := .i64) (l := a0) (enc := Zd) (z := Z8) (n := v1) (cs := (Zd (a0.getD v1.toNat Z8)).cells) (full := false) I s37 I I hg8 I) I <| Z2 I (Z2i (cs := (Zd (a0.getD v1.toNat Z8)).cells) (vs := (Zd (a0.getD v1.toNat Z8)).cells) I a56 I I I) I <| Z2 I (Z1v (cs := [(.int .i64 0), (.int .i64 0), (.int .i64 0), (.int .i64 0), (.int .i64 0), (.int .i64 0), (.str []), (.str []), (.str []), (.int .i64 0), (.int .i64 0), (.bool false), (.sl 4 [] false), (.sl 2 [] false)]) I z56 I I I) I <| Z2 I (Zp (v := (.int .i64 v1)) I I) I <| Z2 I (Z1e (cs := [(.int .i64 0), (.int .i64 0), (.int .i64 0), (.int .i64 0), (.int .i64 0), (.int .i64 0), (.str []), (.str []), (.str []), (.int .i64 0), (.int .i64 0), (.bool false), (.sl 4 [] false), (.sl 2 [] false)]) (vs := (Zd (a0.getD v1.toNat Z8)).cells) (ds := (Zd (a0.getD v1.toNat Z8)).cells) (v := (Zd (a0.getD v1.toNat Z8))) sz56 I I I I I I I I) I <| Zi <| Zh <| Zj ?_
    refine Zf <| Z2 I (Zo (v := (.clo 94 [(.ip [(.sl 14 (a100.map Zd) false)])])) I I) I <| Z2 I (Zo (v := (.int .i64 v1)) I I) I ?_
    have ⟨v10, hv10, h⟩ := Z1f h
    refine Z2 I (Z1o (ar := [(.int .i64 v1)]) (caps := [(.ip [(.sl 14 (a100.map Zd) false)])]) Tryz.call94 (F94_ok K v1 a100 v10 hv10) I I ⟨rfl, trivial⟩ I) I <| Zi <| Zh ?_
    refine AWp.join (V := (List Zm)) (lp := fun v => F93_j12 K (Zbi K a0 a100 (F93_c5 K) k3) v1 v = some r) (sh := fun v => ⟨[(1, (.clo 94 [(.ip [(.sl 14 (a100.map Zd) false)])])), (5, (.vs 5)), (8, (.sl 14 (a0.map Zd) false)), (9, (.int .i64 (a0.length : Int))), (10, (.int .i64 v1))], [(5, (.vec 14 (List.map Zd v)))]⟩) ?_ ?_
    ·intro v h
     revert h
     revert v
     intro v11 h
     try dsimp only at h ⊢
     unfold F93_j12 at h
     refine At.end <| Zh <| Zf <| Z2 I (Z1u (k := .i64) (a := v1) (b := 1) (c := (IntKind.i64.wrap (v1 + 1))) I I I I) I <| Z2 I (Zo (v := (.int .i64 (IntKind.i64.wrap (v1 + 1)))) I I) I <| Zi ?_
     exact Zy (st' := ⟨[(1, (.clo 94 [(.ip [(.sl 14 (a100.map Zd) false)])])), (5, (.vs 5)), (8, (.sl 14 (a0.map Zd) false)), (9, (.int .i64 (a0.length : Int))), (10, (.int .i64 (IntKind.i64.wrap (v1 + 1))))], [(5, (.vec 14 (List.map Zd v11)))]⟩) ⟨rfl, rfl, rfl, rfl, rfl, trivial⟩ ⟨rfl, trivial⟩ (IH3 _ ((IntKind.i64.wrap (v1 + 1)), v11) (Nat.lt_succ_self _) h)
    ·intro J12
     have hif := Z28 h
     refine Z16 I (fun hc => ?_) (fun hc => ?_)
     ·have h := hif.1 hc
      refine Zf <| Z2 I (Zo (v := (.vs 5)) I I) I <| Z2 I (Z1l (cs := (Zd (a0.getD v1.toNat Z8)).cells) (vs := (Zd (a0.getD v1.toNat Z8)).cells) I a56 I I I I) I ?_
      have ⟨v14, hv14, h⟩ := Z1f h
      refine Z2 I (Z1o (ar := [(Zd (a0.getD v1.toNat Z8))]) (caps := []) Tryz.call139 (F139_ok K (a0.getD v1.toNat Z8) v14 hv14) I I ⟨rfl, trivial⟩ I) I <| Z2 I (Z1m (vs := [(Zd v14)]) (enc := Zd) (l := [v14]) I el37 I I ⟨rfl, trivial⟩ I Z2z I I I I) I ?_
      have ⟨hg15, h⟩ := Z13 h
      refine Z2 I (Z2p (m := 5) (enc := Zd) (l := v2) (l' := [v14]) (src := (.vs 21)) (rd := [(21, (.vec 14 (List.map Zd [v14])))]) I I el37 I u37 I I I I (oneRead I) Z2z hg15) I <| Z2 I (Zp (v := (.vs 5)) I I) I <| Zi ?_
      exact Zy (st' := ⟨[(1, (.clo 94 [(.ip [(.sl 14 (a100.map Zd) false)])])), (5, (.vs 5)), (8, (.sl 14 (a0.map Zd) false)), (9, (.int .i64 (a0.length : Int))), (10, (.int .i64 v1))], [(5, (.vec 14 (List.map Zd (v2 ++ [v14]))))]⟩) ⟨rfl, rfl, rfl, rfl, rfl, trivial⟩ ⟨rfl, trivial⟩ (J12 (v2 ++ [v14]) h)
     ·have h := hif.2 hc
      refine Z1b ?_
      exact Zy (st' := ⟨[(1, (.clo 94 [(.ip [(.sl 14 (a100.map Zd) false)])])), (5, (.vs 5)), (8, (.sl 14 (a0.map Zd) false)), (9, (.int .i64 (a0.length : Int))), (10, (.int .i64 v1))], [(5, (.vec 14 (List.map Zd v2)))]⟩) ⟨rfl, rfl, rfl, rfl, rfl, trivial⟩ ⟨rfl, trivial⟩ (J12 v2 h)
   ·have h := hif.2 hc
    refine AWp.exit <| At.thru ?_
    exact Zy (st' := ⟨[(5, (.vs 5))], [(5, (.vec 14 (List.map Zd v2)))]⟩) ⟨rfl, trivial⟩ ⟨rfl, trivial⟩ (J3 v2 h)
def F47 (K : Nat) (a0 : (List Zm)) : Option ((List Zm)) :=
 (F92 K a0).bind fun v2 =>
  (F93 K v2 v2).bind fun v4 =>
   some v4
theorem F47_ok (K : Nat) (a0 : (List Zm)) (r : (List Zm)) (h : F47 K a0 = some r) : ACall P 47 ⟨[(.sl 14 (a0.map Zd) false)], [], (.sl 14 (r.map Zd) false), [], []⟩ := by
 refine Z1s Tryz.func47 Tryz.results47 rfl Tryz.ntmps47 rfl rfl rfl ?_
 intro E Q hP hN hro hret
 obtain ⟨P', nt', w0, F0, p0, S0, β0, ro0⟩ := E
 simp only at hP hN
 subst hP hN
 dsimp only [argT]
 unfold F47 at h
 refine Zj <| Zf <| Z2 I (Zp (v := (.sl 14 [] false)) I I) I <| Zi <| Zh <| Zj <| Zf <| Z2 I (Zo (v := (.sl 14 (a0.map Zd) false)) I I) I ?_
 have ⟨v2, hv2, h⟩ := Z1f h
 refine Z2 I (Z1o (ar := [(.sl 14 (a0.map Zd) false)]) (caps := []) Tryz.call92 (F92_ok K a0 v2 hv2) I I ⟨rfl, trivial⟩ I) I <| Z2 I (Z1v (cs := [(.sl 14 [] true)]) I z37f I I I) I <| Z2 I (Z1e (cs := [(.sl 14 [] true)]) (vs := [(.sl 14 (v2.map Zd) false)]) (ds := [(.sl 14 (v2.map Zd) false)]) (v := (.sl 14 (v2.map Zd) false)) sz37 I I I I I I I I) I <| Zi <| Zh <| Zj <| Zf <| Z2 I (Zt (cs := [(.sl 14 (v2.map Zd) false)]) (v := (.sl 14 (v2.map Zd) false)) I o37 I I I) I ?_
 refine Z2 I (Z5d (vs := [(.ptr 3 0)]) I ⟨rfl, trivial⟩) I <| AOps.ghost (st' := ⟨[(2, (.sl 14 [] false)), (6, (.sl 14 (v2.map Zd) false)), (7, (.clo 94 [(.ip [(.sl 14 (v2.map Zd) false)])]))], []⟩) (fun a w h => (Z17 ⟨[(2, (.sl 14 [] false)), (6, (.sl 14 (v2.map Zd) false)), (7, (.clo 94 [(.ip [(.sl 14 (v2.map Zd) false)])]))], []⟩ (Z42 (m := 3) (cs := [(.sl 14 (v2.map Zd) false)]) I a w (Z17 ⟨[(2, (.sl 14 [] false)), (6, (.sl 14 (v2.map Zd) false)), (7, (.clo 94 [(.ptr 3 0)]))], [(3, (.box [(.sl 14 (v2.map Zd) false)]))]⟩ h ⟨rfl, rfl, rfl, trivial⟩ ⟨rfl, trivial⟩)) ⟨rfl, rfl, rfl, trivial⟩ trivial)) ?_
 have ⟨v4, hv4, h⟩ := Z1f h
 refine Z2 I (Z1o (ar := [(.sl 14 (v2.map Zd) false), (.clo 94 [(.ip [(.sl 14 (v2.map Zd) false)])])]) (caps := []) Tryz.call93 (F93_ok K v2 v2 v4 hv4) I I ⟨rfl, rfl, trivial⟩ I) I <| Z2 I (Zp (v := (.sl 14 (v4.map Zd) false)) I I) I <| Zi <| Zh <| Z1g ?_
 have h := Option.some.inj h
 subst h
 refine (hret _ ?_).1
 exact ⟨[(.sl 14 (v4.map Zd) false)], ⟨rfl, trivial⟩, rfl, trivial⟩
def F49 (K : Nat) (a0 : Bool) (a1 : Int) : Option (Int) :=
 if a0 = true then
  some a1
 else
  some 0
theorem F49_ok (K : Nat) (a0 : Bool) (a1 : Int) (r : Int) (h : F49 K a0 a1 = some r) : ACall P 49 ⟨[(.bool a0), (.int .i64 a1)], [], (.int .i64 r), [], []⟩ := by
 refine Z1s Tryz.func49 Tryz.results49 rfl Tryz.ntmps49 rfl rfl rfl ?_
 intro E Q hP hN hro hret
 obtain ⟨P', nt', w0, F0, p0, S0, β0, ro0⟩ := E
 simp only at hP hN
 subst hP hN
 dsimp only [argT]
 unfold F49 at h
 refine Zj <| Zf <| Z2 I (Zp (v := (.int .i64 0)) I I) I <| Zi <| Zh <| Zj <| Zj <| Zf ?_
 refine Z2 I (Zo (v := (.bool a0)) I I) I <| Zi <| Zh ?_
 have hif := Z28 h
 refine Z16 I (fun hc => ?_) (fun hc => ?_)
 ·have h := hif.1 hc
  refine Zj <| Zf <| Z2 I (Zo (v := (.int .i64 a1)) I I) I <| Z2 I (Zp (v := (.int .i64 a1)) I I) I <| Zi <| Zh <| Z1g <| Z1k ?_
  have h := Option.some.inj h
  subst h
  refine (hret _ ?_).1
  exact ⟨[(.int .i64 a1)], ⟨rfl, trivial⟩, rfl, trivial⟩
 ·have h := hif.2 hc
  refine Z1b <| Zh <| Zj <| Zf <| Z2 I (Zp (v := (.int .i64 0)) I I) I <| Zi <| Zh <| Z1g ?_
  have h := Option.some.inj h
  subst h
  refine (hret _ ?_).1
  exact ⟨[(.int .i64 0)], ⟨rfl, trivial⟩, rfl, trivial⟩
def F96 (K : Nat) (a0 : Int) (a1 : Int) (a2 : Bool) (a3 : (List (Str × Zg))) (a4 : (List (Zq × Zk))) : Option (Int × Bool) :=
 if (decide (a0 > (IntKind.i64.wrap (1152921504606846976 - a1)))) = true then
  some (1152921504606846976, true)
 else
  some ((IntKind.i64.wrap (a0 + a1)), a2)
theorem Zbk (K : Nat) (a0 : Int) (a1 : Int) (a2 : Bool) (a3 : (List (Str × Zg))) (a4 : (List (Zq × Zk))) (r : Int × Bool) (h : F96 K a0 a1 a2 a3 a4 = some r) : ACall P 96 ⟨[(.ptr 2000 0), (.int .i64 a0), (.int .i64 a1)], [(2000, (.box [(.map 2001), (.map 2002), (.bool a2)])), (2001, (.map (Zu Z20 Z3 a3))), (2002, (.map (Zu Zl Z5 a4)))], (.int .i64 r.1), [(2000, (.box [(.map 2001), (.map 2002), (.bool r.2)])), (2001, (.map (Zu Z20 Z3 a3))), (2002, (.map (Zu Zl Z5 a4)))], []⟩ := by
 refine Z1s Tryz.func96 Tryz.results96 rfl Tryz.ntmps96 rfl rfl rfl ?_
 intro E Q hP hN hro hret
 obtain ⟨P', nt', w0, F0, p0, S0, β0, ro0⟩ := E
 simp only at hP hN
 subst hP hN
 dsimp only [argT]
 unfold F96 at h
 refine Zj <| Zf <| Z2 I (Zp (v := (.int .i64 0)) I I) I <| Zi <| Zh <| Zj <| Zj <| Zf ?_
 refine Z2 I (Zo (v := (.int .i64 a0)) I I) I <| Z2 I (Zo (v := (.int .i64 a1)) I I) I <| Z2 I (Z1u (k := .i64) (a := 1152921504606846976) (b := a1) (c := (IntKind.i64.wrap (1152921504606846976 - a1))) I I I I) I <| Z2 I (Z25 (k := .i64) (a := a0) (b := (IntKind.i64.wrap (1152921504606846976 - a1))) (c := (decide (a0 > (IntKind.i64.wrap (1152921504606846976 - a1))))) I I I I) I <| Zi <| Zh ?_
 have hif := Z28 h
 refine Z16 I (fun hc => ?_) (fun hc => ?_)
 ·have h := hif.1 hc
  refine Zj <| Zf <| Z2 I (Zo (v := (.ptr 2000 0)) I I) I <| Z2 I (Z58 (v := (.ptr 2000 0)) I I I) I <| Z2 I (Zr (m := 2000) (o := 0) I f181_2 I I) I <| Z2 I (Z1e (cs := [(.map 2001), (.map 2002), (.bool a2)]) (vs := [(.bool true)]) (ds := [(.map 2001), (.map 2002), (.bool true)]) (v := (.bool true)) sz4 I I I I I I I I) I <| Zi <| Zh ?_
  refine Zj <| Zf <| Z2 I (Zp (v := (.int .i64 1152921504606846976)) I I) I <| Zi <| Zh <| Z1g <| Z1k ?_
  have h := Option.some.inj h
  subst h
  refine (hret _ ?_).1
  exact ⟨[(.int .i64 1152921504606846976)], ⟨rfl, trivial⟩, rfl, ⟨rfl, rfl, rfl, trivial⟩⟩
 ·have h := hif.2 hc
  refine Z1b <| Zh <| Zj <| Zf <| Z2 I (Zo (v := (.int .i64 a0)) I I) I <| Z2 I (Zo (v := (.int .i64 a1)) I I) I <| Z2 I (Z1u (k := .i64) (a := a0) (b := a1) (c := (IntKind.i64.wrap (a0 + a1))) I I I I) I <| Z2 I (Zp (v := (.int .i64 (IntKind.i64.wrap (a0 + a1)))) I I) I ?_
  refine Zi <| Zh <| Z1g ?_
  have h := Option.some.inj h
  subst h
  refine (hret _ ?_).1
  exact ⟨[(.int .i64 (IntKind.i64.wrap (a0 + a1)))], ⟨rfl, trivial⟩, rfl, ⟨rfl, rfl, rfl, trivial⟩⟩
def F48 (K : Nat) (a0 : Zg) (a1 : Bool) (a2 : (List (Str × Zg))) (a3 : (List (Zq × Zk))) : Option (Bool × (List (Str × Zg))) :=
 (F96 K ((mget Z4a a0.Name a2).getD Z9).Spans a0.Spans a1 a2 a3).bind fun v4 =>
  (F96 K ((mget Z4a a0.Name a2).getD Z9).Errors a0.Errors v4.2 a2 a3).bind fun v6 =>
   (F96 K ((mget Z4a a0.Name a2).getD Z9).Roots a0.Roots v6.2 a2 a3).bind fun v8 =>
    some (v8.2, (mput Z4a a0.Name (⟨a0.Name, v4.1, v6.1, v8.1⟩ : Zg) a2))
theorem F48_ok (K : Nat) (a0 : Zg) (a1 : Bool) (a2 : (List (Str × Zg))) (a3 : (List (Zq × Zk))) (r : Bool × (List (Str × Zg))) (h : F48 K a0 a1 a2 a3 = some r) : ACall P 48 ⟨[(.ptr 2000 0), (Z3 a0)], [(2000, (.box [(.map 2001), (.map 2002), (.bool a1)])), (2001, (.map (Zu Z20 Z3 a2))), (2002, (.map (Zu Zl Z5 a3)))], (.tup []), [(2000, (.box [(.map 2001), (.map 2002), (.bool r.1)])), (2001, (.map (Zu Z20 Z3 r.2))), (2002, (.map (Zu Zl Z5 a3)))], []⟩ := by
 refine Z1s Tryz.func48 Tryz.results48 rfl Tryz.ntmps48 rfl rfl rfl ?_
 intro E Q hP hN hro hret
 obtain ⟨P', nt', w0, F0, p0, S0, β0, ro0⟩ := E
 simp only at hP hN
 subst hP hN
 dsimp only [argT]
 unfold F48 at h
 refine Zj <| Zf <| Z2 I (Z2m (v := (Z3 a0)) (cs := (Z3 a0).cells) I I I I I) I <| Zi <| Zh <| Zj <| Z1r mixed <| Zb 0 I (Zo (v := (.ptr 2000 0)) I I) ?_
 refine Zb 1 I (Z58 (v := (.ptr 2000 0)) I I I) <| Zb 2 I (Zr (m := 2000) (o := 0) I f181_0 I I) <| Zb 3 I (Z76 (cs := [(.map 2001), (.map 2002), (.bool a1)]) (v := (.map 2001)) I o178 I I I) <| Zb 4 I (Zr (m := 3) (o := 0) I Z6s I I) <| Zb 5 I (Zt (cs := (Z3 a0).cells) (v := (.str a0.Name)) I o9 I I I) <| Zb 6 I (Zb0 (l := a2) (a := a0.Name) (kv := (.str a0.Name)) I mt178 I I (.inl I) I I) <| Zb 7 I (Z1v (cs := [(.str []), (.int .i64 0), (.int .i64 0), (.int .i64 0)]) I z68 I I I) <| Zb 8 I (Z1e (cs := [(.str []), (.int .i64 0), (.int .i64 0), (.int .i64 0)]) (vs := (Z3 ((mget Z4a a0.Name a2).getD Z9)).cells) (ds := (Z3 ((mget Z4a a0.Name a2).getD Z9)).cells) (v := (Z3 ((mget Z4a a0.Name a2).getD Z9))) sz68 I I I I I I I I) ?_
 refine AOpsD.nil (by kernel_rfl) I <| Zh <| Z1r mixed <| Zb 0 I (Zo (v := (.ptr 2000 0)) I I) <| Zb 1 I (Z58 (v := (.ptr 2000 0)) I I I) <| Zb 2 I (Zr (m := 2000) (o := 0) I f181_0 I I) <| Zb 3 I (Z76 (cs := [(.map 2001), (.map 2002), (.bool a1)]) (v := (.map 2001)) I o178 I I I) <| Zb 4 I (Zr (m := 3) (o := 0) I Z6s I I) ?_
 refine Zb 5 I (Zt (cs := (Z3 a0).cells) (v := (.str a0.Name)) I o9 I I I) <| Zb 6 I (Zr (m := 3) (o := 0) I Z6s I I) <| Zb 7 I (Zt (cs := (Z3 a0).cells) (v := (.str a0.Name)) I o9 I I I) <| Zb 8 I (Zo (v := (.ptr 2000 0)) I I) <| Zb 9 I (Zr (m := 4) (o := 0) I f68_1 I I) <| Zb 10 I (Zt (cs := (Z3 ((mget Z4a a0.Name a2).getD Z9)).cells) (v := (.int .i64 ((mget Z4a a0.Name a2).getD Z9).Spans)) I o3 I I I) <| Zb 11 I (Zr (m := 3) (o := 0) I f68_1 I I) <| Zb 12 I (Zt (cs := (Z3 a0).cells) (v := (.int .i64 a0.Spans)) I o3 I I I) ?_
 have ⟨v4, hv4, h⟩ := Z1f h
 refine Zb 13 I (Z2v (d := some 25) (c := ⟨[(.ptr 2000 0), (.int .i64 ((mget Z4a a0.Name a2).getD Z9).Spans), (.int .i64 a0.Spans)] ++ [], [(2000, (.box [(.map 2001), (.map 2002), (.bool a1)])), (2001, (.map (Zu Z20 Z3 a2))), (2002, (.map (Zu Zl Z5 a3)))], (.int .i64 v4.1), [(2000, (.box [(.map 2001), (.map 2002), (.bool v4.2)])), (2001, (.map (Zu Z20 Z3 a2))), (2002, (.map (Zu Zl Z5 a3)))], []⟩) (ar := [(.ptr 2000 0), (.int .i64 ((mget Z4a a0.Name a2).getD Z9).Spans), (.int .i64 a0.Spans)]) (caps := []) (news := []) (forg := []) Tryz.call96 (Zbk K ((mget Z4a a0.Name a2).getD Z9).Spans a0.Spans a1 a2 a3 v4 hv4) I I ⟨rfl, rfl, rfl, trivial⟩ I ⟨rfl, rfl, rfl, trivial⟩ I) <| Zb 14 I (Zo (v := (.ptr 2000 0)) I I) <| Zb 15 I (Zr (m := 4) (o := 0) I f68_2 I I) <| Zb 16 I (Zt (cs := (Z3 ((mget Z4a a0.Name a2).getD Z9)).cells) (v := (.int .i64 ((mget Z4a a0.Name a2).getD Z9).Errors)) I o3 I I I) <| Zb 17 I (Zr (m := 3) (o := 0) I f68_2 I I) <| Zb 18 I (Zt (cs := (Z3 a0).cells) (v := (.int .i64 a0.Errors)) I o3 I I I) ?_
 have ⟨v6, hv6, h⟩ := Z1f h
 refine Zb 19 I (Z2v (d := some 31) (c := ⟨[(.ptr 2000 0), (.int .i64 ((mget Z4a a0.Name a2).getD Z9).Errors), (.int .i64 a0.Errors)] ++ [], [(2000, (.box [(.map 2001), (.map 2002), (.bool v4.2)])), (2001, (.map (Zu Z20 Z3 a2))), (2002, (.map (Zu Zl Z5 a3)))], (.int .i64 v6.1), [(2000, (.box [(.map 2001), (.map 2002), (.bool v6.2)])), (2001, (.map (Zu Z20 Z3 a2))), (2002, (.map (Zu Zl Z5 a3)))], []⟩) (ar := [(.ptr 2000 0), (.int .i64 ((mget Z4a a0.Name a2).getD Z9).Errors), (.int .i64 a0.Errors)]) (caps := []) (news := []) (forg := []) Tryz.call96 (Zbk K ((mget Z4a a0.Name a2).getD Z9).Errors a0.Errors v4.2 a2 a3 v6 hv6) I I ⟨rfl, rfl, rfl, trivial⟩ I ⟨rfl, rfl, rfl, trivial⟩ I) <| Zb 20 I (Zo (v := (.ptr 2000 0)) I I) <| Zb 21 I (Zr (m := 4) (o := 0) I f68_3 I I) <| Zb 22 I (Zt (cs := (Z3 ((mget Z4a a0.Name a2).getD Z9)).cells) (v := (.int .i64 ((mget Z4a a0.Name a2).getD Z9).Roots)) I o3 I I I) <| Zb 23 I (Zr (m := 3) (o := 0) I f68_3 I I) <| Zb 24 I (Zt (cs := (Z3 a0).cells) (v := (.int .i64 a0.Roots)) I o3 I I I) ?_
 have ⟨v8, hv8, h⟩ := Z1f h
 refine Zb 25 I (Z2v (d := some 37) (c := ⟨[(.ptr 2000 0), (.int .i64 ((mget Z4a a0.Name a2).getD Z9).Roots), (.int .i64 a0.Roots)] ++ [], [(2000, (.box [(.map 2001), (.map 2002), (.bool v6.2)])), (2001, (.map (Zu Z20 Z3 a2))), (2002, (.map (Zu Zl Z5 a3)))], (.int .i64 v8.1), [(2000, (.box [(.map 2001), (.map 2002), (.bool v8.2)])), (2001, (.map (Zu Z20 Z3 a2))), (2002, (.map (Zu Zl Z5 a3)))], []⟩) (ar := [(.ptr 2000 0), (.int .i64 ((mget Z4a a0.Name a2).getD Z9).Roots), (.int .i64 a0.Roots)]) (caps := []) (news := []) (forg := []) Tryz.call96 (Zbk K ((mget Z4a a0.Name a2).getD Z9).Roots a0.Roots v6.2 a2 a3 v8 hv8) I I ⟨rfl, rfl, rfl, trivial⟩ I ⟨rfl, rfl, rfl, trivial⟩ I) <| Zb 26 I (Z27 (vs := [(0, (.str a0.Name)), (1, (.int .i64 v4.1)), (2, (.int .i64 v6.1)), (3, (.int .i64 v8.1))]) (cs := [(.str a0.Name), (.int .i64 v4.1), (.int .i64 v6.1), (.int .i64 v8.1)]) I st68 ⟨rfl, rfl, rfl, rfl, rfl, rfl, rfl, rfl, trivial⟩ I) <| Zb 27 I (Z3r (l := a2) (a := a0.Name) (b := (⟨a0.Name, v4.1, v6.1, v8.1⟩ : Zg)) (kv := (.str a0.Name)) (vv := (.ag [(.str a0.Name), (.int .i64 v4.1), (.int .i64 v6.1), (.int .i64 v8.1)])) mt178 I I I I I I) <| AOpsD.nil (by kernel_rfl) I ?_
 have h := Option.some.inj h
 subst h
 refine (hret _ ?_).2
 exact ⟨[], trivial, rfl, ⟨rfl, rfl, rfl, trivial⟩⟩
def F51 (K : Nat) (a0 : Zm) : Option (Int) :=
 some (IntKind.i64.wrap (a0.End - a0.Start))
theorem F51_ok (K : Nat) (a0 : Zm) (r : Int) (h : F51 K a0 = some r) : ACall P 51 ⟨[(Zd a0)], [], (.int .i64 r), [], []⟩ := by
 refine Z1s Tryz.func51 Tryz.results51 rfl Tryz.ntmps51 rfl rfl rfl ?_
 intro E Q hP hN hro hret
 obtain ⟨P', nt', w0, F0, p0, S0, β0, ro0⟩ := E
 simp only at hP hN
 subst hP hN
 dsimp only [argT]
 unfold F51 at h
 refine Zj <| Zf <| Z2 I (Z2m (v := (Zd a0)) (cs := (Zd a0).cells) I I I I I) I <| Z2 I (Zp (v := (.int .i64 0)) I I) I <| Zi <| Zh <| Zj <| Zf ?_
 refine Z2 I (Zr (m := 1) (o := 0) I f56_10 I I) I <| Z2 I (Zt (cs := (Zd a0).cells) (v := (.int .i64 a0.End)) I o3 I I I) I <| Z2 I (Zr (m := 1) (o := 0) I f56_9 I I) I <| Z2 I (Zt (cs := (Zd a0).cells) (v := (.int .i64 a0.Start)) I o3 I I I) I <| Z2 I (Z1u (k := .i64) (a := a0.End) (b := a0.Start) (c := (IntKind.i64.wrap (a0.End - a0.Start))) I I I I) I <| Z2 I (Zp (v := (.int .i64 (IntKind.i64.wrap (a0.End - a0.Start)))) I I) I <| Zi <| Zh ?_
 refine Z1g ?_
 have h := Option.some.inj h
 subst h
 refine (hret _ ?_).1
 exact ⟨[(.int .i64 (IntKind.i64.wrap (a0.End - a0.Start)))], ⟨rfl, trivial⟩, rfl, trivial⟩
def F50 (K : Nat) (a0 : Zk) (a1 : Bool) (a2 : (List (Str × Zg))) (a3 : (List (Zq × Zk))) : Option (Bool × (List (Zq × Zk))) :=
 (F96 K ((mget Z1p (⟨a0.Caller, a0.Callee⟩ : Zq) a3).getD Z6).Count a0.Count a1 a2 a3).bind fun v4 =>
  (F96 K ((mget Z1p (⟨a0.Caller, a0.Callee⟩ : Zq) a3).getD Z6).Errors a0.Errors v4.2 a2 a3).bind fun v6 =>
   (F96 K ((mget Z1p (⟨a0.Caller, a0.Callee⟩ : Zq) a3).getD Z6).Time a0.Time v6.2 a2 a3).bind fun v8 =>
    some (v8.2, (mput Z1p (⟨a0.Caller, a0.Callee⟩ : Zq) (⟨a0.Caller, a0.Callee, v4.1, v6.1, v8.1⟩ : Zk) a3))
theorem F50_ok (K : Nat) (a0 : Zk) (a1 : Bool) (a2 : (List (Str × Zg))) (a3 : (List (Zq × Zk))) (r : Bool × (List (Zq × Zk))) (h : F50 K a0 a1 a2 a3 = some r) : ACall P 50 ⟨[(.ptr 2000 0), (Z5 a0)], [(2000, (.box [(.map 2001), (.map 2002), (.bool a1)])), (2001, (.map (Zu Z20 Z3 a2))), (2002, (.map (Zu Zl Z5 a3)))], (.tup []), [(2000, (.box [(.map 2001), (.map 2002), (.bool r.1)])), (2001, (.map (Zu Z20 Z3 a2))), (2002, (.map (Zu Zl Z5 r.2)))], []⟩ := by
 refine Z1s Tryz.func50 Tryz.results50 rfl Tryz.ntmps50 rfl rfl rfl ?_
 intro E Q hP hN hro hret
 obtain ⟨P', nt', w0, F0, p0, S0, β0, ro0⟩ := E
 simp only at hP hN
 subst hP hN
 dsimp only [argT]
 unfold F50 at h
 refine Zj <| Zf <| Z2 I (Z2m (v := (Z5 a0)) (cs := (Z5 a0).cells) I I I I I) I <| Zi <| Zh <| Zj <| Zf <| Z2 I (Zr (m := 3) (o := 0) I Z7d I I) I ?_
 refine Z2 I (Zt (cs := (Z5 a0).cells) (v := (.str a0.Caller)) I o9 I I I) I <| Z2 I (Zr (m := 3) (o := 0) I Z7g I I) I <| Z2 I (Zt (cs := (Z5 a0).cells) (v := (.str a0.Callee)) I o9 I I I) I <| Z2 I (Z27 (vs := [(0, (.str a0.Caller)), (1, (.str a0.Callee))]) (cs := [(.str a0.Caller), (.str a0.Callee)]) I st126 ⟨rfl, rfl, rfl, rfl, trivial⟩ I) I <| Z2 I (Z1v (cs := [(.str []), (.str [])]) I z126 I I I) I <| Z2 I (Z1e (cs := [(.str []), (.str [])]) (vs := [(.str a0.Caller), (.str a0.Callee)]) (ds := [(.str a0.Caller), (.str a0.Callee)]) (v := (.ag [(.str a0.Caller), (.str a0.Callee)])) sz126 I I I I I I I I) I <| Zi <| Zh ?_
 refine Zj <| Z1r mixed <| Zb 0 I (Zo (v := (.ptr 2000 0)) I I) <| Zb 1 I (Z58 (v := (.ptr 2000 0)) I I I) <| Zb 2 I (Zr (m := 2000) (o := 0) I f181_1 I I) <| Zb 3 I (Z76 (cs := [(.map 2001), (.map 2002), (.bool a1)]) (v := (.map 2002)) I o179 I I I) <| Zb 4 I (Z1l (cs := [(.str a0.Caller), (.str a0.Callee)]) (vs := [(.str a0.Caller), (.str a0.Callee)]) I a126 I I I I) <| Zb 5 I (Zb0 (l := a3) (a := (⟨a0.Caller, a0.Callee⟩ : Zq)) (kv := (.ag [(.str a0.Caller), (.str a0.Callee)])) I mt179 I I (.inl I) I I) ?_
 refine Zb 6 I (Z1v (cs := [(.str []), (.str []), (.int .i64 0), (.int .i64 0), (.int .i64 0)]) I z88 I I I) <| Zb 7 I (Z1e (cs := [(.str []), (.str []), (.int .i64 0), (.int .i64 0), (.int .i64 0)]) (vs := (Z5 ((mget Z1p (⟨a0.Caller, a0.Callee⟩ : Zq) a3).getD Z6)).cells) (ds := (Z5 ((mget Z1p (⟨a0.Caller, a0.Callee⟩ : Zq) a3).getD Z6)).cells) (v := (Z5 ((mget Z1p (⟨a0.Caller, a0.Callee⟩ : Zq) a3).getD Z6))) sz88 I I I I I I I I) <| AOpsD.nil (by kernel_rfl) I <| Zh <| Z1r mixed <| Zb 0 I (Zo (v := (.ptr 2000 0)) I I) <| Zb 1 I (Z58 (v := (.ptr 2000 0)) I I I) <| Zb 2 I (Zr (m := 2000) (o := 0) I f181_1 I I) ?_
 refine Zb 3 I (Z76 (cs := [(.map 2001), (.map 2002), (.bool a1)]) (v := (.map 2002)) I o179 I I I) <| Zb 4 I (Z1l (cs := [(.str a0.Caller), (.str a0.Callee)]) (vs := [(.str a0.Caller), (.str a0.Callee)]) I a126 I I I I) <| Zb 5 I (Zr (m := 3) (o := 0) I Z7d I I) <| Zb 6 I (Zt (cs := (Z5 a0).cells) (v := (.str a0.Caller)) I o9 I I I) <| Zb 7 I (Zr (m := 3) (o := 0) I Z7g I I) <| Zb 8 I (Zt (cs := (Z5 a0).cells) (v := (.str a0.Callee)) I o9 I I I) <| Zb 9 I (Zo (v := (.ptr 2000 0)) I I) <| Zb 10 I (Zr (m := 5) (o := 0) I f88_2 I I) ?_
 refine Zb 11 I (Zt (cs := (Z5 ((mget Z1p (⟨a0.Caller, a0.Callee⟩ : Zq) a3).getD Z6)).cells) (v := (.int .i64 ((mget Z1p (⟨a0.Caller, a0.Callee⟩ : Zq) a3).getD Z6).Count)) I o3 I I I) <| Zb 12 I (Zr (m := 3) (o := 0) I f88_2 I I) <| Zb 13 I (Zt (cs := (Z5 a0).cells) (v := (.int .i64 a0.Count)) I o3 I I I) ?_
 have ⟨v4, hv4, h⟩ := Z1f h
 refine Zb 14 I (Z2v (d := some 31) (c := ⟨[(.ptr 2000 0), (.int .i64 ((mget Z1p (⟨a0.Caller, a0.Callee⟩ : Zq) a3).getD Z6).Count), (.int .i64 a0.Count)] ++ [], [(2000, (.box [(.map 2001), (.map 2002), (.bool a1)])), (2001, (.map (Zu Z20 Z3 a2))), (2002, (.map (Zu Zl Z5 a3)))], (.int .i64 v4.1), [(2000, (.box [(.map 2001), (.map 2002), (.bool v4.2)])), (2001, (.map (Zu Z20 Z3 a2))), (2002, (.map (Zu Zl Z5 a3)))], []⟩) (ar := [(.ptr 2000 0), (.int .i64 ((mget Z1p (⟨a0.Caller, a0.Callee⟩ : Zq) a3).getD Z6).Count), (.int .i64 a0.Count)]) (caps := []) (news := []) (forg := []) Tryz.call96 (Zbk K ((mget Z1p (⟨a0.Caller, a0.Callee⟩ : Zq) a3).getD Z6).Count a0.Count a1 a2 a3 v4 hv4) I I ⟨rfl, rfl, rfl, trivial⟩ I ⟨rfl, rfl, rfl, trivial⟩ I) <| Zb 15 I (Zo (v := (.ptr 2000 0)) I I) <| Zb 16 I (Zr (m := 5) (o := 0) I f88_3 I I) <| Zb 17 I (Zt (cs := (Z5 ((mget Z1p (⟨a0.Caller, a0.Callee⟩ : Zq) a3).getD Z6)).cells) (v := (.int .i64 ((mget Z1p (⟨a0.Caller, a0.Callee⟩ : Zq) a3).getD Z6).Errors)) I o3 I I I) <| Zb 18 I (Zr (m := 3) (o := 0) I f88_3 I I) <| Zb 19 I (Zt (cs := (Z5 a0).cells) (v := (.int .i64 a0.Errors)) I o3 I I I) ?_
 have ⟨v6, hv6, h⟩ := Z1f h
 refine Zb 20 I (Z2v (d := some 37) (c := ⟨[(.ptr 2000 0), (.int .i64 ((mget Z1p (⟨a0.Caller, a0.Callee⟩ : Zq) a3).getD Z6).Errors), (.int .i64 a0.Errors)] ++ [], [(2000, (.box [(.map 2001), (.map 2002), (.bool v4.2)])), (2001, (.map (Zu Z20 Z3 a2))), (2002, (.map (Zu Zl Z5 a3)))], (.int .i64 v6.1), [(2000, (.box [(.map 2001), (.map 2002), (.bool v6.2)])), (2001, (.map (Zu Z20 Z3 a2))), (2002, (.map (Zu Zl Z5 a3)))], []⟩) (ar := [(.ptr 2000 0), (.int .i64 ((mget Z1p (⟨a0.Caller, a0.Callee⟩ : Zq) a3).getD Z6).Errors), (.int .i64 a0.Errors)]) (caps := []) (news := []) (forg := []) Tryz.call96 (Zbk K ((mget Z1p (⟨a0.Caller, a0.Callee⟩ : Zq) a3).getD Z6).Errors a0.Errors v4.2 a2 a3 v6 hv6) I I ⟨rfl, rfl, rfl, trivial⟩ I ⟨rfl, rfl, rfl, trivial⟩ I) <| Zb 21 I (Zo (v := (.ptr 2000 0)) I I) <| Zb 22 I (Zr (m := 5) (o := 0) I f88_4 I I) <| Zb 23 I (Zt (cs := (Z5 ((mget Z1p (⟨a0.Caller, a0.Callee⟩ : Zq) a3).getD Z6)).cells) (v := (.int .i64 ((mget Z1p (⟨a0.Caller, a0.Callee⟩ : Zq) a3).getD Z6).Time)) I o3 I I I) <| Zb 24 I (Zr (m := 3) (o := 0) I f88_4 I I) <| Zb 25 I (Zt (cs := (Z5 a0).cells) (v := (.int .i64 a0.Time)) I o3 I I I) ?_
 have ⟨v8, hv8, h⟩ := Z1f h
 refine Zb 26 I (Z2v (d := some 43) (c := ⟨[(.ptr 2000 0), (.int .i64 ((mget Z1p (⟨a0.Caller, a0.Callee⟩ : Zq) a3).getD Z6).Time), (.int .i64 a0.Time)] ++ [], [(2000, (.box [(.map 2001), (.map 2002), (.bool v6.2)])), (2001, (.map (Zu Z20 Z3 a2))), (2002, (.map (Zu Zl Z5 a3)))], (.int .i64 v8.1), [(2000, (.box [(.map 2001), (.map 2002), (.bool v8.2)])), (2001, (.map (Zu Z20 Z3 a2))), (2002, (.map (Zu Zl Z5 a3)))], []⟩) (ar := [(.ptr 2000 0), (.int .i64 ((mget Z1p (⟨a0.Caller, a0.Callee⟩ : Zq) a3).getD Z6).Time), (.int .i64 a0.Time)]) (caps := []) (news := []) (forg := []) Tryz.call96 (Zbk K ((mget Z1p (⟨a0.Caller, a0.Callee⟩ : Zq) a3).getD Z6).Time a0.Time v6.2 a2 a3 v8 hv8) I I ⟨rfl, rfl, rfl, trivial⟩ I ⟨rfl, rfl, rfl, trivial⟩ I) <| Zb 27 I (Z27 (vs := [(0, (.str a0.Caller)), (1, (.str a0.Callee)), (2, (.int .i64 v4.1)), (3, (.int .i64 v6.1)), (4, (.int .i64 v8.1))]) (cs := [(.str a0.Caller), (.str a0.Callee), (.int .i64 v4.1), (.int .i64 v6.1), (.int .i64 v8.1)]) I st88 ⟨rfl, rfl, rfl, rfl, rfl, rfl, rfl, rfl, rfl, rfl, trivial⟩ I) <| Zb 28 I (Z3r (l := a3) (a := (⟨a0.Caller, a0.Callee⟩ : Zq)) (b := (⟨a0.Caller, a0.Callee, v4.1, v6.1, v8.1⟩ : Zk)) (kv := (.ag [(.str a0.Caller), (.str a0.Callee)])) (vv := (.ag [(.str a0.Caller), (.str a0.Callee), (.int .i64 v4.1), (.int .i64 v6.1), (.int .i64 v8.1)])) mt179 I I I I I I) <| AOpsD.nil (by kernel_rfl) I ?_
 have h := Option.some.inj h
 subst h
 refine (hret _ ?_).2
 exact ⟨[], trivial, rfl, ⟨rfl, rfl, rfl, trivial⟩⟩
def F98 (K : Nat) (a0 : Zg) (a1 : Zg) : Option (Int) :=
 (F69 K a0.Name a1.Name).bind fun v2 =>
  some v2
theorem F98_ok (K : Nat) (a0 : Zg) (a1 : Zg) (r : Int) (h : F98 K a0 a1 = some r) : ACall P 98 ⟨[(Z3 a0), (Z3 a1)], [], (.int .i64 r), [], []⟩ := by
 refine Z1s Tryz.func98 Tryz.results98 rfl Tryz.ntmps98 rfl rfl rfl ?_
 intro E Q hP hN hro hret
 obtain ⟨P', nt', w0, F0, p0, S0, β0, ro0⟩ := E
 simp only at hP hN
 subst hP hN
 dsimp only [argT]
 unfold F98 at h
 refine Zj <| Zf <| Z2 I (Z2m (v := (Z3 a0)) (cs := (Z3 a0).cells) I I I I I) I <| Z2 I (Z2m (v := (Z3 a1)) (cs := (Z3 a1).cells) I I I I I) I <| Z2 I (Zp (v := (.int .i64 0)) I I) I <| Zi <| Zh <| Zj ?_
 refine Zf <| Z2 I (Zr (m := 2) (o := 0) I Z6s I I) I <| Z2 I (Zt (cs := (Z3 a0).cells) (v := (.str a0.Name)) I o9 I I I) I <| Z2 I (Zr (m := 3) (o := 0) I Z6s I I) I <| Z2 I (Zt (cs := (Z3 a1).cells) (v := (.str a1.Name)) I o9 I I I) I ?_
 have ⟨v2, hv2, h⟩ := Z1f h
 refine Z2 I (Z1o (ar := [(.str a0.Name), (.str a1.Name)]) (caps := []) Tryz.call69 (Z6c K a0.Name a1.Name v2 hv2) I I ⟨rfl, rfl, trivial⟩ I) I <| Z2 I (Zp (v := (.int .i64 v2)) I I) I <| Zi <| Zh <| Z1g ?_
 have h := Option.some.inj h
 subst h
 refine (hret _ ?_).1
 exact ⟨[(.int .i64 v2)], ⟨rfl, trivial⟩, rfl, trivial⟩
def F59 (K : Nat) (a0 : Zq) (a1 : Zq) : Option (Int) :=
 (F69 K a0.caller a1.caller).bind fun v2 =>
  (F69 K a0.callee a1.callee).bind fun v4 =>
   (F67 K [v2, v4]).bind fun v6 =>
    some v6
theorem F59_ok (K : Nat) (a0 : Zq) (a1 : Zq) (r : Int) (h : F59 K a0 a1 = some r) : ACall P 59 ⟨[(Zl a0), (Zl a1)], [], (.int .i64 r), [], []⟩ := by
 refine Z1s Tryz.func59 Tryz.results59 rfl Tryz.ntmps59 rfl rfl rfl ?_
 intro E Q hP hN hro hret
 obtain ⟨P', nt', w0, F0, p0, S0, β0, ro0⟩ := E
 simp only at hP hN
 subst hP hN
 dsimp only [argT]
 unfold F59 at h
 refine Zj <| Zf <| Z2 I (Z2m (v := (Zl a0)) (cs := (Zl a0).cells) I I I I I) I <| Z2 I (Z2m (v := (Zl a1)) (cs := (Zl a1).cells) I I I I I) I <| Z2 I (Zp (v := (.int .i64 0)) I I) I <| Zi <| Zh <| Zj ?_
 refine Z1r mixed <| Zb 0 I (Zr (m := 2) (o := 0) I f126_0 I I) <| Zb 1 I (Zt (cs := (Zl a0).cells) (v := (.str a0.caller)) I o9 I I I) <| Zb 2 I (Zr (m := 3) (o := 0) I f126_0 I I) <| Zb 3 I (Zt (cs := (Zl a1).cells) (v := (.str a1.caller)) I o9 I I I) ?_
 have ⟨v2, hv2, h⟩ := Z1f h
 refine Zb 4 I (Z1o (ar := [(.str a0.caller), (.str a1.caller)]) (caps := []) Tryz.call69 (Z6c K a0.caller a1.caller v2 hv2) I I ⟨rfl, rfl, trivial⟩ I) <| Zb 5 I (Zr (m := 2) (o := 0) I f126_1 I I) <| Zb 6 I (Zt (cs := (Zl a0).cells) (v := (.str a0.callee)) I o9 I I I) <| Zb 7 I (Zr (m := 3) (o := 0) I f126_1 I I) <| Zb 8 I (Zt (cs := (Zl a1).cells) (v := (.str a1.callee)) I o9 I I I) ?_
 have ⟨v4, hv4, h⟩ := Z1f h
 refine Zb 9 I (Z1o (ar := [(.str a0.callee), (.str a1.callee)]) (caps := []) Tryz.call69 (Z6c K a0.callee a1.callee v4 hv4) I I ⟨rfl, rfl, trivial⟩ I) <| Zb 10 I (Z1m (vs := [(.int .i64 v2), (.int .i64 v4)]) (enc := Z2l) (l := [v2, v4]) I el65 I I ⟨rfl, rfl, trivial⟩ I Z53 I I I I) ?_
 have ⟨v6, hv6, h⟩ := Z1f h
 refine Zb 11 I (Z66 (rd := [(15, (.vec 1 (List.map Z2l [v2, v4])))]) (ar := [(.vs 15)]) (caps := []) Tryz.call67 (Zb6 K [v2, v4] v6 hv6) I I ⟨rfl, trivial⟩ (Z4f ⟨rfl, trivial⟩) I I I) <| Zb 12 I (Zp (v := (.int .i64 v6)) I I) <| AOpsD.nil (by kernel_rfl) I <| Zh <| Z1g ?_
 have h := Option.some.inj h
 subst h
 refine (hret _ ?_).1
 exact ⟨[(.int .i64 v6)], ⟨rfl, trivial⟩, rfl, trivial⟩
def F100 (K : Nat) (a0 : Zk) (a1 : Zk) : Option (Int) :=
 (F59 K (⟨a0.Caller, a0.Callee⟩ : Zq) (⟨a1.Caller, a1.Callee⟩ : Zq)).bind fun v2 =>
  some v2
theorem F100_ok (K : Nat) (a0 : Zk) (a1 : Zk) (r : Int) (h : F100 K a0 a1 = some r) : ACall P 100 ⟨[(Z5 a0), (Z5 a1)], [], (.int .i64 r), [], []⟩ := by
 refine Z1s Tryz.func100 Tryz.results100 rfl Tryz.ntmps100 rfl rfl rfl ?_
 intro E Q hP hN hro hret
 obtain ⟨P', nt', w0, F0, p0, S0, β0, ro0⟩ := E
 simp only at hP hN
 subst hP hN
 dsimp only [argT]
 unfold F100 at h
 refine Zj <| Zf <| Z2 I (Z2m (v := (Z5 a0)) (cs := (Z5 a0).cells) I I I I I) I <| Z2 I (Z2m (v := (Z5 a1)) (cs := (Z5 a1).cells) I I I I I) I <| Z2 I (Zp (v := (.int .i64 0)) I I) I <| Zi <| Zh <| Zj ?_
 refine Zf <| Z2 I (Zr (m := 2) (o := 0) I Z7d I I) I <| Z2 I (Zt (cs := (Z5 a0).cells) (v := (.str a0.Caller)) I o9 I I I) I <| Z2 I (Zr (m := 2) (o := 0) I Z7g I I) I <| Z2 I (Zt (cs := (Z5 a0).cells) (v := (.str a0.Callee)) I o9 I I I) I <| Z2 I (Z27 (vs := [(0, (.str a0.Caller)), (1, (.str a0.Callee))]) (cs := [(.str a0.Caller), (.str a0.Callee)]) I st126 ⟨rfl, rfl, rfl, rfl, trivial⟩ I) I <| Z2 I (Zr (m := 3) (o := 0) I Z7d I I) I <| Z2 I (Zt (cs := (Z5 a1).cells) (v := (.str a1.Caller)) I o9 I I I) I ?_
 refine Z2 I (Zr (m := 3) (o := 0) I Z7g I I) I <| Z2 I (Zt (cs := (Z5 a1).cells) (v := (.str a1.Callee)) I o9 I I I) I <| Z2 I (Z27 (vs := [(0, (.str a1.Caller)), (1, (.str a1.Callee))]) (cs := [(.str a1.Caller), (.str a1.Callee)]) I st126 ⟨rfl, rfl, rfl, rfl, trivial⟩ I) I ?_
 have ⟨v2, hv2, h⟩ := Z1f h
 refine Z2 I (Z1o (ar := [(.ag [(.str a0.Caller), (.str a0.Callee)]), (.ag [(.str a1.Caller), (.str a1.Callee)])]) (caps := []) Tryz.call59 (F59_ok K (⟨a0.Caller, a0.Callee⟩ : Zq) (⟨a1.Caller, a1.Callee⟩ : Zq) v2 hv2) I I ⟨rfl, rfl, trivial⟩ I) I <| Z2 I (Zp (v := (.int .i64 v2)) I I) I <| Zi <| Zh <| Z1g ?_
 have h := Option.some.inj h
 subst h
 refine (hret _ ?_).1
 exact ⟨[(.int .i64 v2)], ⟨rfl, trivial⟩, rfl, trivial⟩
def Za5 (K : Nat) (v6 : (List Zg)) (v12 : (List Zk)) : Option (Int × Zc) :=
 (sortF (fun a b => F98 K a b) v6).bind fun v16 =>
  (sortF (fun a b => F100 K a b) v12).bind fun v18 =>
   some (0, (⟨v16, v18⟩ : Zc))
noncomputable def Z84 (K : Nat) (c14 : (List Zk) → Option (Int × Zc)) : Nat → (List (Zq × Zk)) → (List Zk) → Option (Int × Zc)
 | 0, _, _ => none
 | k11 + 1, v9, v10 =>
  ndNext v9 (
   c14 v10) fun x20 x21 =>
   if v10.length + [x20.2].length ≤ 1073741824 then
    (Z84 K c14 k11) x21 (v10 ++ [x20.2])
   else none
noncomputable def F52_c7 (K : Nat) (a2 : (List (Zq × Zk))) (v6 : (List Zg)) : Option (Int × Zc) :=
 Z84 K (Za5 K v6) K a2 []
noncomputable def Zbs (K : Nat) (c8 : (List Zg) → Option (Int × Zc)) : Nat → (List (Str × Zg)) → (List Zg) → Option (Int × Zc)
 | 0, _, _ => none
 | k5 + 1, v3, v4 =>
  ndNext v3 (
   c8 v4) fun x25 x26 =>
   if v4.length + [x25.2].length ≤ 1073741824 then
    (Zbs K c8 k5) x26 (v4 ++ [x25.2])
   else none
noncomputable def F52 (K : Nat) (a0 : Bool) (a1 : (List (Str × Zg))) (a2 : (List (Zq × Zk))) : Option (Int × Zc) :=
 if (decide ((a1.length : Int) > 256)) = true then
  some (6, Z1t)
 else
  if a0 = true then
   some (20, Z1t)
  else
   Zbs K (F52_c7 K a2) K a1 []
theorem F52_ok (K : Nat) (a0 : Bool) (a1 : (List (Str × Zg))) (a2 : (List (Zq × Zk))) (r : Int × Zc) (h : F52 K a0 a1 a2 = some r) : ACall P 52 ⟨[(.ptr 2000 0)], [(2000, (.box [(.map 59), (.map 57), (.bool a0)])), (59, (.map (Zu Z20 Z3 a1))), (57, (.map (Zu Zl Z5 a2)))], (.tup [(Z4 r.2), (.int .i64 r.1)]), [(2000, (.box [(.map 59), (.map 57), (.bool a0)])), (59, (.fmap (Zu Z20 Z3 a1))), (57, (.fmap (Zu Zl Z5 a2)))], [59, 57]⟩ := by
 refine Z1s Tryz.func52 Tryz.results52 rfl Tryz.ntmps52 rfl rfl rfl ?_
 intro E Q hP hN hro hret
 obtain ⟨P', nt', w0, F0, p0, S0, β0, ro0⟩ := E
 simp only at hP hN
 subst hP hN
 dsimp only [argT]
 unfold F52 at h
 refine Zj <| Zf <| Z2 I (Z1v (cs := [(.sl 4 [] true), (.sl 5 [] true)]) I z44f I I I) I <| Z2 I (Zp (v := (.int .i64 0)) I I) I <| Zi <| Zh <| Zj <| AWp.block ?_
 refine Zj <| Zf <| Z2 I (Zo (v := (.ptr 2000 0)) I I) I <| Z2 I (Z58 (v := (.ptr 2000 0)) I I I) I <| Z2 I (Zr (m := 2000) (o := 0) I f181_0 I I) I <| Z2 I (Zt (cs := [(.map 59), (.map 57), (.bool a0)]) (v := (.map 59)) I o178 I I I) I <| Z2 I (st_mlen (encK := Z20) (encV := Z3) (kvs := a1) I ⟨9, 68, by kernel_rfl⟩ I I (.inl I)) I <| Z2 I (Z25 (k := .i64) (a := (a1.length : Int)) (b := 256) (c := (decide ((a1.length : Int) > 256))) I I I I) I ?_
 refine Z2 I (Zp (v := (.bool (decide ((a1.length : Int) > 256)))) I I) I <| Zi <| Zh ?_
 have hif := Z28 h
 refine Z16 I (fun hc => ?_) (fun hc => ?_)
 ·have h := hif.1 hc
  refine Zj <| Zf <| Z2 I (Z27 (vs := []) (cs := [(.sl 4 [] true), (.sl 5 [] true)]) I st44f trivial I) I <| Z2 I (Z1e (cs := [(.sl 4 [] true), (.sl 5 [] true)]) (vs := [(.sl 4 [] true), (.sl 5 [] true)]) (ds := [(.sl 4 [] true), (.sl 5 [] true)]) (v := (.ag [(.sl 4 [] true), (.sl 5 [] true)])) Zau I I I I I I I I) I <| Z2 I (Zp (v := (.int .i64 6)) I I) I <| Zi <| Zh <| Z1g ?_
  refine At.overR <| Z1k <| At.ghost (st' := ⟨[(2, (.ptr 2 0)), (3, (.int .i64 6))], [(2, (.box [(.sl 4 [] false), (.sl 5 [] false)])), (57, (.fmap (Zu Zl Z5 a2))), (59, (.fmap (Zu Z20 Z3 a1))), (2000, (.box [(.map 59), (.map 57), (.bool a0)]))]⟩) (fun a w h => (Z17 ⟨[(2, (.ptr 2 0)), (3, (.int .i64 6))], [(2, (.box [(.sl 4 [] false), (.sl 5 [] false)])), (57, (.fmap (Zu Zl Z5 a2))), (59, (.fmap (Zu Z20 Z3 a1))), (2000, (.box [(.map 59), (.map 57), (.bool a0)]))]⟩ (Z8b (n := 2) (cs := [(.sl 4 [] true), (.sl 5 [] true)]) a w (Z17 ⟨[(2, (.ptr 2 0)), (3, (.int .i64 6))], [(2, (.box [(.sl 4 [] true), (.sl 5 [] true)])), (57, (.fmap (Zu Zl Z5 a2))), (59, (.fmap (Zu Z20 Z3 a1))), (2000, (.box [(.map 59), (.map 57), (.bool a0)]))]⟩ (Z17 ⟨[(2, (.ptr 2 0)), (3, (.int .i64 6))], [(2, (.box [(.sl 4 [] true), (.sl 5 [] true)])), (57, (.fmap (Zu Zl Z5 a2))), (59, (.fmap (Zu Z20 Z3 a1))), (2000, (.box [(.map 59), (.map 57), (.bool a0)]))]⟩ (Z2t (m := 57) I a w (Z17 ⟨[(2, (.ptr 2 0)), (3, (.int .i64 6))], [(57, (.map (Zu Zl Z5 a2))), (2, (.box [(.sl 4 [] true), (.sl 5 [] true)])), (59, (.fmap (Zu Z20 Z3 a1))), (2000, (.box [(.map 59), (.map 57), (.bool a0)]))]⟩ (Z17 ⟨[(2, (.ptr 2 0)), (3, (.int .i64 6))], [(2, (.box [(.sl 4 [] true), (.sl 5 [] true)])), (57, (.map (Zu Zl Z5 a2))), (59, (.fmap (Zu Z20 Z3 a1))), (2000, (.box [(.map 59), (.map 57), (.bool a0)]))]⟩ (Z2t (m := 59) I a w (Z17 ⟨[(2, (.ptr 2 0)), (3, (.int .i64 6))], [(59, (.map (Zu Z20 Z3 a1))), (2, (.box [(.sl 4 [] true), (.sl 5 [] true)])), (57, (.map (Zu Zl Z5 a2))), (2000, (.box [(.map 59), (.map 57), (.bool a0)]))]⟩ h ⟨rfl, rfl, trivial⟩ ⟨rfl, rfl, rfl, rfl, trivial⟩)) ⟨rfl, rfl, trivial⟩ ⟨rfl, rfl, rfl, rfl, trivial⟩) ⟨rfl, rfl, trivial⟩ ⟨rfl, rfl, rfl, rfl, trivial⟩)) ⟨rfl, rfl, trivial⟩ ⟨rfl, rfl, rfl, rfl, trivial⟩) ⟨rfl, rfl, trivial⟩ ⟨rfl, rfl, rfl, rfl, trivial⟩)) ⟨rfl, rfl, trivial⟩ ⟨rfl, rfl, rfl, rfl, trivial⟩)) ?_
  have h := Option.some.inj h
  subst h
  refine (hret _ ?_).1
  exact ⟨[(Z4 Z1t), (.int .i64 6)], ⟨⟨2, _, rfl, rfl, .inr ⟨_, a44, rfl, rfl⟩⟩, rfl, trivial⟩, rfl, ⟨rfl, rfl, rfl, trivial⟩⟩
 ·have h := hif.2 hc
  refine Zj <| Zf <| Z2 I (Zo (v := (.ptr 2000 0)) I I) I <| Z2 I (Z58 (v := (.ptr 2000 0)) I I I) I <| Z2 I (Zr (m := 2000) (o := 0) I f181_2 I I) I <| Z2 I (Zt (cs := [(.map 59), (.map 57), (.bool a0)]) (v := (.bool a0)) I o4 I I I) I <| Z2 I (Zp (v := (.bool a0)) I I) I <| Zi ?_
  refine Zh ?_
  have hif := Z28 h
  refine Z16 I (fun hc => ?_) (fun hc => ?_)
  ·have h := hif.1 hc
   refine Zj <| Zf <| Z2 I (Z27 (vs := []) (cs := [(.sl 4 [] true), (.sl 5 [] true)]) I st44f trivial I) I <| Z2 I (Z1e (cs := [(.sl 4 [] true), (.sl 5 [] true)]) (vs := [(.sl 4 [] true), (.sl 5 [] true)]) (ds := [(.sl 4 [] true), (.sl 5 [] true)]) (v := (.ag [(.sl 4 [] true), (.sl 5 [] true)])) Zau I I I I I I I I) I <| Z2 I (Zp (v := (.int .i64 20)) I I) I <| Zi <| Zh <| Z1g ?_
   refine At.overR <| Z1k <| At.ghost (st' := ⟨[(2, (.ptr 2 0)), (3, (.int .i64 20))], [(2, (.box [(.sl 4 [] false), (.sl 5 [] false)])), (57, (.fmap (Zu Zl Z5 a2))), (59, (.fmap (Zu Z20 Z3 a1))), (2000, (.box [(.map 59), (.map 57), (.bool a0)]))]⟩) (fun a w h => (Z17 ⟨[(2, (.ptr 2 0)), (3, (.int .i64 20))], [(2, (.box [(.sl 4 [] false), (.sl 5 [] false)])), (57, (.fmap (Zu Zl Z5 a2))), (59, (.fmap (Zu Z20 Z3 a1))), (2000, (.box [(.map 59), (.map 57), (.bool a0)]))]⟩ (Z8b (n := 2) (cs := [(.sl 4 [] true), (.sl 5 [] true)]) a w (Z17 ⟨[(2, (.ptr 2 0)), (3, (.int .i64 20))], [(2, (.box [(.sl 4 [] true), (.sl 5 [] true)])), (57, (.fmap (Zu Zl Z5 a2))), (59, (.fmap (Zu Z20 Z3 a1))), (2000, (.box [(.map 59), (.map 57), (.bool a0)]))]⟩ (Z17 ⟨[(2, (.ptr 2 0)), (3, (.int .i64 20))], [(2, (.box [(.sl 4 [] true), (.sl 5 [] true)])), (57, (.fmap (Zu Zl Z5 a2))), (59, (.fmap (Zu Z20 Z3 a1))), (2000, (.box [(.map 59), (.map 57), (.bool a0)]))]⟩ (Z2t (m := 57) I a w (Z17 ⟨[(2, (.ptr 2 0)), (3, (.int .i64 20))], [(57, (.map (Zu Zl Z5 a2))), (2, (.box [(.sl 4 [] true), (.sl 5 [] true)])), (59, (.fmap (Zu Z20 Z3 a1))), (2000, (.box [(.map 59), (.map 57), (.bool a0)]))]⟩ (Z17 ⟨[(2, (.ptr 2 0)), (3, (.int .i64 20))], [(2, (.box [(.sl 4 [] true), (.sl 5 [] true)])), (57, (.map (Zu Zl Z5 a2))), (59, (.fmap (Zu Z20 Z3 a1))), (2000, (.box [(.map 59), (.map 57), (.bool a0)]))]⟩ (Z2t (m := 59) I a w (Z17 ⟨[(2, (.ptr 2 0)), (3, (.int .i64 20))], [(59, (.map (Zu Z20 Z3 a1))), (2, (.box [(.sl 4 [] true), (.sl 5 [] true)])), (57, (.map (Zu Zl Z5 a2))), (2000, (.box [(.map 59), (.map 57), (.bool a0)]))]⟩ h ⟨rfl, rfl, trivial⟩ ⟨rfl, rfl, rfl, rfl, trivial⟩)) ⟨rfl, rfl, trivial⟩ ⟨rfl, rfl, rfl, rfl, trivial⟩) ⟨rfl, rfl, trivial⟩ ⟨rfl, rfl, rfl, rfl, trivial⟩)) ⟨rfl, rfl, trivial⟩ ⟨rfl, rfl, rfl, rfl, trivial⟩) ⟨rfl, rfl, trivial⟩ ⟨rfl, rfl, rfl, rfl, trivial⟩)) ⟨rfl, rfl, trivial⟩ ⟨rfl, rfl, rfl, rfl, trivial⟩)) ?_
   have h := Option.some.inj h
   subst h
   refine (hret _ ?_).1
   exact ⟨[(Z4 Z1t), (.int .i64 20)], ⟨⟨2, _, rfl, rfl, .inr ⟨_, a44, rfl, rfl⟩⟩, rfl, trivial⟩, rfl, ⟨rfl, rfl, rfl, trivial⟩⟩
  ·have h := hif.2 hc
   refine Z1b <| At.end <| Zh <| Zj <| Zf <| Z2 I (Z1v (cs := [(.sl 4 [] true), (.sl 5 [] true)]) I z44f I I I) I <| Zi <| Zh ?_
   refine Zj <| Zj <| Zf <| Z2 I (Zo (v := (.ptr 2000 0)) I I) I <| Z2 I (Z58 (v := (.ptr 2000 0)) I I I) I <| Z2 I (Zr (m := 2000) (o := 0) I f181_0 I I) I <| Z2 I (Zt (cs := [(.map 59), (.map 57), (.bool a0)]) (v := (.map 59)) I o178 I I I) I <| AOps.ghost (st' := ⟨[(0, (.ptr 2000 0)), (2, (.ptr 2 0)), (4, (.ptr 4 0)), (26, (.map 59))], [(2, (.box [(.sl 4 [] true), (.sl 5 [] true)])), (4, (.box [(.sl 4 [] true), (.sl 5 [] true)])), (57, (.map (Zu Zl Z5 a2))), (59, (.fmap (Zu Z20 Z3 a1))), (2000, (.box [(.map 59), (.map 57), (.bool a0)]))]⟩) (fun a w h => (Z17 ⟨[(0, (.ptr 2000 0)), (2, (.ptr 2 0)), (4, (.ptr 4 0)), (26, (.map 59))], [(2, (.box [(.sl 4 [] true), (.sl 5 [] true)])), (4, (.box [(.sl 4 [] true), (.sl 5 [] true)])), (57, (.map (Zu Zl Z5 a2))), (59, (.fmap (Zu Z20 Z3 a1))), (2000, (.box [(.map 59), (.map 57), (.bool a0)]))]⟩ (Z2t (m := 59) I a w (Z17 ⟨[(0, (.ptr 2000 0)), (2, (.ptr 2 0)), (4, (.ptr 4 0)), (26, (.map 59))], [(59, (.map (Zu Z20 Z3 a1))), (2, (.box [(.sl 4 [] true), (.sl 5 [] true)])), (4, (.box [(.sl 4 [] true), (.sl 5 [] true)])), (57, (.map (Zu Zl Z5 a2))), (2000, (.box [(.map 59), (.map 57), (.bool a0)]))]⟩ h ⟨rfl, rfl, rfl, rfl, trivial⟩ ⟨rfl, rfl, rfl, rfl, rfl, trivial⟩)) ⟨rfl, rfl, rfl, rfl, trivial⟩ ⟨rfl, rfl, rfl, rfl, rfl, trivial⟩)) ?_
   refine Z2 I (Z6w (l := a1) I ⟨9, 68, by kernel_rfl⟩ I I) I <| Zi <| Zh <| AWp.ghost (st' := ⟨[(0, (.ptr 2000 0)), (2, (.ptr 2 0)), (4, (.ptr 4 0)), (27, (.itr 27))], [(2, (.box [(.sl 4 [] true), (.sl 5 [] true)])), (4, (.box [(.vs 56), (.sl 5 [] true)])), (27, (.iter none (Zu Z20 Z3 a1))), (56, (.vec 4 (List.map Z3 ([] : List Zg)))), (57, (.map (Zu Zl Z5 a2))), (59, (.fmap (Zu Z20 Z3 a1))), (2000, (.box [(.map 59), (.map 57), (.bool a0)]))]⟩) (fun a w h => (Z17 ⟨[(0, (.ptr 2000 0)), (2, (.ptr 2 0)), (4, (.ptr 4 0)), (27, (.itr 27))], [(2, (.box [(.sl 4 [] true), (.sl 5 [] true)])), (4, (.box [(.vs 56), (.sl 5 [] true)])), (27, (.iter none (Zu Z20 Z3 a1))), (56, (.vec 4 (List.map Z3 ([] : List Zg)))), (57, (.map (Zu Zl Z5 a2))), (59, (.fmap (Zu Z20 Z3 a1))), (2000, (.box [(.map 59), (.map 57), (.bool a0)]))]⟩ (Z5s (n := 4) (m := 56) (sz := 4) (j := 0) I I I a w (Z17 ⟨[(0, (.ptr 2000 0)), (2, (.ptr 2 0)), (4, (.ptr 4 0)), (27, (.itr 27))], [(4, (.box [(.sl 4 [] true), (.sl 5 [] true)])), (2, (.box [(.sl 4 [] true), (.sl 5 [] true)])), (27, (.iter none (Zu Z20 Z3 a1))), (57, (.map (Zu Zl Z5 a2))), (59, (.fmap (Zu Z20 Z3 a1))), (2000, (.box [(.map 59), (.map 57), (.bool a0)]))]⟩ h ⟨rfl, rfl, rfl, rfl, trivial⟩ ⟨rfl, rfl, rfl, rfl, rfl, rfl, trivial⟩)) ⟨rfl, rfl, rfl, rfl, trivial⟩ ⟨rfl, rfl, rfl, rfl, rfl, rfl, rfl, trivial⟩)) <| AWp.weaken (st' := ⟨[(0, (.ptr 2000 0)), (2, (.ptr 2 0)), (4, (.ptr 4 0)), (27, (.itr 27))], [(2, (.box [(.sl 4 [] true), (.sl 5 [] true)])), (4, (.box [(.vs 56), (.sl 5 [] true)])), (27, (.iter none (Zu Z20 Z3 a1))), (56, (.vec 4 (List.map Z3 []))), (57, (.map (Zu Zl Z5 a2))), (59, (.fmap (Zu Z20 Z3 a1))), (2000, (.box [(.map 59), (.map 57), (.bool a0)]))]⟩) ⟨rfl, rfl, rfl, rfl, trivial⟩ ⟨rfl, rfl, rfl, rfl, rfl, rfl, rfl, trivial⟩ ?_
   refine Z1n (V := (List (Str × Zg)) × (List Zg)) (X := (List Zg)) (lp := fun k v => Zbs K (F52_c7 K a2) k v.1 v.2 = some r) (sh := fun v => ⟨[(0, (.ptr 2000 0)), (2, (.ptr 2 0)), (4, (.ptr 4 0)), (27, (.itr 27))], [(2, (.box [(.sl 4 [] true), (.sl 5 [] true)])), (4, (.box [(.vs 56), (.sl 5 [] true)])), (27, (.iter none (Zu Z20 Z3 v.1))), (56, (.vec 4 (List.map Z3 v.2))), (57, (.map (Zu Zl Z5 a2))), (59, (.fmap (Zu Z20 Z3 a1))), (2000, (.box [(.map 59), (.map 57), (.bool a0)]))]⟩) (x := fun v => F52_c7 K a2 v = some r) (shx := fun v => ⟨[(0, (.ptr 2000 0)), (2, (.ptr 2 0)), (4, (.ptr 4 0))], [(2, (.box [(.sl 4 [] true), (.sl 5 [] true)])), (4, (.box [(.vs 56), (.sl 5 [] true)])), (56, (.vec 4 (List.map Z3 v))), (57, (.map (Zu Zl Z5 a2))), (59, (.fmap (Zu Z20 Z3 a1))), (2000, (.box [(.map 59), (.map 57), (.bool a0)]))]⟩) (k := K) (v := (a1, [])) h ?_ ?_
   ·intro v h
    revert h
    revert v
    intro v6 h
    try dsimp only at h ⊢
    unfold F52_c7 at h
    refine Zh <| Zj <| Zj <| Zf <| Z2 I (Zo (v := (.ptr 2000 0)) I I) I <| Z2 I (Z58 (v := (.ptr 2000 0)) I I I) I <| Z2 I (Zr (m := 2000) (o := 0) I f181_1 I I) I <| Z2 I (Zt (cs := [(.map 59), (.map 57), (.bool a0)]) (v := (.map 57)) I o179 I I I) I ?_
    refine AOps.ghost (st' := ⟨[(2, (.ptr 2 0)), (4, (.ptr 4 0)), (41, (.map 57))], [(2, (.box [(.sl 4 [] true), (.sl 5 [] true)])), (4, (.box [(.vs 56), (.sl 5 [] true)])), (56, (.vec 4 (List.map Z3 v6))), (57, (.fmap (Zu Zl Z5 a2))), (59, (.fmap (Zu Z20 Z3 a1))), (2000, (.box [(.map 59), (.map 57), (.bool a0)]))]⟩) (fun a w h => (Z17 ⟨[(2, (.ptr 2 0)), (4, (.ptr 4 0)), (41, (.map 57))], [(2, (.box [(.sl 4 [] true), (.sl 5 [] true)])), (4, (.box [(.vs 56), (.sl 5 [] true)])), (56, (.vec 4 (List.map Z3 v6))), (57, (.fmap (Zu Zl Z5 a2))), (59, (.fmap (Zu Z20 Z3 a1))), (2000, (.box [(.map 59), (.map 57), (.bool a0)]))]⟩ (Z2t (m := 57) I a w (Z17 ⟨[(2, (.ptr 2 0)), (4, (.ptr 4 0)), (41, (.map 57))], [(57, (.map (Zu Zl Z5 a2))), (2, (.box [(.sl 4 [] true), (.sl 5 [] true)])), (4, (.box [(.vs 56), (.sl 5 [] true)])), (56, (.vec 4 (List.map Z3 v6))), (59, (.fmap (Zu Z20 Z3 a1))), (2000, (.box [(.map 59), (.map 57), (.bool a0)]))]⟩ h ⟨rfl, rfl, rfl, trivial⟩ ⟨rfl, rfl, rfl, rfl, rfl, rfl, trivial⟩)) ⟨rfl, rfl, rfl, trivial⟩ ⟨rfl, rfl, rfl, rfl, rfl, rfl, trivial⟩)) <| Z2 I (Z6w (l := a2) I ⟨126, 88, by kernel_rfl⟩ I I) I <| Zi <| Zh <| AWp.ghost (st' := ⟨[(2, (.ptr 2 0)), (4, (.ptr 4 0)), (42, (.itr 42))], [(2, (.box [(.sl 4 [] true), (.sl 5 [] true)])), (4, (.box [(.vs 56), (.vs 54)])), (42, (.iter none (Zu Zl Z5 a2))), (54, (.vec 5 (List.map Z5 ([] : List Zk)))), (56, (.vec 4 (List.map Z3 v6))), (57, (.fmap (Zu Zl Z5 a2))), (59, (.fmap (Zu Z20 Z3 a1))), (2000, (.box [(.map 59), (.map 57), (.bool a0)]))]⟩) (fun a w h => (Z17 ⟨[(2, (.ptr 2 0)), (4, (.ptr 4 0)), (42, (.itr 42))], [(2, (.box [(.sl 4 [] true), (.sl 5 [] true)])), (4, (.box [(.vs 56), (.vs 54)])), (42, (.iter none (Zu Zl Z5 a2))), (54, (.vec 5 (List.map Z5 ([] : List Zk)))), (56, (.vec 4 (List.map Z3 v6))), (57, (.fmap (Zu Zl Z5 a2))), (59, (.fmap (Zu Z20 Z3 a1))), (2000, (.box [(.map 59), (.map 57), (.bool a0)]))]⟩ (Z5s (n := 4) (m := 54) (sz := 5) (j := 1) I I I a w (Z17 ⟨[(2, (.ptr 2 0)), (4, (.ptr 4 0)), (42, (.itr 42))], [(4, (.box [(.vs 56), (.sl 5 [] true)])), (2, (.box [(.sl 4 [] true), (.sl 5 [] true)])), (42, (.iter none (Zu Zl Z5 a2))), (56, (.vec 4 (List.map Z3 v6))), (57, (.fmap (Zu Zl Z5 a2))), (59, (.fmap (Zu Z20 Z3 a1))), (2000, (.box [(.map 59), (.map 57), (.bool a0)]))]⟩ h ⟨rfl, rfl, rfl, trivial⟩ ⟨rfl, rfl, rfl, rfl, rfl, rfl, rfl, trivial⟩)) ⟨rfl, rfl, rfl, trivial⟩ ⟨rfl, rfl, rfl, rfl, rfl, rfl, rfl, rfl, trivial⟩)) <| AWp.weaken (st' := ⟨[(2, (.ptr 2 0)), (4, (.ptr 4 0)), (42, (.itr 42))], [(2, (.box [(.sl 4 [] true), (.sl 5 [] true)])), (4, (.box [(.vs 56), (.vs 54)])), (42, (.iter none (Zu Zl Z5 a2))), (54, (.vec 5 (List.map Z5 []))), (56, (.vec 4 (List.map Z3 v6))), (57, (.fmap (Zu Zl Z5 a2))), (59, (.fmap (Zu Z20 Z3 a1))), (2000, (.box [(.map 59), (.map 57), (.bool a0)]))]⟩) ⟨rfl, rfl, rfl, trivial⟩ ⟨rfl, rfl, rfl, rfl, rfl, rfl, rfl, rfl, trivial⟩ ?_
    refine Z1n (V := (List (Zq × Zk)) × (List Zk)) (X := (List Zk)) (lp := fun k v => Z84 K (Za5 K v6) k v.1 v.2 = some r) (sh := fun v => ⟨[(2, (.ptr 2 0)), (4, (.ptr 4 0)), (42, (.itr 42))], [(2, (.box [(.sl 4 [] true), (.sl 5 [] true)])), (4, (.box [(.vs 56), (.vs 54)])), (42, (.iter none (Zu Zl Z5 v.1))), (54, (.vec 5 (List.map Z5 v.2))), (56, (.vec 4 (List.map Z3 v6))), (57, (.fmap (Zu Zl Z5 a2))), (59, (.fmap (Zu Z20 Z3 a1))), (2000, (.box [(.map 59), (.map 57), (.bool a0)]))]⟩) (x := fun v => Za5 K v6 v = some r) (shx := fun v => ⟨[(2, (.ptr 2 0)), (4, (.ptr 4 0))], [(2, (.box [(.sl 4 [] true), (.sl 5 [] true)])), (4, (.box [(.vs 56), (.vs 54)])), (54, (.vec 5 (List.map Z5 v))), (56, (.vec 4 (List.map Z3 v6))), (57, (.fmap (Zu Zl Z5 a2))), (59, (.fmap (Zu Z20 Z3 a1))), (2000, (.box [(.map 59), (.map 57), (.bool a0)]))]⟩) (k := K) (v := (a2, [])) h ?_ ?_
    ·intro v h
     revert h
     revert v
     intro v12 h
     try dsimp only at h ⊢
     unfold Za5 at h
     refine Zh <| Zj <| Zf <| Z2 I (Zr (m := 4) (o := 0) I Z3v I I) I <| Z2 I (Zt (cs := [(.vs 56), (.vs 54)]) (v := (.vs 56)) I o41 I I I) I ?_
     have ⟨v16, hv16, h⟩ := Z1f h
     refine Z2 I (Z2v (d := some 55) (c := ⟨[(.vs 56), (.clo 98 [])], [(56, (.vec 4 (List.map Z3 v6)))], .tup [], [(56, .vec 4 (List.map Z3 v16))], []⟩) (ar := [(.vs 56), (.clo 98 [])]) (caps := []) (news := []) (forg := []) Tryz.call97 (sort_ok (n := 56) (enc := Z3) (l := v6) (caps := []) (c := (fun a b => F98 K a b)) sortC97 Tryz.call98 Z1q (fun _ => I) (fun a b m hm => F98_ok K a b m hm) hv16) I I ⟨rfl, rfl, trivial⟩ I ⟨rfl, trivial⟩ I) I <| Zi <| Zh <| Zj <| Zf <| Z2 I (Zr (m := 4) (o := 0) I Z3i I I) I <| Z2 I (Zt (cs := [(.vs 56), (.vs 54)]) (v := (.vs 54)) I o42 I I I) I ?_
     have ⟨v18, hv18, h⟩ := Z1f h
     refine Z2 I (Z2v (d := some 58) (c := ⟨[(.vs 54), (.clo 100 [])], [(54, (.vec 5 (List.map Z5 v12)))], .tup [], [(54, .vec 5 (List.map Z5 v18))], []⟩) (ar := [(.vs 54), (.clo 100 [])]) (caps := []) (news := []) (forg := []) Tryz.call99 (sort_ok (n := 54) (enc := Z5) (l := v12) (caps := []) (c := (fun a b => F100 K a b)) sortC99 Tryz.call100 Z2b (fun _ => I) (fun a b m hm => F100_ok K a b m hm) hv18) I I ⟨rfl, rfl, trivial⟩ I ⟨rfl, trivial⟩ I) I <| Zi <| Zh <| Zj <| Zf <| Z2 I (Z1l (cs := [(.vs 56), (.vs 54)]) (vs := [(.vs 56), (.vs 54)]) I a44 I I I I) I <| Z2 I (Z1e (cs := [(.sl 4 [] true), (.sl 5 [] true)]) (vs := [(.vs 56), (.vs 54)]) (ds := [(.vs 56), (.vs 54)]) (v := (.ag [(.vs 56), (.vs 54)])) Zau I I I I I I I I) I <| Z2 I (Zp (v := (.int .i64 0)) I I) I ?_
     refine Zi <| Zh <| Z1g <| At.ghost (st' := ⟨[(2, (.ptr 2 0)), (3, (.int .i64 0))], [(2, (.box [(.sl 4 (v16.map Z3) false), (.sl 5 (v18.map Z5) false)])), (57, (.fmap (Zu Zl Z5 a2))), (59, (.fmap (Zu Z20 Z3 a1))), (2000, (.box [(.map 59), (.map 57), (.bool a0)]))]⟩) (fun a w h => (Z17 ⟨[(2, (.ptr 2 0)), (3, (.int .i64 0))], [(2, (.box [(.sl 4 (v16.map Z3) false), (.sl 5 (v18.map Z5) false)])), (57, (.fmap (Zu Zl Z5 a2))), (59, (.fmap (Zu Z20 Z3 a1))), (2000, (.box [(.map 59), (.map 57), (.bool a0)]))]⟩ (Z29 (m := 54) (sz := 5) (es := (List.map Z5 v18)) a w (Z17 ⟨[(2, (.ptr 2 0)), (3, (.int .i64 0))], [(54, (.vec 5 (List.map Z5 v18))), (2, (.box [(.sl 4 (v16.map Z3) false), (.vs 54)])), (57, (.fmap (Zu Zl Z5 a2))), (59, (.fmap (Zu Z20 Z3 a1))), (2000, (.box [(.map 59), (.map 57), (.bool a0)]))]⟩ (Z17 ⟨[(2, (.ptr 2 0)), (3, (.int .i64 0))], [(2, (.box [(.sl 4 (v16.map Z3) false), (.vs 54)])), (54, (.vec 5 (List.map Z5 v18))), (57, (.fmap (Zu Zl Z5 a2))), (59, (.fmap (Zu Z20 Z3 a1))), (2000, (.box [(.map 59), (.map 57), (.bool a0)]))]⟩ (Z29 (m := 56) (sz := 4) (es := (List.map Z3 v16)) a w (Z17 ⟨[(2, (.ptr 2 0)), (3, (.int .i64 0))], [(56, (.vec 4 (List.map Z3 v16))), (2, (.box [(.vs 56), (.vs 54)])), (54, (.vec 5 (List.map Z5 v18))), (57, (.fmap (Zu Zl Z5 a2))), (59, (.fmap (Zu Z20 Z3 a1))), (2000, (.box [(.map 59), (.map 57), (.bool a0)]))]⟩ h ⟨rfl, rfl, trivial⟩ ⟨rfl, rfl, rfl, rfl, rfl, rfl, trivial⟩)) ⟨rfl, rfl, trivial⟩ ⟨rfl, rfl, rfl, rfl, rfl, trivial⟩) ⟨rfl, rfl, trivial⟩ ⟨rfl, rfl, rfl, rfl, rfl, trivial⟩)) ⟨rfl, rfl, trivial⟩ ⟨rfl, rfl, rfl, rfl, trivial⟩)) ?_
     have h := Option.some.inj h
     subst h
     refine (hret _ ?_).1
     exact ⟨[(Z4 (⟨v16, v18⟩ : Zc)), (.int .i64 0)], ⟨⟨2, _, rfl, rfl, .inr ⟨_, a44, rfl, rfl⟩⟩, rfl, trivial⟩, rfl, ⟨rfl, rfl, rfl, trivial⟩⟩
    ·intro N k11 v h IH11 J11
     obtain ⟨v9, v10⟩ := v
     try dsimp only at h IH11 J11 ⊢
     cases k11 with
     | zero => cases h
     | succ k11 =>
      rw [Z84] at h
      refine Zj <| Zf ?_
      have hn23 := Z7h h
      refine AOps.consNext (encK := Zl) (encV := Z5) (rem := v9) I I I (fun hc => ?_) (fun xx21p x20 xx21q hc => ?_)
      ·have h := hn23.1 hc
       refine Z2 I (Z2g (vs := [(.bool false)]) (v := (.bool false)) I I I) I <| Zi <| Zh <| Zj ?_
       refine Z16 (b := false) I (fun hc => ?_) (fun hc => ?_)
       ·cases hc
       refine AWp.exit <| At.thru ?_
       exact Zy (st' := ⟨[(2, (.ptr 2 0)), (4, (.ptr 4 0))], [(2, (.box [(.sl 4 [] true), (.sl 5 [] true)])), (4, (.box [(.vs 56), (.vs 54)])), (54, (.vec 5 (List.map Z5 v10))), (56, (.vec 4 (List.map Z3 v6))), (57, (.fmap (Zu Zl Z5 a2))), (59, (.fmap (Zu Z20 Z3 a1))), (2000, (.box [(.map 59), (.map 57), (.bool a0)]))]⟩) ⟨rfl, rfl, trivial⟩ ⟨rfl, rfl, rfl, rfl, rfl, rfl, rfl, trivial⟩ (J11 v10 h)
      ·have h := hn23.2 _ _ _ hc
       generalize xx21p ++ xx21q = x21 at h ⊢
       refine Z2 I (Z2g (vs := [(.bool true), .undef, .undef]) (v := (.bool true)) I I I) I <| Zi <| Zh <| Zj ?_
       refine Z16 (b := true) I (fun hc => ?_) (fun hc => ?_)
       rotate_left
       ·cases hc
       refine Z1b <| Zh <| AWp.block <| Zj <| Zf <| Z2 I (Z71 (k := x20.1) (v := x20.2) (encK := Zl) (encV := Z5) I I I) I <| Z2 I (Z2g (vs := [(Zl x20.1), (Z5 x20.2)]) (v := (Z5 x20.2)) I I I) I <| Z2 I (Z1v (cs := [(.str []), (.str []), (.int .i64 0), (.int .i64 0), (.int .i64 0)]) I z88 I I I) I ?_
       refine Z2 I (Z1e (cs := [(.str []), (.str []), (.int .i64 0), (.int .i64 0), (.int .i64 0)]) (vs := (Z5 x20.2).cells) (ds := (Z5 x20.2).cells) (v := (Z5 x20.2)) sz88 I I I I I I I I) I <| Zi <| Zh <| Zf <| Z2 I (Zr (m := 4) (o := 0) I Z3i I I) I <| Z2 I (Zt (cs := [(.vs 56), (.vs 54)]) (v := (.vs 54)) I o42 I I I) I <| Z2 I (Z1l (cs := (Z5 x20.2).cells) (vs := (Z5 x20.2).cells) I a88 I I I I) I <| Z2 I (Z1m (vs := [(Z5 x20.2)]) (enc := Z5) (l := [x20.2]) I el42 I I ⟨rfl, trivial⟩ I Z2b I I I I) I ?_
       have ⟨hg22, h⟩ := Z13 h
       refine Z2 I (Z2p (m := 54) (enc := Z5) (l := v10) (l' := [x20.2]) (src := (.vs 50)) (rd := [(50, (.vec 5 (List.map Z5 [x20.2])))]) I I el42 I u42 I I I I (oneRead I) Z2b hg22) I <| Z2 I (Zr (m := 4) (o := 0) I Z3i I I) I <| Z2 I (Z1e (cs := [(.vs 56), .undef]) (vs := [(.vs 54)]) (ds := [(.vs 56), (.vs 54)]) (v := (.vs 54)) sz42 I I I I I I I I) I <| Zi <| At.end <| At.ghost (st' := ⟨[(2, (.ptr 2 0)), (4, (.ptr 4 0)), (42, (.itr 42))], [(2, (.box [(.sl 4 [] true), (.sl 5 [] true)])), (4, (.box [(.vs 56), (.vs 54)])), (42, (.iter none (Zu Zl Z5 x21))), (54, (.vec 5 (List.map Z5 (v10 ++ [x20.2])))), (56, (.vec 4 (List.map Z3 v6))), (57, (.fmap (Zu Zl Z5 a2))), (59, (.fmap (Zu Z20 Z3 a1))), (2000, (.box [(.map 59), (.map 57), (.bool a0)]))]⟩) (fun a w h => (Z17 ⟨[(2, (.ptr 2 0)), (4, (.ptr 4 0)), (42, (.itr 42))], [(2, (.box [(.sl 4 [] true), (.sl 5 [] true)])), (4, (.box [(.vs 56), (.vs 54)])), (42, (.iter none (Zu Zl Z5 x21))), (54, (.vec 5 (List.map Z5 (v10 ++ [x20.2])))), (56, (.vec 4 (List.map Z3 v6))), (57, (.fmap (Zu Zl Z5 a2))), (59, (.fmap (Zu Z20 Z3 a1))), (2000, (.box [(.map 59), (.map 57), (.bool a0)]))]⟩ (Z4t (m := 42) a w (Z17 ⟨[(2, (.ptr 2 0)), (4, (.ptr 4 0)), (42, (.itr 42))], [(42, (.iter (some (Zl x20.1, Z5 x20.2)) (Zu Zl Z5 x21))), (2, (.box [(.sl 4 [] true), (.sl 5 [] true)])), (4, (.box [(.vs 56), (.vs 54)])), (54, (.vec 5 (List.map Z5 (v10 ++ [x20.2])))), (56, (.vec 4 (List.map Z3 v6))), (57, (.fmap (Zu Zl Z5 a2))), (59, (.fmap (Zu Z20 Z3 a1))), (2000, (.box [(.map 59), (.map 57), (.bool a0)]))]⟩ h ⟨rfl, rfl, rfl, trivial⟩ ⟨rfl, rfl, rfl, rfl, rfl, rfl, rfl, rfl, trivial⟩)) ⟨rfl, rfl, rfl, trivial⟩ ⟨rfl, rfl, rfl, rfl, rfl, rfl, rfl, rfl, trivial⟩)) ?_
       exact Zy (st' := ⟨[(2, (.ptr 2 0)), (4, (.ptr 4 0)), (42, (.itr 42))], [(2, (.box [(.sl 4 [] true), (.sl 5 [] true)])), (4, (.box [(.vs 56), (.vs 54)])), (42, (.iter none (Zu Zl Z5 x21))), (54, (.vec 5 (List.map Z5 (v10 ++ [x20.2])))), (56, (.vec 4 (List.map Z3 v6))), (57, (.fmap (Zu Zl Z5 a2))), (59, (.fmap (Zu Z20 Z3 a1))), (2000, (.box [(.map 59), (.map 57), (.bool a0)]))]⟩) ⟨rfl, rfl, rfl, trivial⟩ ⟨rfl, rfl, rfl, rfl, rfl, rfl, rfl, rfl, trivial⟩ (IH11 _ (x21, (v10 ++ [x20.2])) (Nat.lt_succ_self _) h)
   ·intro N k5 v h IH5 J5
    obtain ⟨v3, v4⟩ := v
    try dsimp only at h IH5 J5 ⊢
    cases k5 with
    | zero => cases h
    | succ k5 =>
     rw [Zbs] at h
     refine Zj <| Zf ?_
     have hn28 := Z7h h
     refine AOps.consNext (encK := Z20) (encV := Z3) (rem := v3) I I I (fun hc => ?_) (fun xx26p x25 xx26q hc => ?_)
     ·have h := hn28.1 hc
      refine Z2 I (Z2g (vs := [(.bool false)]) (v := (.bool false)) I I I) I <| Zi <| Zh <| Zj ?_
      refine Z16 (b := false) I (fun hc => ?_) (fun hc => ?_)
      ·cases hc
      refine AWp.exit <| At.thru ?_
      exact Zy (st' := ⟨[(0, (.ptr 2000 0)), (2, (.ptr 2 0)), (4, (.ptr 4 0))], [(2, (.box [(.sl 4 [] true), (.sl 5 [] true)])), (4, (.box [(.vs 56), (.sl 5 [] true)])), (56, (.vec 4 (List.map Z3 v4))), (57, (.map (Zu Zl Z5 a2))), (59, (.fmap (Zu Z20 Z3 a1))), (2000, (.box [(.map 59), (.map 57), (.bool a0)]))]⟩) ⟨rfl, rfl, rfl, trivial⟩ ⟨rfl, rfl, rfl, rfl, rfl, rfl, trivial⟩ (J5 v4 h)
     ·have h := hn28.2 _ _ _ hc
      generalize xx26p ++ xx26q = x26 at h ⊢
      refine Z2 I (Z2g (vs := [(.bool true), .undef, .undef]) (v := (.bool true)) I I I) I <| Zi <| Zh <| Zj ?_
      refine Z16 (b := true) I (fun hc => ?_) (fun hc => ?_)
      rotate_left
      ·cases hc
      refine Z1b <| Zh <| AWp.block <| Zj <| Zf <| Z2 I (Z71 (k := x25.1) (v := x25.2) (encK := Z20) (encV := Z3) I I I) I <| Z2 I (Z2g (vs := [(.str x25.1), (Z3 x25.2)]) (v := (Z3 x25.2)) I I I) I <| Z2 I (Z1v (cs := [(.str []), (.int .i64 0), (.int .i64 0), (.int .i64 0)]) I z68 I I I) I ?_
      refine Z2 I (Z1e (cs := [(.str []), (.int .i64 0), (.int .i64 0), (.int .i64 0)]) (vs := (Z3 x25.2).cells) (ds := (Z3 x25.2).cells) (v := (Z3 x25.2)) sz68 I I I I I I I I) I <| Zi <| Zh <| Zf <| Z2 I (Zr (m := 4) (o := 0) I Z3v I I) I <| Z2 I (Zt (cs := [(.vs 56), (.sl 5 [] true)]) (v := (.vs 56)) I o41 I I I) I <| Z2 I (Z1l (cs := (Z3 x25.2).cells) (vs := (Z3 x25.2).cells) I a68 I I I I) I <| Z2 I (Z1m (vs := [(Z3 x25.2)]) (enc := Z3) (l := [x25.2]) I el41 I I ⟨rfl, trivial⟩ I Z1q I I I I) I ?_
      have ⟨hg27, h⟩ := Z13 h
      refine Z2 I (Z2p (m := 56) (enc := Z3) (l := v4) (l' := [x25.2]) (src := (.vs 35)) (rd := [(35, (.vec 4 (List.map Z3 [x25.2])))]) I I el41 I u41 I I I I (oneRead I) Z1q hg27) I <| Z2 I (Zr (m := 4) (o := 0) I Z3v I I) I <| Z2 I (Z1e (cs := [.undef, (.sl 5 [] true)]) (vs := [(.vs 56)]) (ds := [(.vs 56), (.sl 5 [] true)]) (v := (.vs 56)) sz41 I I I I I I I I) I <| Zi <| At.end <| At.ghost (st' := ⟨[(0, (.ptr 2000 0)), (2, (.ptr 2 0)), (4, (.ptr 4 0)), (27, (.itr 27))], [(2, (.box [(.sl 4 [] true), (.sl 5 [] true)])), (4, (.box [(.vs 56), (.sl 5 [] true)])), (27, (.iter none (Zu Z20 Z3 x26))), (56, (.vec 4 (List.map Z3 (v4 ++ [x25.2])))), (57, (.map (Zu Zl Z5 a2))), (59, (.fmap (Zu Z20 Z3 a1))), (2000, (.box [(.map 59), (.map 57), (.bool a0)]))]⟩) (fun a w h => (Z17 ⟨[(0, (.ptr 2000 0)), (2, (.ptr 2 0)), (4, (.ptr 4 0)), (27, (.itr 27))], [(2, (.box [(.sl 4 [] true), (.sl 5 [] true)])), (4, (.box [(.vs 56), (.sl 5 [] true)])), (27, (.iter none (Zu Z20 Z3 x26))), (56, (.vec 4 (List.map Z3 (v4 ++ [x25.2])))), (57, (.map (Zu Zl Z5 a2))), (59, (.fmap (Zu Z20 Z3 a1))), (2000, (.box [(.map 59), (.map 57), (.bool a0)]))]⟩ (Z4t (m := 27) a w (Z17 ⟨[(0, (.ptr 2000 0)), (2, (.ptr 2 0)), (4, (.ptr 4 0)), (27, (.itr 27))], [(27, (.iter (some (Z20 x25.1, Z3 x25.2)) (Zu Z20 Z3 x26))), (2, (.box [(.sl 4 [] true), (.sl 5 [] true)])), (4, (.box [(.vs 56), (.sl 5 [] true)])), (56, (.vec 4 (List.map Z3 (v4 ++ [x25.2])))), (57, (.map (Zu Zl Z5 a2))), (59, (.fmap (Zu Z20 Z3 a1))), (2000, (.box [(.map 59), (.map 57), (.bool a0)]))]⟩ h ⟨rfl, rfl, rfl, rfl, trivial⟩ ⟨rfl, rfl, rfl, rfl, rfl, rfl, rfl, trivial⟩)) ⟨rfl, rfl, rfl, rfl, trivial⟩ ⟨rfl, rfl, rfl, rfl, rfl, rfl, rfl, trivial⟩)) ?_
      exact Zy (st' := ⟨[(0, (.ptr 2000 0)), (2, (.ptr 2 0)), (4, (.ptr 4 0)), (27, (.itr 27))], [(2, (.box [(.sl 4 [] true), (.sl 5 [] true)])), (4, (.box [(.vs 56), (.sl 5 [] true)])), (27, (.iter none (Zu Z20 Z3 x26))), (56, (.vec 4 (List.map Z3 (v4 ++ [x25.2])))), (57, (.map (Zu Zl Z5 a2))), (59, (.fmap (Zu Z20 Z3 a1))), (2000, (.box [(.map 59), (.map 57), (.bool a0)]))]⟩) ⟨rfl, rfl, rfl, rfl, trivial⟩ ⟨rfl, rfl, rfl, rfl, rfl, rfl, rfl, trivial⟩ (IH5 _ (x26, (v4 ++ [x25.2])) (Nat.lt_succ_self _) h)
end Go.AM.TopZ
