/- What these functions compute, each with its walk: F46, F136, F168, F223, F166, F109, F68, F169, F110, F69, F170, F67, F227, F226, F225, F171, F173, F172, F137, F135, F138, F134, F92, F95, F94, F90, F91, F139, F93, F47, F49, F96, F48, F51, F50, F98, F59, F100, F52. -/
import Derived.Test.YtkhbjnkckblkjaaGreatTopZT
namespace Go.AM.TopZ
open Go Go.AM Go.Proofs
set_option maxRecDepth 100000
set_option maxHeartbeats 2000000
def F46 (K : Nat) : Option (Unit) :=
 some ()
theorem F46_ok (K : Nat) (r : Unit) (h : F46 K = some r) : ACall P 46 ⟨[], [], (.ptr 4 0), [(1, (.map (Z19 Z1f Z2 ([] : List (Str × Zd))))), (2, (.map (Z19 Zm Z3 ([] : List (Zq × Zl))))), (4, (.box [(.map 1), (.map 2), (.bool false)]))], [1, 2, 4]⟩ := by
 refine Z1p Tryz.func46 Tryz.results46 rfl Tryz.ntmps46 rfl rfl rfl ?_
 intro E Q hP hN hro hret
 obtain ⟨P', nt', w0, F0, p0, S0, β0, ro0⟩ := E
 simp only at hP hN
 subst hP hN
 dsimp only [argT]
 unfold F46 at h
 refine Zg <| Za <| Z1 I (Zi (v := .nilp) I I) I <| Ze <| Zf <| Zg <| Za <| Z1 I (Z8u I) I ?_
 refine Z1 I (Z8u I) I <| Z1 I (Z29 (vs := [(0, (.map 1)), (1, (.map 2))]) (cs := [(.map 1), (.map 2), (.bool false)]) I st181 ⟨rfl, rfl, rfl, rfl, trivial⟩ I) I <| Z1 I (Z2l (v := (.ag [(.map 1), (.map 2), (.bool false)])) (cs := [(.map 1), (.map 2), (.bool false)]) I I I I I) I <| Z1 I (Zi (v := (.ptr 4 0)) I I) I <| Ze <| Zf <| Z1a ?_
 have h := Option.some.inj h
 subst h
 refine (hret _ ?_).1
 exact ⟨[(.ptr 4 0)], ⟨rfl, trivial⟩, rfl, ⟨rfl, rfl, rfl, trivial⟩⟩
def F136 (K : Nat) (a0 : (List Zn)) : Option ((List Zn)) :=
 some a0
theorem F136_ok (K : Nat) (a0 : (List Zn)) (r : (List Zn)) (h : F136 K a0 = some r) : ACall P 136 ⟨[(.sl 14 (a0.map Zc) false)], [], (.clo 168 [(.ip [(.sl 14 (r.map Zc) false)])]), [], []⟩ := by
 refine Z1p Tryz.func136 Tryz.results136 rfl Tryz.ntmps136 rfl rfl rfl ?_
 intro E Q hP hN hro hret
 obtain ⟨P', nt', w0, F0, p0, S0, β0, ro0⟩ := E
 simp only at hP hN
 subst hP hN
 dsimp only [argT]
 unfold F136 at h
 refine Zg <| Za <| Z1 I (Z2l (v := (.sl 14 (a0.map Zc) false)) (cs := [(.sl 14 (a0.map Zc) false)]) I I I I I) I <| Z1 I (Zi (v := .nilf) I I) I <| Ze <| Zf <| Zg <| Za ?_
 refine Z1 I (Z92 (vs := [(.ptr 1 0)]) I ⟨rfl, trivial⟩) I <| Z1 I (Zi (v := (.clo 168 [(.ptr 1 0)])) I I) I <| Ze <| Zf <| Z1a <| At.ghost (st' := ⟨[(2, (.clo 168 [(.ip [(.sl 14 (a0.map Zc) false)])]))], []⟩) (fun a w h => (Z1c ⟨[(2, (.clo 168 [(.ip [(.sl 14 (a0.map Zc) false)])]))], []⟩ (Z4h (m := 1) (cs := [(.sl 14 (a0.map Zc) false)]) I a w (Z1c ⟨[(2, (.clo 168 [(.ptr 1 0)]))], [(1, (.box [(.sl 14 (a0.map Zc) false)]))]⟩ h ⟨rfl, trivial⟩ ⟨rfl, trivial⟩)) ⟨rfl, trivial⟩ trivial)) ?_
 have h := Option.some.inj h
 subst h
 refine (hret _ ?_).1
 exact ⟨[(.clo 168 [(.ip [(.sl 14 (a0.map Zc) false)])])], ⟨rfl, trivial⟩, rfl, trivial⟩
def F168_c5 (K : Nat) (v4 : (List Zn)) : Option ((List Zn)) :=
 some v4
def F168_l3 (K : Nat) (a1 : (List Zn)) (a899 : Zn → (List Zn) → Option ((List Zn))) (c6 : (List Zn) → Option ((List Zn))) : Nat → Int → (List Zn) → Option ((List Zn))
 | 0, _, _ => none
 | k3 + 1, v1, v2 =>
  if (decide (v1 < (a1.length : Int))) = true then
   if (0 : Int) ≤ v1 ∧ v1 < a1.length then
    (a899 (a1.getD v1.toNat Z6) v2).bind fun v9 =>
     (F168_l3 K a1 a899 c6 k3) (IntKind.i64.wrap (v1 + 1)) v9
   else none
  else
   c6 v2
def F168 (K : Nat) (a899 : Zn → (List Zn) → Option ((List Zn))) (a900 : (List Zn)) (a1 : (List Zn)) : Option ((List Zn)) :=
 F168_l3 K a1 a899 (F168_c5 K) K 0 a900
theorem F168_ok (K : Nat) (a899 : Zn → (List Zn) → Option ((List Zn))) (a900 : (List Zn)) (a1 : (List Zn)) (r : (List Zn)) (lr : Go.Loop) (h : F168 K a899 a900 a1 = some r) (hps : lr.params.size = 1) (hy : ∀ (x0 : Zn) (a900 : (List Zn)) (w : (List Zn)), a899 x0 a900 = some w → YCall P lr 1000 ⟨[(Zc x0)], [(1000, (.loop lr [2] [(.ptr 1001 0)])), (0, (.vec 14 (List.map Zc a900))), (1001, (.box [(.vs 0)]))], .bool true, [(1000, (.loop lr [2] [(.ptr 1001 0)])), (0, (.vec 14 (List.map Zc w))), (1001, (.box [(.vs 0)]))], [0]⟩) : ACall P 168 ⟨[(.yld 1000), (.ip [(.sl 14 (a1.map Zc) false)])], [(1000, (.loop lr [2] [(.ptr 1001 0)])), (0, (.vec 14 (List.map Zc a900))), (1001, (.box [(.vs 0)]))], .tup [], [(1000, (.loop lr [2] [(.ptr 1001 0)])), (0, (.vec 14 (List.map Zc r))), (1001, (.box [(.vs 0)]))], [0]⟩ := by
 refine Z1p Tryz.func168 Tryz.results168 rfl Tryz.ntmps168 rfl rfl rfl ?_
 intro E Q hP hN hro hret
 obtain ⟨P', nt', w0, F0, p0, S0, β0, ro0⟩ := E
 simp only at hP hN
 subst hP hN
 dsimp only [argT]
 unfold F168 at h
 refine Zg <| Za <| Z1 I (Z26 (cs := [(.sl 14 (a1.map Zc) false)]) (v := (.sl 14 (a1.map Zc) false)) I o37 I I) I <| Z1 I (Z24 (l := a1) (enc := Zc) I s37 I) I <| Z1 I (Zh (v := (.int .i64 0)) I I) I <| Ze <| Zf <| Z1t (st' := ⟨[(0, (.yld 1000)), (5, (.sl 14 (a1.map Zc) false)), (6, (.int .i64 (a1.length : Int))), (7, (.int .i64 0))], [(0, (.vec 14 (List.map Zc a900))), (1000, (.loop lr [2] [(.ptr 1001 0)])), (1001, (.box [(.vs 0)]))]⟩) ⟨rfl, rfl, rfl, rfl, trivial⟩ ⟨rfl, rfl, rfl, trivial⟩ ?_
 refine Z1h (V := Int × (List Zn)) (X := (List Zn)) (lp := fun k v => F168_l3 K a1 a899 (F168_c5 K) k v.1 v.2 = some r) (sh := fun v => ⟨[(0, (.yld 1000)), (5, (.sl 14 (a1.map Zc) false)), (6, (.int .i64 (a1.length : Int))), (7, (.int .i64 v.1))], [(0, (.vec 14 (List.map Zc v.2))), (1000, (.loop lr [2] [(.ptr 1001 0)])), (1001, (.box [(.vs 0)]))]⟩) (x := fun v => F168_c5 K v = some r) (shx := fun v => ⟨[], [(0, (.vec 14 (List.map Zc v))), (1000, (.loop lr [2] [(.ptr 1001 0)])), (1001, (.box [(.vs 0)]))]⟩) (k := K) (v := (0, a900)) h ?_ ?_
 ·intro v h
  revert h
  revert v
  intro v4 h
  try dsimp only at h ⊢
  unfold F168_c5 at h
  have h := Option.some.inj h
  subst h
  refine (hret _ ?_).2
  exact ⟨[], trivial, rfl, ⟨rfl, rfl, rfl, trivial⟩⟩
 ·intro N k3 v h IH3 J3
  obtain ⟨v1, v2⟩ := v
  try dsimp only at h IH3 J3 ⊢
  cases k3 with
  | zero => cases h
  | succ k3 =>
   rw [F168_l3] at h
   refine Zg <| Za <| Z1 I (Z1w (k := .i64) (a := v1) (b := (a1.length : Int)) (c := (decide (v1 < (a1.length : Int)))) I I I I) I <| Ze <| Zf <| Zg ?_
   have hif := Z1y h
   refine Z13 I (fun hc => ?_) (fun hc => ?_)
   ·have h := hif.1 hc
    refine Z16 <| Zf <| Zg <| AWp.block <| Zg <| Za ?_
    have ⟨hg8, h⟩ := Zv h
    refine Z1 I (Z1s (k := .i64) (l := a1) (enc := Zc) (z := Z6) (n := v1) (cs := (Zc (a1.getD v1.toNat Z6)).cells) (full := false) I s37 I I hg8 I) I <| Z1 I (Z2k (cs := (Zc (a1.getD v1.toNat Z6)).cells) (vs := (Zc (a1.getD v1.toNat Z6)).cells) I a56 I I I) I <| Z1 I (Z22 (cs := [(.int .i64 0), (.int .i64 0), (.int .i64 0), (.int .i64 0), (.int .i64 0), (.int .i64 0), (.str []), (.str []), (.str []), (.int .i64 0), (.int .i64 0), (.bool false), (.sl 4 [] false), (.sl 2 [] false)]) I z56 I I I) I <| Z1 I (Z1j (cs := [(.int .i64 0), (.int .i64 0), (.int .i64 0), (.int .i64 0), (.int .i64 0), (.int .i64 0), (.str []), (.str []), (.str []), (.int .i64 0), (.int .i64 0), (.bool false), (.sl 4 [] false), (.sl 2 [] false)]) (vs := (Zc (a1.getD v1.toNat Z6)).cells) (ds := (Zc (a1.getD v1.toNat Z6)).cells) (v := (Zc (a1.getD v1.toNat Z6))) sz56 I I I I I I I I) I <| Ze <| Zf <| Zg <| Za ?_
    refine Z1 I (Zh (v := (.yld 1000)) I I) I <| Z1 I (Z1q (cs := (Zc (a1.getD v1.toNat Z6)).cells) (vs := (Zc (a1.getD v1.toNat Z6)).cells) I a56 I I I I) I ?_
    have ⟨v9, hv9, h⟩ := Z1g h
    refine Z1 I (st_yield (d := some 13) (ks := [2]) (vs := [(.ptr 1001 0)]) (c := ⟨[(Zc (a1.getD v1.toNat Z6))], [(1000, (.loop lr [2] [(.ptr 1001 0)])), (0, (.vec 14 (List.map Zc v2))), (1001, (.box [(.vs 0)]))], .bool true, [(1000, (.loop lr [2] [(.ptr 1001 0)])), (0, (.vec 14 (List.map Zc v9))), (1001, (.box [(.vs 0)]))], [0]⟩) (ar := [(Zc (a1.getD v1.toNat Z6))]) (news := []) (forg := [0]) (hy (a1.getD v1.toNat Z6) v2 _ hv9) I hps I I ⟨rfl, trivial⟩ I ⟨rfl, rfl, rfl, trivial⟩ I) I <| Z1 I (Z86 (b := true) I I) I <| Ze <| Zf ?_
    refine Z13 (b := false) I (fun hc => ?_) (fun hc => ?_)
    ·cases hc
    refine Z16 <| At.end <| Zf <| Za <| Z1 I (Z1n (k := .i64) (a := v1) (b := 1) (c := (IntKind.i64.wrap (v1 + 1))) I I I I) I <| Z1 I (Zh (v := (.int .i64 (IntKind.i64.wrap (v1 + 1)))) I I) I <| Ze ?_
    exact Zw (st' := ⟨[(0, (.yld 1000)), (5, (.sl 14 (a1.map Zc) false)), (6, (.int .i64 (a1.length : Int))), (7, (.int .i64 (IntKind.i64.wrap (v1 + 1))))], [(0, (.vec 14 (List.map Zc v9))), (1000, (.loop lr [2] [(.ptr 1001 0)])), (1001, (.box [(.vs 0)]))]⟩) ⟨rfl, rfl, rfl, rfl, trivial⟩ ⟨rfl, rfl, rfl, trivial⟩ (IH3 _ ((IntKind.i64.wrap (v1 + 1)), v9) (Nat.lt_succ_self _) h)
   ·have h := hif.2 hc
    refine AWp.exit <| At.thru ?_
    exact Zw (st' := ⟨[], [(0, (.vec 14 (List.map Zc v2))), (1000, (.loop lr [2] [(.ptr 1001 0)])), (1001, (.box [(.vs 0)]))]⟩) trivial ⟨rfl, rfl, rfl, trivial⟩ (J3 v2 h)
def F223_y4 (K : Nat) (x2 : Zn) (v1 : (List Zn)) : Option ((List Zn)) :=
 if v1.length + [x2].length ≤ 1073741824 then
  some (v1 ++ [x2])
 else none
def F223 (K : Nat) (a100 : (List Zn)) : Option ((List Zn)) :=
 (F168 K (F223_y4 K) [] a100).bind fun v5 =>
  some v5
theorem F223_ok (K : Nat) (a100 : (List Zn)) (r : (List Zn)) (h : F223 K a100 = some r) : ACall P 223 ⟨[(.sl 14 [] true), (.clo 168 [(.ip [(.sl 14 (a100.map Zc) false)])])], [], .vs 4, [(4, .vec 14 (List.map Zc r))], [4]⟩ := by
 refine Z1p Tryz.func223 Tryz.results223 rfl Tryz.ntmps223 rfl rfl rfl ?_
 intro E Q hP hN hro hret
 obtain ⟨P', nt', w0, F0, p0, S0, β0, ro0⟩ := E
 simp only at hP hN
 subst hP hN
 dsimp only [argT]
 unfold F223 at h
 refine Zg <| Za <| Z1 I (Z2l (v := (.sl 14 [] true)) (cs := [(.sl 14 [] true)]) I I I I I) I <| Z1 I (Zi (v := (.sl 14 [] false)) I I) I <| Ze <| Zf <| Zg <| Zg ?_
 refine Za <| Z1 I (Zh (v := (.clo 168 [(.ip [(.sl 14 (a100.map Zc) false)])])) I I) I <| Ze <| Zf <| AWp.block <| AWp.ghost (st' := ⟨[(2, (.ptr 2 0)), (6, (.clo 168 [(.ip [(.sl 14 (a100.map Zc) false)])]))], [(2, (.box [(.vs 12)])), (12, (.vec 14 (List.map Zc ([] : List Zn))))]⟩) (fun a w h => (Z1c ⟨[(2, (.ptr 2 0)), (6, (.clo 168 [(.ip [(.sl 14 (a100.map Zc) false)])]))], [(2, (.box [(.vs 12)])), (12, (.vec 14 (List.map Zc ([] : List Zn))))]⟩ (Z8l (n := 2) (m := 12) (sz := 14) (j := 0) I I I a w (Z1c ⟨[(2, (.ptr 2 0)), (6, (.clo 168 [(.ip [(.sl 14 (a100.map Zc) false)])]))], [(2, (.box [(.sl 14 [] true)]))]⟩ h ⟨rfl, rfl, trivial⟩ ⟨rfl, trivial⟩)) ⟨rfl, rfl, trivial⟩ ⟨rfl, rfl, trivial⟩)) ?_
 have ⟨v5, hv5, h⟩ := Z1g h
 refine Z1t (st' := ⟨[(2, (.ptr 2 0)), (6, (.clo 168 [(.ip [(.sl 14 (a100.map Zc) false)])]))], [(2, (.box [(.vs 12)])), (12, (.vec 14 (List.map Zc [])))]⟩) ⟨rfl, rfl, trivial⟩ ⟨rfl, rfl, trivial⟩ ?_
 refine AWp.rangeFunc (n := 1) (f := 168) (caps := [(.ip [(.sl 14 (a100.map Zc) false)])]) (ks := [2]) (vs := [(.ptr 2 0)]) (ins := [(12, (.vec 14 (List.map Zc []))), (2, (.box [(.vs 12)]))]) (outs := [(12, (.vec 14 (List.map Zc v5))), (2, (.box [(.vs 12)]))]) (res := .tup []) (mv := [12]) (forg := [12]) (jump := none) hro Tryz.call168 I I I I ⟨rfl, trivial⟩ ⟨rfl, rfl, trivial⟩ I I I I (fun lr hst hpe hpr has hbd hsz => ?_) (fun _ => ?_) (fun c hc => by cases hc)
 ·have hend := endRec_self hst hpe
  rw [hend]
  have hps : lr.params.size = 1 ∧ True := ⟨by rw [hpr]; rfl, trivial⟩
  have hy : ∀ (x2 : Zn) (v1 : (List Zn)) (w : (List Zn)), F223_y4 K x2 v1 = some w → YCall P lr 1000 ⟨[(Zc x2)], [(1000, .loop lr [2] [(.ptr 1001 0)]), (0, (.vec 14 (List.map Zc v1))), (1001, (.box [(.vs 0)]))], .bool true, [(1000, .loop lr [2] [(.ptr 1001 0)]), (0, (.vec 14 (List.map Zc w))), (1001, (.box [(.vs 0)]))], [0]⟩ := by
   intro x2 v1 w h
   unfold F223_y4 at h
   refine ycall_of (ks := [2]) (vs := [(.ptr 1001 0)]) (ps := [7]) rfl hst hsz hpr rfl (by decide) rfl rfl rfl ?_
   intro E Qa Qb hP hN hmid hfin
   obtain ⟨P', nt', w0, F0, p0, S0, β0, ro0⟩ := E
   simp only at hP hN
   subst hP hN
   refine AWp.code has ?_
   dsimp only [List.zip, List.zipWith, List.cons_append, List.nil_append]
   refine Za <| Z1 I (Z22 (cs := [(.int .i64 0), (.int .i64 0), (.int .i64 0), (.int .i64 0), (.int .i64 0), (.int .i64 0), (.str []), (.str []), (.str []), (.int .i64 0), (.int .i64 0), (.bool false), (.sl 4 [] false), (.sl 2 [] false)]) I z56 I I I) I <| Z1 I (Z1j (cs := [(.int .i64 0), (.int .i64 0), (.int .i64 0), (.int .i64 0), (.int .i64 0), (.int .i64 0), (.str []), (.str []), (.str []), (.int .i64 0), (.int .i64 0), (.bool false), (.sl 4 [] false), (.sl 2 [] false)]) (vs := (Zc x2).cells) (ds := (Zc x2).cells) (v := (Zc x2)) sz56 I I I I I I I I) I <| Ze ?_
   refine hmid _ _ _ rfl ?_
   refine AWp.code hbd <| AWp.block <| Za <| Z1 I (Zu (cs := [(.vs 0)]) (v := (.vs 0)) I o37 I I I) I <| Z1 I (Z1q (cs := (Zc x2).cells) (vs := (Zc x2).cells) I a56 I I I I) I <| Z1 I (Z1d (vs := [(Zc x2)]) (enc := Zc) (l := [x2]) I el37 I I ⟨rfl, trivial⟩ I Z2x I I I I) I ?_
   have ⟨hg3, h⟩ := Zv h
   refine Z1 I (Z2g (m := 0) (enc := Zc) (l := v1) (l' := [x2]) (src := (.vs 10)) (rd := [(10, (.vec 14 (List.map Zc [x2])))]) I I el37 I u37 I I I I (oneRead I) Z2x hg3) I <| Z1 I (Z1j (cs := [.undef]) (vs := [(.vs 0)]) (ds := [(.vs 0)]) (v := (.vs 0)) sz37 I I I I I I I I) I <| Ze <| At.end ?_
   have h := Option.some.inj h
   subst h
   refine hfin _ _ _ none .normal rfl rfl rfl ?_
   rw [hend]
   exact ⟨rfl, rfl, rfl, trivial⟩
  exact (((F168_ok K (F223_y4 K) [] a100 v5 lr hv5 hps.1 hy).sw 1000 1).sw 0 12).sw 1001 2
 ·refine Zw (st' := ⟨[(2, (.ptr 2 0)), (6, (.clo 168 [(.ip [(.sl 14 (a100.map Zc) false)])]))], [(2, (.box [(.vs 12)])), (12, (.vec 14 (List.map Zc v5)))]⟩) ⟨rfl, rfl, trivial⟩ ⟨rfl, rfl, trivial⟩ <| At.end <| Zf <| Zg <| Za <| Z1 I (Zu (cs := [(.vs 12)]) (v := (.vs 12)) I o37 I I I) I <| Z1 I (Zi (v := (.vs 12)) I I) I <| Ze ?_
  refine Zf <| Z1a <| At.ghost (st' := ⟨[(4, (.vs 4))], [(4, (.vec 14 (List.map Zc v5)))]⟩) (fun a w h => (Z1c ⟨[(4, (.vs 4))], [(4, (.vec 14 (List.map Zc v5)))]⟩ (Z42 (a := 12) (b := 4) I I a w (Z1c ⟨[(4, (.vs 12))], [(12, (.vec 14 (List.map Zc v5)))]⟩ h ⟨rfl, trivial⟩ ⟨rfl, trivial⟩)) ⟨rfl, trivial⟩ ⟨rfl, trivial⟩)) ?_
  have h := Option.some.inj h
  subst h
  refine (hret _ ?_).1
  exact ⟨[(.vs 4)], ⟨rfl, trivial⟩, rfl, ⟨rfl, trivial⟩⟩
def F166 (K : Nat) (a000 : (List Zn)) : Option ((List Zn)) :=
 (F223 K a000).bind fun v2 =>
  some v2
theorem F166_ok (K : Nat) (a000 : (List Zn)) (r : (List Zn)) (h : F166 K a000 = some r) : ACall P 166 ⟨[(.clo 168 [(.ip [(.sl 14 (a000.map Zc) false)])])], [], .vs 2, [(2, .vec 14 (List.map Zc r))], [2]⟩ := by
 refine Z1p Tryz.func166 Tryz.results166 rfl Tryz.ntmps166 rfl rfl rfl ?_
 intro E Q hP hN hro hret
 obtain ⟨P', nt', w0, F0, p0, S0, β0, ro0⟩ := E
 simp only at hP hN
 subst hP hN
 dsimp only [argT]
 unfold F166 at h
 refine Zg <| Za <| Z1 I (Zi (v := (.sl 14 [] false)) I I) I <| Ze <| Zf <| Zg <| Za <| Z1 I (Zh (v := (.clo 168 [(.ip [(.sl 14 (a000.map Zc) false)])])) I I) I ?_
 have ⟨v2, hv2, h⟩ := Z1g h
 refine Z1 I (Z9k (sz := 14) (es := (List.map Zc v2)) (ar := [(.sl 14 [] true), (.clo 168 [(.ip [(.sl 14 (a000.map Zc) false)])])]) (caps := []) Tryz.call223 ((F223_ok K a000 v2 hv2).sw 4 4) I I ⟨rfl, rfl, trivial⟩ I) I <| Z1 I (Zi (v := (.vs 4)) I I) I <| Ze <| Zf <| Z1a <| At.ghost (st' := ⟨[(2, (.vs 2))], [(2, (.vec 14 (List.map Zc v2)))]⟩) (fun a w h => (Z1c ⟨[(2, (.vs 2))], [(2, (.vec 14 (List.map Zc v2)))]⟩ (Z42 (a := 4) (b := 2) I I a w (Z1c ⟨[(2, (.vs 4))], [(4, (.vec 14 (List.map Zc v2)))]⟩ h ⟨rfl, trivial⟩ ⟨rfl, trivial⟩)) ⟨rfl, trivial⟩ ⟨rfl, trivial⟩)) ?_
 have h := Option.some.inj h
 subst h
 refine (hret _ ?_).1
 exact ⟨[(.vs 2)], ⟨rfl, trivial⟩, rfl, ⟨rfl, trivial⟩⟩
def F109 (K : Nat) (a0 : Int) : Option (Bool) :=
 some (a0 != a0)
theorem F109_ok (K : Nat) (a0 : Int) (r : Bool) (h : F109 K a0 = some r) : ACall P 109 ⟨[(.int .i64 a0)], [], (.bool r), [], []⟩ := by
 refine Z1p Tryz.func109 Tryz.results109 rfl Tryz.ntmps109 rfl rfl rfl ?_
 intro E Q hP hN hro hret
 obtain ⟨P', nt', w0, F0, p0, S0, β0, ro0⟩ := E
 simp only at hP hN
 subst hP hN
 dsimp only [argT]
 unfold F109 at h
 refine Zg <| Za <| Z1 I (Zi (v := (.bool false)) I I) I <| Ze <| Zf <| Zg <| Za <| Z1 I (Zh (v := (.int .i64 a0)) I I) I ?_
 refine Z1 I (Zh (v := (.int .i64 a0)) I I) I <| Z1 I (Z1w (k := .i64) (a := a0) (b := a0) (c := (a0 != a0)) I I I I) I <| Z1 I (Zi (v := (.bool (a0 != a0))) I I) I <| Ze <| Zf <| Z1a ?_
 have h := Option.some.inj h
 subst h
 refine (hret _ ?_).1
 exact ⟨[(.bool (a0 != a0))], ⟨rfl, trivial⟩, rfl, trivial⟩
def F68 (K : Nat) (a0 : Int) (a1 : Int) : Option (Int) :=
 (F109 K a0).bind fun v2 =>
  (F109 K a1).bind fun v4 =>
   if v2 = true then
    if v4 = true then
     some 0
    else
     some (Int.negSucc 0)
   else
    if v4 = true then
     some 1
    else
     if (decide (a0 < a1)) = true then
      some (Int.negSucc 0)
     else
      if (decide (a0 > a1)) = true then
       some 1
      else
       some 0
theorem Z9q (K : Nat) (a0 : Int) (a1 : Int) (r : Int) (h : F68 K a0 a1 = some r) : ACall P 68 ⟨[(.int .i64 a0), (.int .i64 a1)], [], (.int .i64 r), [], []⟩ := by
 refine Z1p Tryz.func68 Tryz.results68 rfl Tryz.ntmps68 rfl rfl rfl ?_
 intro E Q hP hN hro hret
 obtain ⟨P', nt', w0, F0, p0, S0, β0, ro0⟩ := E
 simp only at hP hN
 subst hP hN
 dsimp only [argT]
 unfold F68 at h
 refine Zg <| Za <| Z1 I (Zi (v := (.int .i64 0)) I I) I <| Ze <| Zf <| Zg <| Za <| Z1 I (Zh (v := (.int .i64 a0)) I I) I ?_
 have ⟨v2, hv2, h⟩ := Z1g h
 refine Z1 I (Z1i (ar := [(.int .i64 a0)]) (caps := []) Tryz.call109 (F109_ok K a0 v2 hv2) I I ⟨rfl, trivial⟩ I) I <| Z1 I (Zi (v := (.bool v2)) I I) I <| Ze <| Zf <| Zg <| Za <| Z1 I (Zh (v := (.int .i64 a1)) I I) I ?_
 have ⟨v4, hv4, h⟩ := Z1g h
 refine Z1 I (Z1i (ar := [(.int .i64 a1)]) (caps := []) Tryz.call109 (F109_ok K a1 v4 hv4) I I ⟨rfl, trivial⟩ I) I <| Z1 I (Zi (v := (.bool v4)) I I) I <| Ze <| Zf <| Zg <| Zg <| Za <| Z1 I (Zh (v := (.bool v2)) I I) I ?_
 refine Ze <| Zf ?_
 have hif := Z1y h
 refine Z13 I (fun hc => ?_) (fun hc => ?_)
 ·have h := hif.1 hc
  refine Zg <| Zg <| Za <| Z1 I (Zh (v := (.bool v4)) I I) I <| Ze <| Zf ?_
  have hif := Z1y h
  refine Z13 I (fun hc => ?_) (fun hc => ?_)
  ·have h := hif.1 hc
   refine Zg <| Za <| Z1 I (Zi (v := (.int .i64 0)) I I) I <| Ze <| Zf <| Z1a <| Z1b <| Z1b ?_
   have h := Option.some.inj h
   subst h
   refine (hret _ ?_).1
   exact ⟨[(.int .i64 0)], ⟨rfl, trivial⟩, rfl, trivial⟩
  ·have h := hif.2 hc
   refine Z16 <| Zf <| Zg <| Za <| Z1 I (Zi (v := (.int .i64 (Int.negSucc 0))) I I) I <| Ze <| Zf <| Z1a ?_
   refine Z1b ?_
   have h := Option.some.inj h
   subst h
   refine (hret _ ?_).1
   exact ⟨[(.int .i64 (Int.negSucc 0))], ⟨rfl, trivial⟩, rfl, trivial⟩
 ·have h := hif.2 hc
  refine Z16 <| Zf <| Zg <| Zg <| Za <| Z1 I (Zh (v := (.bool v4)) I I) I <| Ze <| Zf ?_
  have hif := Z1y h
  refine Z13 I (fun hc => ?_) (fun hc => ?_)
  ·have h := hif.1 hc
   refine Zg <| Za <| Z1 I (Zi (v := (.int .i64 1)) I I) I <| Ze <| Zf <| Z1a <| Z1b ?_
   have h := Option.some.inj h
   subst h
   refine (hret _ ?_).1
   exact ⟨[(.int .i64 1)], ⟨rfl, trivial⟩, rfl, trivial⟩
  ·have h := hif.2 hc
   refine Z16 <| Zf <| Zg <| Zg <| Za <| Z1 I (Zh (v := (.int .i64 a0)) I I) I <| Z1 I (Zh (v := (.int .i64 a1)) I I) I <| Z1 I (Z1w (k := .i64) (a := a0) (b := a1) (c := (decide (a0 < a1))) I I I I) I ?_
   refine Ze <| Zf ?_
   have hif := Z1y h
   refine Z13 I (fun hc => ?_) (fun hc => ?_)
   ·have h := hif.1 hc
    refine Zg <| Za <| Z1 I (Zi (v := (.int .i64 (Int.negSucc 0))) I I) I <| Ze <| Zf <| Z1a <| Z1b ?_
    have h := Option.some.inj h
    subst h
    refine (hret _ ?_).1
    exact ⟨[(.int .i64 (Int.negSucc 0))], ⟨rfl, trivial⟩, rfl, trivial⟩
   ·have h := hif.2 hc
    refine Z16 <| Zf <| Zg <| Zg <| Za <| Z1 I (Zh (v := (.int .i64 a0)) I I) I <| Z1 I (Zh (v := (.int .i64 a1)) I I) I <| Z1 I (Z1w (k := .i64) (a := a0) (b := a1) (c := (decide (a0 > a1))) I I I I) I ?_
    refine Ze <| Zf ?_
    have hif := Z1y h
    refine Z13 I (fun hc => ?_) (fun hc => ?_)
    ·have h := hif.1 hc
     refine Zg <| Za <| Z1 I (Zi (v := (.int .i64 1)) I I) I <| Ze <| Zf <| Z1a <| Z1b ?_
     have h := Option.some.inj h
     subst h
     refine (hret _ ?_).1
     exact ⟨[(.int .i64 1)], ⟨rfl, trivial⟩, rfl, trivial⟩
    ·have h := hif.2 hc
     refine Z16 <| Zf <| Zg <| Za <| Z1 I (Zi (v := (.int .i64 0)) I I) I <| Ze <| Zf <| Z1a ?_
     have h := Option.some.inj h
     subst h
     refine (hret _ ?_).1
     exact ⟨[(.int .i64 0)], ⟨rfl, trivial⟩, rfl, trivial⟩
def F169_c3 (K : Nat) (a0 : (List Int)) (a1 : (List Int)) : Option (Int) :=
 if (decide ((a0.length : Int) < (a1.length : Int))) = true then
  some (Int.negSucc 0)
 else
  some 0
def F169_l2 (K : Nat) (a0 : (List Int)) (a1 : (List Int)) (c4 : Option (Int)) : Nat → Int → Option (Int)
 | 0, _ => none
 | k2 + 1, v1 =>
  if (decide (v1 < (a0.length : Int))) = true then
   if (0 : Int) ≤ v1 ∧ v1 < a0.length then
    if (decide (v1 ≥ (a1.length : Int))) = true then
     some 1
    else
     if (0 : Int) ≤ v1 ∧ v1 < a1.length then
      (F68 K (a0.getD v1.toNat 0) (a1.getD v1.toNat 0)).bind fun v9 =>
       if (v9 != 0) = true then
        some v9
       else
        (F169_l2 K a0 a1 c4 k2) (IntKind.i64.wrap (v1 + 1))
     else none
   else none
  else
   c4
def F169 (K : Nat) (a0 : (List Int)) (a1 : (List Int)) : Option (Int) :=
 F169_l2 K a0 a1 (F169_c3 K a0 a1) K 0
theorem F169_ok (K : Nat) (a0 : (List Int)) (a1 : (List Int)) (r : Int) (h : F169 K a0 a1 = some r) : ACall P 169 ⟨[(.sl 1 (a0.map Z15) false), (.sl 1 (a1.map Z15) false)], [], (.int .i64 r), [], []⟩ := by
 refine Z1p Tryz.func169 Tryz.results169 rfl Tryz.ntmps169 rfl rfl rfl ?_
 intro E Q hP hN hro hret
 obtain ⟨P', nt', w0, F0, p0, S0, β0, ro0⟩ := E
 simp only at hP hN
 subst hP hN
 dsimp only [argT]
 unfold F169 at h
 refine Zg <| Za <| Z1 I (Zi (v := (.int .i64 0)) I I) I <| Ze <| Zf <| Zg <| Zg <| Za ?_
 refine Z1 I (Zh (v := (.sl 1 (a0.map Z15) false)) I I) I <| Z1 I (Z24 (l := a0) (enc := Z15) I s65 I) I <| Z1 I (Zh (v := (.int .i64 0)) I I) I <| Ze <| Zf <| Z1t (st' := ⟨[(0, (.sl 1 (a0.map Z15) false)), (1, (.sl 1 (a1.map Z15) false)), (9, (.sl 1 (a0.map Z15) false)), (10, (.int .i64 (a0.length : Int))), (11, (.int .i64 0))], []⟩) ⟨rfl, rfl, rfl, rfl, rfl, trivial⟩ trivial ?_
 refine Z1h (V := Int) (X := Unit) (lp := fun k v => F169_l2 K a0 a1 (F169_c3 K a0 a1) k v = some r) (sh := fun v => ⟨[(0, (.sl 1 (a0.map Z15) false)), (1, (.sl 1 (a1.map Z15) false)), (9, (.sl 1 (a0.map Z15) false)), (10, (.int .i64 (a0.length : Int))), (11, (.int .i64 v))], []⟩) (x := fun v => F169_c3 K a0 a1 = some r) (shx := fun v => ⟨[(0, (.sl 1 (a0.map Z15) false)), (1, (.sl 1 (a1.map Z15) false))], []⟩) (k := K) (v := 0) h ?_ ?_
 ·intro v h
  try dsimp only at h ⊢
  unfold F169_c3 at h
  refine Zf <| Zg <| Zg <| Za <| Z1 I (Zh (v := (.sl 1 (a0.map Z15) false)) I I) I <| Z1 I (Z24 (l := a0) (enc := Z15) I s65 I) I <| Z1 I (Zh (v := (.sl 1 (a1.map Z15) false)) I I) I <| Z1 I (Z24 (l := a1) (enc := Z15) I s65 I) I ?_
  refine Z1 I (Z1w (k := .i64) (a := (a0.length : Int)) (b := (a1.length : Int)) (c := (decide ((a0.length : Int) < (a1.length : Int)))) I I I I) I <| Ze <| Zf ?_
  have hif := Z1y h
  refine Z13 I (fun hc => ?_) (fun hc => ?_)
  ·have h := hif.1 hc
   refine Zg <| Za <| Z1 I (Zi (v := (.int .i64 (Int.negSucc 0))) I I) I <| Ze <| Zf <| Z1a <| Z1b ?_
   have h := Option.some.inj h
   subst h
   refine (hret _ ?_).1
   exact ⟨[(.int .i64 (Int.negSucc 0))], ⟨rfl, trivial⟩, rfl, trivial⟩
  ·have h := hif.2 hc
   refine Z16 <| Zf <| Zg <| Za <| Z1 I (Zi (v := (.int .i64 0)) I I) I <| Ze <| Zf <| Z1a ?_
   have h := Option.some.inj h
   subst h
   refine (hret _ ?_).1
   exact ⟨[(.int .i64 0)], ⟨rfl, trivial⟩, rfl, trivial⟩
 ·intro N k2 v h IH2 J2
  revert h
  revert v
  intro v1 h
  try dsimp only at h IH2 J2 ⊢
  cases k2 with
  | zero => cases h
  | succ k2 =>
   rw [F169_l2] at h
   refine Zg <| Za <| Z1 I (Z1w (k := .i64) (a := v1) (b := (a0.length : Int)) (c := (decide (v1 < (a0.length : Int)))) I I I I) I <| Ze <| Zf <| Zg ?_
   have hif := Z1y h
   refine Z13 I (fun hc => ?_) (fun hc => ?_)
   ·have h := hif.1 hc
    refine Z16 <| Zf <| Zg <| AWp.block <| Zg <| Za <| Z1 I (Zh (v := (.int .i64 v1)) I I) I ?_
    have ⟨hg6, h⟩ := Zv h
    refine Z1 I (Z1s (k := .i64) (l := a0) (enc := Z15) (z := 0) (n := v1) (cs := [(.int .i64 (a0.getD v1.toNat 0))]) (full := false) I s65 I I hg6 I) I <| Z1 I (Z26 (cs := [(.int .i64 (a0.getD v1.toNat 0))]) (v := (.int .i64 (a0.getD v1.toNat 0))) I o3 I I) I <| Z1 I (Zi (v := (.int .i64 v1)) I I) I <| Z1 I (Zi (v := (.int .i64 (a0.getD v1.toNat 0))) I I) I <| Ze <| Zf <| Zg <| Zg ?_
    refine Za <| Z1 I (Zh (v := (.int .i64 v1)) I I) I <| Z1 I (Zh (v := (.sl 1 (a1.map Z15) false)) I I) I <| Z1 I (Z24 (l := a1) (enc := Z15) I s65 I) I <| Z1 I (Z1w (k := .i64) (a := v1) (b := (a1.length : Int)) (c := (decide (v1 ≥ (a1.length : Int)))) I I I I) I <| Ze <| Zf ?_
    have hif := Z1y h
    refine Z13 I (fun hc => ?_) (fun hc => ?_)
    ·have h := hif.1 hc
     refine Zg <| Za <| Z1 I (Zi (v := (.int .i64 1)) I I) I <| Ze <| Zf <| Z1a <| Z1b <| At.overR ?_
     refine Z1b ?_
     refine Z1b (At.overR ?_)
     refine Z1b ?_
     have h := Option.some.inj h
     subst h
     refine (hret _ ?_).1
     exact ⟨[(.int .i64 1)], ⟨rfl, trivial⟩, rfl, trivial⟩
    ·have h := hif.2 hc
     refine Z16 <| Zf <| Zg <| Za <| Z1 I (Zh (v := (.sl 1 (a1.map Z15) false)) I I) I <| Z1 I (Zh (v := (.int .i64 v1)) I I) I ?_
     have ⟨hg7, h⟩ := Zv h
     refine Z1 I (Z1s (k := .i64) (l := a1) (enc := Z15) (z := 0) (n := v1) (cs := [(.int .i64 (a1.getD v1.toNat 0))]) (full := false) I s65 I I hg7 I) I <| Z1 I (Z26 (cs := [(.int .i64 (a1.getD v1.toNat 0))]) (v := (.int .i64 (a1.getD v1.toNat 0))) I o3 I I) I <| Z1 I (Zi (v := (.int .i64 (a1.getD v1.toNat 0))) I I) I <| Ze <| Zf <| Zg <| Za <| Z1 I (Zh (v := (.int .i64 (a0.getD v1.toNat 0))) I I) I ?_
     refine Z1 I (Zh (v := (.int .i64 (a1.getD v1.toNat 0))) I I) I ?_
     have ⟨v9, hv9, h⟩ := Z1g h
     refine Z1 I (Z1i (ar := [(.int .i64 (a0.getD v1.toNat 0)), (.int .i64 (a1.getD v1.toNat 0))]) (caps := []) Tryz.call68 (Z9q K (a0.getD v1.toNat 0) (a1.getD v1.toNat 0) v9 hv9) I I ⟨rfl, rfl, trivial⟩ I) I <| Z1 I (Zi (v := (.int .i64 v9)) I I) I <| Ze <| Zf <| Zg <| Za <| Z1 I (Zh (v := (.int .i64 v9)) I I) I <| Z1 I (Z1w (k := .i64) (a := v9) (b := 0) (c := (v9 != 0)) I I I I) I ?_
     refine Ze <| Zf ?_
     have hif := Z1y h
     refine Z13 I (fun hc => ?_) (fun hc => ?_)
     ·have h := hif.1 hc
      refine Zg <| Za <| Z1 I (Zh (v := (.int .i64 v9)) I I) I <| Z1 I (Zi (v := (.int .i64 v9)) I I) I <| Ze <| Zf <| Z1a <| At.overR ?_
      refine Z1b ?_
      refine Z1b (At.overR ?_)
      refine Z1b ?_
      have h := Option.some.inj h
      subst h
      refine (hret _ ?_).1
      exact ⟨[(.int .i64 v9)], ⟨rfl, trivial⟩, rfl, trivial⟩
     ·have h := hif.2 hc
      refine Z16 <| At.end <| Zf <| Za <| Z1 I (Z1n (k := .i64) (a := v1) (b := 1) (c := (IntKind.i64.wrap (v1 + 1))) I I I I) I <| Z1 I (Zh (v := (.int .i64 (IntKind.i64.wrap (v1 + 1)))) I I) I <| Ze ?_
      exact Zw (st' := ⟨[(0, (.sl 1 (a0.map Z15) false)), (1, (.sl 1 (a1.map Z15) false)), (9, (.sl 1 (a0.map Z15) false)), (10, (.int .i64 (a0.length : Int))), (11, (.int .i64 (IntKind.i64.wrap (v1 + 1))))], []⟩) ⟨rfl, rfl, rfl, rfl, rfl, trivial⟩ trivial (IH2 _ (IntKind.i64.wrap (v1 + 1)) (Nat.lt_succ_self _) h)
   ·have h := hif.2 hc
    refine AWp.exit <| At.thru ?_
    exact Zw (st' := ⟨[(0, (.sl 1 (a0.map Z15) false)), (1, (.sl 1 (a1.map Z15) false))], []⟩) ⟨rfl, rfl, trivial⟩ trivial (J2 () h)
def F110 (K : Nat) (a0 : Str) : Option (Bool) :=
 some (!(a0 == a0))
theorem F110_ok (K : Nat) (a0 : Str) (r : Bool) (h : F110 K a0 = some r) : ACall P 110 ⟨[(.str a0)], [], (.bool r), [], []⟩ := by
 refine Z1p Tryz.func110 Tryz.results110 rfl Tryz.ntmps110 rfl rfl rfl ?_
 intro E Q hP hN hro hret
 obtain ⟨P', nt', w0, F0, p0, S0, β0, ro0⟩ := E
 simp only at hP hN
 subst hP hN
 dsimp only [argT]
 unfold F110 at h
 refine Zg <| Za <| Z1 I (Zi (v := (.bool false)) I I) I <| Ze <| Zf <| Zg <| Za <| Z1 I (Zh (v := (.str a0)) I I) I ?_
 refine Z1 I (Zh (v := (.str a0)) I I) I <| Z1 I (Z2z (a := a0) (b := a0) (c := (!(a0 == a0))) I I I I) I <| Z1 I (Zi (v := (.bool (!(a0 == a0)))) I I) I <| Ze <| Zf <| Z1a ?_
 have h := Option.some.inj h
 subst h
 refine (hret _ ?_).1
 exact ⟨[(.bool (!(a0 == a0)))], ⟨rfl, trivial⟩, rfl, trivial⟩
def F69 (K : Nat) (a0 : Str) (a1 : Str) : Option (Int) :=
 (F110 K a0).bind fun v2 =>
  (F110 K a1).bind fun v4 =>
   if v2 = true then
    if v4 = true then
     some 0
    else
     some (Int.negSucc 0)
   else
    if v4 = true then
     some 1
    else
     if (slt a0 a1) = true then
      some (Int.negSucc 0)
     else
      if (!(slt a0 a1 || a0 == a1)) = true then
       some 1
      else
       some 0
theorem Z83 (K : Nat) (a0 : Str) (a1 : Str) (r : Int) (h : F69 K a0 a1 = some r) : ACall P 69 ⟨[(.str a0), (.str a1)], [], (.int .i64 r), [], []⟩ := by
 refine Z1p Tryz.func69 Tryz.results69 rfl Tryz.ntmps69 rfl rfl rfl ?_
 intro E Q hP hN hro hret
 obtain ⟨P', nt', w0, F0, p0, S0, β0, ro0⟩ := E
 simp only at hP hN
 subst hP hN
 dsimp only [argT]
 unfold F69 at h
 refine Zg <| Za <| Z1 I (Zi (v := (.int .i64 0)) I I) I <| Ze <| Zf <| Zg <| Za <| Z1 I (Zh (v := (.str a0)) I I) I ?_
 have ⟨v2, hv2, h⟩ := Z1g h
 refine Z1 I (Z1i (ar := [(.str a0)]) (caps := []) Tryz.call110 (F110_ok K a0 v2 hv2) I I ⟨rfl, trivial⟩ I) I <| Z1 I (Zi (v := (.bool v2)) I I) I <| Ze <| Zf <| Zg <| Za <| Z1 I (Zh (v := (.str a1)) I I) I ?_
 have ⟨v4, hv4, h⟩ := Z1g h
 refine Z1 I (Z1i (ar := [(.str a1)]) (caps := []) Tryz.call110 (F110_ok K a1 v4 hv4) I I ⟨rfl, trivial⟩ I) I <| Z1 I (Zi (v := (.bool v4)) I I) I <| Ze <| Zf <| Zg <| Zg <| Za <| Z1 I (Zh (v := (.bool v2)) I I) I ?_
 refine Ze <| Zf ?_
 have hif := Z1y h
 refine Z13 I (fun hc => ?_) (fun hc => ?_)
 ·have h := hif.1 hc
  refine Zg <| Zg <| Za <| Z1 I (Zh (v := (.bool v4)) I I) I <| Ze <| Zf ?_
  have hif := Z1y h
  refine Z13 I (fun hc => ?_) (fun hc => ?_)
  ·have h := hif.1 hc
   refine Zg <| Za <| Z1 I (Zi (v := (.int .i64 0)) I I) I <| Ze <| Zf <| Z1a <| Z1b <| Z1b ?_
   have h := Option.some.inj h
   subst h
   refine (hret _ ?_).1
   exact ⟨[(.int .i64 0)], ⟨rfl, trivial⟩, rfl, trivial⟩
  ·have h := hif.2 hc
   refine Z16 <| Zf <| Zg <| Za <| Z1 I (Zi (v := (.int .i64 (Int.negSucc 0))) I I) I <| Ze <| Zf <| Z1a ?_
   refine Z1b ?_
   have h := Option.some.inj h
   subst h
   refine (hret _ ?_).1
   exact ⟨[(.int .i64 (Int.negSucc 0))], ⟨rfl, trivial⟩, rfl, trivial⟩
 ·have h := hif.2 hc
  refine Z16 <| Zf <| Zg <| Zg <| Za <| Z1 I (Zh (v := (.bool v4)) I I) I <| Ze <| Zf ?_
  have hif := Z1y h
  refine Z13 I (fun hc => ?_) (fun hc => ?_)
  ·have h := hif.1 hc
   refine Zg <| Za <| Z1 I (Zi (v := (.int .i64 1)) I I) I <| Ze <| Zf <| Z1a <| Z1b ?_
   have h := Option.some.inj h
   subst h
   refine (hret _ ?_).1
   exact ⟨[(.int .i64 1)], ⟨rfl, trivial⟩, rfl, trivial⟩
  ·have h := hif.2 hc
   refine Z16 <| Zf <| Zg <| Zg <| Za <| Z1 I (Zh (v := (.str a0)) I I) I <| Z1 I (Zh (v := (.str a1)) I I) I <| Z1 I (Z2z (a := a0) (b := a1) (c := (slt a0 a1)) I I I I) I ?_
   refine Ze <| Zf ?_
   have hif := Z1y h
   refine Z13 I (fun hc => ?_) (fun hc => ?_)
   ·have h := hif.1 hc
    refine Zg <| Za <| Z1 I (Zi (v := (.int .i64 (Int.negSucc 0))) I I) I <| Ze <| Zf <| Z1a <| Z1b ?_
    have h := Option.some.inj h
    subst h
    refine (hret _ ?_).1
    exact ⟨[(.int .i64 (Int.negSucc 0))], ⟨rfl, trivial⟩, rfl, trivial⟩
   ·have h := hif.2 hc
    refine Z16 <| Zf <| Zg <| Zg <| Za <| Z1 I (Zh (v := (.str a0)) I I) I <| Z1 I (Zh (v := (.str a1)) I I) I <| Z1 I (Z2z (a := a0) (b := a1) (c := (!(slt a0 a1 || a0 == a1))) I I I I) I ?_
    refine Ze <| Zf ?_
    have hif := Z1y h
    refine Z13 I (fun hc => ?_) (fun hc => ?_)
    ·have h := hif.1 hc
     refine Zg <| Za <| Z1 I (Zi (v := (.int .i64 1)) I I) I <| Ze <| Zf <| Z1a <| Z1b ?_
     have h := Option.some.inj h
     subst h
     refine (hret _ ?_).1
     exact ⟨[(.int .i64 1)], ⟨rfl, trivial⟩, rfl, trivial⟩
    ·have h := hif.2 hc
     refine Z16 <| Zf <| Zg <| Za <| Z1 I (Zi (v := (.int .i64 0)) I I) I <| Ze <| Zf <| Z1a ?_
     have h := Option.some.inj h
     subst h
     refine (hret _ ?_).1
     exact ⟨[(.int .i64 0)], ⟨rfl, trivial⟩, rfl, trivial⟩
def F170 (K : Nat) (a0 : Bool) : Option (Int) :=
 if a0 = true then
  some 1
 else
  some 0
theorem F170_ok (K : Nat) (a0 : Bool) (r : Int) (h : F170 K a0 = some r) : ACall P 170 ⟨[(.bool a0)], [], (.int .i64 r), [], []⟩ := by
 refine Z1p Tryz.func170 Tryz.results170 rfl Tryz.ntmps170 rfl rfl rfl ?_
 intro E Q hP hN hro hret
 obtain ⟨P', nt', w0, F0, p0, S0, β0, ro0⟩ := E
 simp only at hP hN
 subst hP hN
 dsimp only [argT]
 unfold F170 at h
 refine Zg <| Za <| Z1 I (Zi (v := (.int .i64 0)) I I) I <| Ze <| Zf <| Zg <| Zg <| Za ?_
 refine Z1 I (Zh (v := (.bool a0)) I I) I <| Ze <| Zf ?_
 have hif := Z1y h
 refine Z13 I (fun hc => ?_) (fun hc => ?_)
 ·have h := hif.1 hc
  refine Zg <| Za <| Z1 I (Zi (v := (.int .i64 1)) I I) I <| Ze <| Zf <| Z1a <| Z1b ?_
  have h := Option.some.inj h
  subst h
  refine (hret _ ?_).1
  exact ⟨[(.int .i64 1)], ⟨rfl, trivial⟩, rfl, trivial⟩
 ·have h := hif.2 hc
  refine Z16 <| Zf <| Zg <| Za <| Z1 I (Zi (v := (.int .i64 0)) I I) I <| Ze <| Zf <| Z1a ?_
  have h := Option.some.inj h
  subst h
  refine (hret _ ?_).1
  exact ⟨[(.int .i64 0)], ⟨rfl, trivial⟩, rfl, trivial⟩
def F67_c3 (K : Nat) : Option (Int) :=
 some 0
def F67_l2 (K : Nat) (a0 : (List Int)) (c4 : Option (Int)) : Nat → Int → Option (Int)
 | 0, _ => none
 | k2 + 1, v1 =>
  if (decide (v1 < (a0.length : Int))) = true then
   if (0 : Int) ≤ v1 ∧ v1 < a0.length then
    if ((a0.getD v1.toNat 0) != 0) = true then
     some (a0.getD v1.toNat 0)
    else
     (F67_l2 K a0 c4 k2) (IntKind.i64.wrap (v1 + 1))
   else none
  else
   c4
def F67 (K : Nat) (a0 : (List Int)) : Option (Int) :=
 F67_l2 K a0 (F67_c3 K) K 0
theorem F67_ok (K : Nat) (a0 : (List Int)) (r : Int) (h : F67 K a0 = some r) : ACall P 67 ⟨[(.sl 1 (a0.map Z15) false)], [], (.int .i64 r), [], []⟩ := by
 refine Z1p Tryz.func67 Tryz.results67 rfl Tryz.ntmps67 rfl rfl rfl ?_
 intro E Q hP hN hro hret
 obtain ⟨P', nt', w0, F0, p0, S0, β0, ro0⟩ := E
 simp only at hP hN
 subst hP hN
 dsimp only [argT]
 unfold F67 at h
 refine Zg <| Za <| Z1 I (Zi (v := (.int .i64 0)) I I) I <| Ze <| Zf <| Zg <| Za <| Z1 I (Zi (v := (.int .i64 0)) I I) I ?_
 refine Ze <| Zf <| Zg <| Zg <| Za <| Z1 I (Zh (v := (.sl 1 (a0.map Z15) false)) I I) I <| Z1 I (Z24 (l := a0) (enc := Z15) I s65 I) I <| Z1 I (Zh (v := (.int .i64 0)) I I) I ?_
 refine Ze <| Zf <| Z1t (st' := ⟨[(3, (.int .i64 0)), (6, (.sl 1 (a0.map Z15) false)), (7, (.int .i64 (a0.length : Int))), (8, (.int .i64 0))], []⟩) ⟨rfl, rfl, rfl, rfl, trivial⟩ trivial ?_
 refine Z1h (V := Int) (X := Unit) (lp := fun k v => F67_l2 K a0 (F67_c3 K) k v = some r) (sh := fun v => ⟨[(3, (.int .i64 0)), (6, (.sl 1 (a0.map Z15) false)), (7, (.int .i64 (a0.length : Int))), (8, (.int .i64 v))], []⟩) (x := fun v => F67_c3 K = some r) (shx := fun v => ⟨[(3, (.int .i64 0))], []⟩) (k := K) (v := 0) h ?_ ?_
 ·intro v h
  try dsimp only at h ⊢
  unfold F67_c3 at h
  refine Zf <| Zg <| Za <| Z1 I (Zh (v := (.int .i64 0)) I I) I <| Z1 I (Zi (v := (.int .i64 0)) I I) I <| Ze <| Zf <| Z1a ?_
  have h := Option.some.inj h
  subst h
  refine (hret _ ?_).1
  exact ⟨[(.int .i64 0)], ⟨rfl, trivial⟩, rfl, trivial⟩
 ·intro N k2 v h IH2 J2
  revert h
  revert v
  intro v1 h
  try dsimp only at h IH2 J2 ⊢
  cases k2 with
  | zero => cases h
  | succ k2 =>
   rw [F67_l2] at h
   refine Zg <| Za <| Z1 I (Z1w (k := .i64) (a := v1) (b := (a0.length : Int)) (c := (decide (v1 < (a0.length : Int)))) I I I I) I <| Ze <| Zf <| Zg ?_
   have hif := Z1y h
   refine Z13 I (fun hc => ?_) (fun hc => ?_)
   ·have h := hif.1 hc
    refine Z16 <| Zf <| Zg <| AWp.block <| Zg <| Za ?_
    have ⟨hg6, h⟩ := Zv h
    refine Z1 I (Z1s (k := .i64) (l := a0) (enc := Z15) (z := 0) (n := v1) (cs := [(.int .i64 (a0.getD v1.toNat 0))]) (full := false) I s65 I I hg6 I) I <| Z1 I (Z26 (cs := [(.int .i64 (a0.getD v1.toNat 0))]) (v := (.int .i64 (a0.getD v1.toNat 0))) I o3 I I) I <| Z1 I (Zi (v := (.int .i64 (a0.getD v1.toNat 0))) I I) I <| Ze <| Zf <| Zg <| Za <| Z1 I (Zh (v := (.int .i64 (a0.getD v1.toNat 0))) I I) I ?_
    refine Z1 I (Zh (v := (.int .i64 0)) I I) I <| Z1 I (Z1w (k := .i64) (a := (a0.getD v1.toNat 0)) (b := 0) (c := ((a0.getD v1.toNat 0) != 0)) I I I I) I <| Ze <| Zf ?_
    have hif := Z1y h
    refine Z13 I (fun hc => ?_) (fun hc => ?_)
    ·have h := hif.1 hc
     refine Zg <| Za <| Z1 I (Zh (v := (.int .i64 (a0.getD v1.toNat 0))) I I) I <| Z1 I (Zi (v := (.int .i64 (a0.getD v1.toNat 0))) I I) I <| Ze <| Zf <| Z1a <| At.overR ?_
     refine Z1b ?_
     refine Z1b (At.overR ?_)
     refine Z1b ?_
     have h := Option.some.inj h
     subst h
     refine (hret _ ?_).1
     exact ⟨[(.int .i64 (a0.getD v1.toNat 0))], ⟨rfl, trivial⟩, rfl, trivial⟩
    ·have h := hif.2 hc
     refine Z16 <| At.end <| Zf <| Za <| Z1 I (Z1n (k := .i64) (a := v1) (b := 1) (c := (IntKind.i64.wrap (v1 + 1))) I I I I) I <| Z1 I (Zh (v := (.int .i64 (IntKind.i64.wrap (v1 + 1)))) I I) I <| Ze ?_
     exact Zw (st' := ⟨[(3, (.int .i64 0)), (6, (.sl 1 (a0.map Z15) false)), (7, (.int .i64 (a0.length : Int))), (8, (.int .i64 (IntKind.i64.wrap (v1 + 1))))], []⟩) ⟨rfl, rfl, rfl, rfl, trivial⟩ trivial (IH2 _ (IntKind.i64.wrap (v1 + 1)) (Nat.lt_succ_self _) h)
   ·have h := hif.2 hc
    refine AWp.exit <| At.thru ?_
    exact Zw (st' := ⟨[(3, (.int .i64 0))], []⟩) ⟨rfl, trivial⟩ trivial (J2 () h)
def F227 (K : Nat) (a0 : Z2s) (a1 : Z2s) : Option (Int) :=
 (F68 K a0.Kind a1.Kind).bind fun v2 =>
  (F69 K a0.Text a1.Text).bind fun v4 =>
   (F68 K a0.Int a1.Int).bind fun v6 =>
    (F67 K [v2, v4, v6]).bind fun v8 =>
     some v8
theorem F227_ok (K : Nat) (a0 : Z2s) (a1 : Z2s) (r : Int) (h : F227 K a0 a1 = some r) : ACall P 227 ⟨[(Z2i a0), (Z2i a1)], [], (.int .i64 r), [], []⟩ := by
 refine Z1p Tryz.func227 Tryz.results227 rfl Tryz.ntmps227 rfl rfl rfl ?_
 intro E Q hP hN hro hret
 obtain ⟨P', nt', w0, F0, p0, S0, β0, ro0⟩ := E
 simp only at hP hN
 subst hP hN
 dsimp only [argT]
 unfold F227 at h
 refine Zg <| Za <| Z1 I (Z2l (v := (Z2i a0)) (cs := (Z2i a0).cells) I I I I I) I <| Z1 I (Z2l (v := (Z2i a1)) (cs := (Z2i a1).cells) I I I I I) I <| Z1 I (Zi (v := (.int .i64 0)) I I) I <| Ze <| Zf <| Zg ?_
 refine AWp.regionD mixed <| Z9 0 I (Zp (m := 2) (o := 0) I f172_0 I I) <| Z9 1 I (Zu (cs := (Z2i a0).cells) (v := (.int .i64 a0.Kind)) I o3 I I I) <| Z9 2 I (Zp (m := 3) (o := 0) I f172_0 I I) <| Z9 3 I (Zu (cs := (Z2i a1).cells) (v := (.int .i64 a1.Kind)) I o3 I I I) ?_
 have ⟨v2, hv2, h⟩ := Z1g h
 refine Z9 4 I (Z1i (ar := [(.int .i64 a0.Kind), (.int .i64 a1.Kind)]) (caps := []) Tryz.call68 (Z9q K a0.Kind a1.Kind v2 hv2) I I ⟨rfl, rfl, trivial⟩ I) <| Z9 5 I (Zp (m := 2) (o := 0) I f172_1 I I) <| Z9 6 I (Zu (cs := (Z2i a0).cells) (v := (.str a0.Text)) I o9 I I I) <| Z9 7 I (Zp (m := 3) (o := 0) I f172_1 I I) <| Z9 8 I (Zu (cs := (Z2i a1).cells) (v := (.str a1.Text)) I o9 I I I) ?_
 have ⟨v4, hv4, h⟩ := Z1g h
 refine Z9 9 I (Z1i (ar := [(.str a0.Text), (.str a1.Text)]) (caps := []) Tryz.call69 (Z83 K a0.Text a1.Text v4 hv4) I I ⟨rfl, rfl, trivial⟩ I) <| Z9 10 I (Zp (m := 2) (o := 0) I f172_2 I I) <| Z9 11 I (Zu (cs := (Z2i a0).cells) (v := (.int .i64 a0.Int)) I o3 I I I) <| Z9 12 I (Zp (m := 3) (o := 0) I f172_2 I I) <| Z9 13 I (Zu (cs := (Z2i a1).cells) (v := (.int .i64 a1.Int)) I o3 I I I) ?_
 have ⟨v6, hv6, h⟩ := Z1g h
 refine Z9 14 I (Z1i (ar := [(.int .i64 a0.Int), (.int .i64 a1.Int)]) (caps := []) Tryz.call68 (Z9q K a0.Int a1.Int v6 hv6) I I ⟨rfl, rfl, trivial⟩ I) <| Z9 15 I (Z1d (vs := [(.int .i64 v2), (.int .i64 v4), (.int .i64 v6)]) (enc := Z15) (l := [v2, v4, v6]) I el65 I I ⟨rfl, rfl, rfl, trivial⟩ I Z2y I I I I) ?_
 have ⟨v8, hv8, h⟩ := Z1g h
 refine Z9 16 I (Z6l (rd := [(20, (.vec 1 (List.map Z15 [v2, v4, v6])))]) (ar := [(.vs 20)]) (caps := []) Tryz.call67 (F67_ok K [v2, v4, v6] v8 hv8) I I ⟨rfl, trivial⟩ (Z5f ⟨rfl, trivial⟩) I I I) <| Z9 17 I (Zi (v := (.int .i64 v8)) I I) <| AOpsD.nil (by kernel_rfl) I <| Zf <| Z1a ?_
 have h := Option.some.inj h
 subst h
 refine (hret _ ?_).1
 exact ⟨[(.int .i64 v8)], ⟨rfl, trivial⟩, rfl, trivial⟩
def F226 (K : Nat) (a0 : Z25) (a1 : Z25) : Option (Int) :=
 (F69 K a0.Key a1.Key).bind fun v2 =>
  (F227 K a0.Value a1.Value).bind fun v4 =>
   (F67 K [v2, v4]).bind fun v6 =>
    some v6
theorem F226_ok (K : Nat) (a0 : Z25) (a1 : Z25) (r : Int) (h : F226 K a0 a1 = some r) : ACall P 226 ⟨[(Z10 a0), (Z10 a1)], [], (.int .i64 r), [], []⟩ := by
 refine Z1p Tryz.func226 Tryz.results226 rfl Tryz.ntmps226 rfl rfl rfl ?_
 intro E Q hP hN hro hret
 obtain ⟨P', nt', w0, F0, p0, S0, β0, ro0⟩ := E
 simp only at hP hN
 subst hP hN
 dsimp only [argT]
 unfold F226 at h
 refine Zg <| Za <| Z1 I (Z2l (v := (Z10 a0)) (cs := (Z10 a0).cells) I I I I I) I <| Z1 I (Z2l (v := (Z10 a1)) (cs := (Z10 a1).cells) I I I I I) I <| Z1 I (Zi (v := (.int .i64 0)) I I) I <| Ze <| Zf <| Zg ?_
 refine AWp.regionD mixed <| Z9 0 I (Zp (m := 2) (o := 0) I f174_0 I I) <| Z9 1 I (Zu (cs := (Z10 a0).cells) (v := (.str a0.Key)) I o9 I I I) <| Z9 2 I (Zp (m := 3) (o := 0) I f174_0 I I) <| Z9 3 I (Zu (cs := (Z10 a1).cells) (v := (.str a1.Key)) I o9 I I I) ?_
 have ⟨v2, hv2, h⟩ := Z1g h
 refine Z9 4 I (Z1i (ar := [(.str a0.Key), (.str a1.Key)]) (caps := []) Tryz.call69 (Z83 K a0.Key a1.Key v2 hv2) I I ⟨rfl, rfl, trivial⟩ I) <| Z9 5 I (Zp (m := 2) (o := 0) I f174_1 I I) <| Z9 6 I (Z1q (cs := (Z10 a0).cells) (vs := (Z2i a0.Value).cells) I a172 I I I I) <| Z9 7 I (Zp (m := 3) (o := 0) I f174_1 I I) <| Z9 8 I (Z1q (cs := (Z10 a1).cells) (vs := (Z2i a1.Value).cells) I a172 I I I I) ?_
 have ⟨v4, hv4, h⟩ := Z1g h
 refine Z9 9 I (Z1i (ar := [(Z2i a0.Value), (Z2i a1.Value)]) (caps := []) Tryz.call227 (F227_ok K a0.Value a1.Value v4 hv4) I I ⟨rfl, rfl, trivial⟩ I) <| Z9 10 I (Z1d (vs := [(.int .i64 v2), (.int .i64 v4)]) (enc := Z15) (l := [v2, v4]) I el65 I I ⟨rfl, rfl, trivial⟩ I Z2y I I I I) ?_
 have ⟨v6, hv6, h⟩ := Z1g h
 refine Z9 11 I (Z6l (rd := [(15, (.vec 1 (List.map Z15 [v2, v4])))]) (ar := [(.vs 15)]) (caps := []) Tryz.call67 (F67_ok K [v2, v4] v6 hv6) I I ⟨rfl, trivial⟩ (Z5f ⟨rfl, trivial⟩) I I I) <| Z9 12 I (Zi (v := (.int .i64 v6)) I I) <| AOpsD.nil (by kernel_rfl) I <| Zf <| Z1a ?_
 have h := Option.some.inj h
 subst h
 refine (hret _ ?_).1
 exact ⟨[(.int .i64 v6)], ⟨rfl, trivial⟩, rfl, trivial⟩
def F225_c3 (K : Nat) (a0 : (List Z25)) (a1 : (List Z25)) : Option (Int) :=
 if (decide ((a0.length : Int) < (a1.length : Int))) = true then
  some (Int.negSucc 0)
 else
  some 0
def F225_l2 (K : Nat) (a0 : (List Z25)) (a1 : (List Z25)) (c4 : Option (Int)) : Nat → Int → Option (Int)
 | 0, _ => none
 | k2 + 1, v1 =>
  if (decide (v1 < (a0.length : Int))) = true then
   if (0 : Int) ≤ v1 ∧ v1 < a0.length then
    if (decide (v1 ≥ (a1.length : Int))) = true then
     some 1
    else
     if (0 : Int) ≤ v1 ∧ v1 < a1.length then
      (F226 K (a0.getD v1.toNat Z2b) (a1.getD v1.toNat Z2b)).bind fun v9 =>
       if (v9 != 0) = true then
        some v9
       else
        (F225_l2 K a0 a1 c4 k2) (IntKind.i64.wrap (v1 + 1))
     else none
   else none
  else
   c4
def F225 (K : Nat) (a0 : (List Z25)) (a1 : (List Z25)) : Option (Int) :=
 F225_l2 K a0 a1 (F225_c3 K a0 a1) K 0
theorem F225_ok (K : Nat) (a0 : (List Z25)) (a1 : (List Z25)) (r : Int) (h : F225 K a0 a1 = some r) : ACall P 225 ⟨[(.sl 4 (a0.map Z10) false), (.sl 4 (a1.map Z10) false), (.clo 226 [])], [], (.int .i64 r), [], []⟩ := by
 refine Z1p Tryz.func225 Tryz.results225 rfl Tryz.ntmps225 rfl rfl rfl ?_
 intro E Q hP hN hro hret
 obtain ⟨P', nt', w0, F0, p0, S0, β0, ro0⟩ := E
 simp only at hP hN
 subst hP hN
 dsimp only [argT]
 unfold F225 at h
 refine Zg <| Za <| Z1 I (Zi (v := (.int .i64 0)) I I) I <| Ze <| Zf <| Zg <| Zg <| Za ?_
 refine Z1 I (Zh (v := (.sl 4 (a0.map Z10) false)) I I) I <| Z1 I (Z24 (l := a0) (enc := Z10) I s53 I) I <| Z1 I (Zh (v := (.int .i64 0)) I I) I <| Ze <| Zf <| Z1t (st' := ⟨[(0, (.sl 4 (a0.map Z10) false)), (1, (.sl 4 (a1.map Z10) false)), (2, (.clo 226 [])), (11, (.sl 4 (a0.map Z10) false)), (12, (.int .i64 (a0.length : Int))), (13, (.int .i64 0))], []⟩) ⟨rfl, rfl, rfl, rfl, rfl, rfl, trivial⟩ trivial ?_
 refine Z1h (V := Int) (X := Unit) (lp := fun k v => F225_l2 K a0 a1 (F225_c3 K a0 a1) k v = some r) (sh := fun v => ⟨[(0, (.sl 4 (a0.map Z10) false)), (1, (.sl 4 (a1.map Z10) false)), (2, (.clo 226 [])), (11, (.sl 4 (a0.map Z10) false)), (12, (.int .i64 (a0.length : Int))), (13, (.int .i64 v))], []⟩) (x := fun v => F225_c3 K a0 a1 = some r) (shx := fun v => ⟨[(0, (.sl 4 (a0.map Z10) false)), (1, (.sl 4 (a1.map Z10) false))], []⟩) (k := K) (v := 0) h ?_ ?_
 ·intro v h
  try dsimp only at h ⊢
  unfold F225_c3 at h
  refine Zf <| Zg <| Zg <| Za <| Z1 I (Zh (v := (.sl 4 (a0.map Z10) false)) I I) I <| Z1 I (Z24 (l := a0) (enc := Z10) I s53 I) I <| Z1 I (Zh (v := (.sl 4 (a1.map Z10) false)) I I) I <| Z1 I (Z24 (l := a1) (enc := Z10) I s53 I) I ?_
  refine Z1 I (Z1w (k := .i64) (a := (a0.length : Int)) (b := (a1.length : Int)) (c := (decide ((a0.length : Int) < (a1.length : Int)))) I I I I) I <| Ze <| Zf ?_
  have hif := Z1y h
  refine Z13 I (fun hc => ?_) (fun hc => ?_)
  ·have h := hif.1 hc
   refine Zg <| Za <| Z1 I (Zi (v := (.int .i64 (Int.negSucc 0))) I I) I <| Ze <| Zf <| Z1a <| Z1b ?_
   have h := Option.some.inj h
   subst h
   refine (hret _ ?_).1
   exact ⟨[(.int .i64 (Int.negSucc 0))], ⟨rfl, trivial⟩, rfl, trivial⟩
  ·have h := hif.2 hc
   refine Z16 <| Zf <| Zg <| Za <| Z1 I (Zi (v := (.int .i64 0)) I I) I <| Ze <| Zf <| Z1a ?_
   have h := Option.some.inj h
   subst h
   refine (hret _ ?_).1
   exact ⟨[(.int .i64 0)], ⟨rfl, trivial⟩, rfl, trivial⟩
 ·intro N k2 v h IH2 J2
  revert h
  revert v
  intro v1 h
  try dsimp only at h IH2 J2 ⊢
  cases k2 with
  | zero => cases h
  | succ k2 =>
   rw [F225_l2] at h
   refine Zg <| Za <| Z1 I (Z1w (k := .i64) (a := v1) (b := (a0.length : Int)) (c := (decide (v1 < (a0.length : Int)))) I I I I) I <| Ze <| Zf <| Zg ?_
   have hif := Z1y h
   refine Z13 I (fun hc => ?_) (fun hc => ?_)
   ·have h := hif.1 hc
    refine Z16 <| Zf <| Zg <| AWp.block <| Zg <| Za <| Z1 I (Zh (v := (.int .i64 v1)) I I) I ?_
    have ⟨hg6, h⟩ := Zv h
    refine Z1 I (Z1s (k := .i64) (l := a0) (enc := Z10) (z := Z2b) (n := v1) (cs := (Z10 (a0.getD v1.toNat Z2b)).cells) (full := false) I s53 I I hg6 I) I <| Z1 I (Z2k (cs := (Z10 (a0.getD v1.toNat Z2b)).cells) (vs := (Z10 (a0.getD v1.toNat Z2b)).cells) I a174 I I I) I <| Z1 I (Z22 (cs := [(.str []), (.int .i64 0), (.str []), (.int .i64 0)]) I z174 I I I) I <| Z1 I (Zi (v := (.int .i64 v1)) I I) I <| Z1 I (Z1j (cs := [(.str []), (.int .i64 0), (.str []), (.int .i64 0)]) (vs := (Z10 (a0.getD v1.toNat Z2b)).cells) (ds := (Z10 (a0.getD v1.toNat Z2b)).cells) (v := (Z10 (a0.getD v1.toNat Z2b))) sz174 I I I I I I I I) I <| Ze <| Zf <| Zg ?_
    refine Zg <| Za <| Z1 I (Zh (v := (.int .i64 v1)) I I) I <| Z1 I (Zh (v := (.sl 4 (a1.map Z10) false)) I I) I <| Z1 I (Z24 (l := a1) (enc := Z10) I s53 I) I <| Z1 I (Z1w (k := .i64) (a := v1) (b := (a1.length : Int)) (c := (decide (v1 ≥ (a1.length : Int)))) I I I I) I <| Ze <| Zf ?_
    have hif := Z1y h
    refine Z13 I (fun hc => ?_) (fun hc => ?_)
    ·have h := hif.1 hc
     refine Zg <| Za <| Z1 I (Zi (v := (.int .i64 1)) I I) I <| Ze <| Zf <| Z1a <| Z1b <| At.overR ?_
     refine Z1b ?_
     refine Z1b (At.overR ?_)
     refine Z1b ?_
     have h := Option.some.inj h
     subst h
     refine (hret _ ?_).1
     exact ⟨[(.int .i64 1)], ⟨rfl, trivial⟩, rfl, trivial⟩
    ·have h := hif.2 hc
     refine Z16 <| Zf <| Zg <| Za <| Z1 I (Zh (v := (.sl 4 (a1.map Z10) false)) I I) I <| Z1 I (Zh (v := (.int .i64 v1)) I I) I ?_
     have ⟨hg7, h⟩ := Zv h
     refine Z1 I (Z1s (k := .i64) (l := a1) (enc := Z10) (z := Z2b) (n := v1) (cs := (Z10 (a1.getD v1.toNat Z2b)).cells) (full := false) I s53 I I hg7 I) I <| Z1 I (Z2k (cs := (Z10 (a1.getD v1.toNat Z2b)).cells) (vs := (Z10 (a1.getD v1.toNat Z2b)).cells) I a174 I I I) I <| Z1 I (Z22 (cs := [(.str []), (.int .i64 0), (.str []), (.int .i64 0)]) I z174 I I I) I <| Z1 I (Z1j (cs := [(.str []), (.int .i64 0), (.str []), (.int .i64 0)]) (vs := (Z10 (a1.getD v1.toNat Z2b)).cells) (ds := (Z10 (a1.getD v1.toNat Z2b)).cells) (v := (Z10 (a1.getD v1.toNat Z2b))) sz174 I I I I I I I I) I <| Ze <| Zf <| Zg <| Za ?_
     refine Z1 I (Zh (v := (.clo 226 [])) I I) I <| Z1 I (Z1q (cs := (Z10 (a0.getD v1.toNat Z2b)).cells) (vs := (Z10 (a0.getD v1.toNat Z2b)).cells) I a174 I I I I) I <| Z1 I (Z1q (cs := (Z10 (a1.getD v1.toNat Z2b)).cells) (vs := (Z10 (a1.getD v1.toNat Z2b)).cells) I a174 I I I I) I ?_
     have ⟨v9, hv9, h⟩ := Z1g h
     refine Z1 I (Z1i (ar := [(Z10 (a0.getD v1.toNat Z2b)), (Z10 (a1.getD v1.toNat Z2b))]) (caps := []) Tryz.call226 (F226_ok K (a0.getD v1.toNat Z2b) (a1.getD v1.toNat Z2b) v9 hv9) I I ⟨rfl, rfl, trivial⟩ I) I <| Z1 I (Zi (v := (.int .i64 v9)) I I) I <| Ze <| Zf <| Zg <| Za <| Z1 I (Zh (v := (.int .i64 v9)) I I) I <| Z1 I (Z1w (k := .i64) (a := v9) (b := 0) (c := (v9 != 0)) I I I I) I ?_
     refine Ze <| Zf ?_
     have hif := Z1y h
     refine Z13 I (fun hc => ?_) (fun hc => ?_)
     ·have h := hif.1 hc
      refine Zg <| Za <| Z1 I (Zh (v := (.int .i64 v9)) I I) I <| Z1 I (Zi (v := (.int .i64 v9)) I I) I <| Ze <| Zf <| Z1a <| At.overR ?_
      refine Z1b ?_
      refine Z1b (At.overR ?_)
      refine Z1b ?_
      have h := Option.some.inj h
      subst h
      refine (hret _ ?_).1
      exact ⟨[(.int .i64 v9)], ⟨rfl, trivial⟩, rfl, trivial⟩
     ·have h := hif.2 hc
      refine Z16 <| At.end <| Zf <| Za <| Z1 I (Z1n (k := .i64) (a := v1) (b := 1) (c := (IntKind.i64.wrap (v1 + 1))) I I I I) I <| Z1 I (Zh (v := (.int .i64 (IntKind.i64.wrap (v1 + 1)))) I I) I <| Ze ?_
      exact Zw (st' := ⟨[(0, (.sl 4 (a0.map Z10) false)), (1, (.sl 4 (a1.map Z10) false)), (2, (.clo 226 [])), (11, (.sl 4 (a0.map Z10) false)), (12, (.int .i64 (a0.length : Int))), (13, (.int .i64 (IntKind.i64.wrap (v1 + 1))))], []⟩) ⟨rfl, rfl, rfl, rfl, rfl, rfl, trivial⟩ trivial (IH2 _ (IntKind.i64.wrap (v1 + 1)) (Nat.lt_succ_self _) h)
   ·have h := hif.2 hc
    refine AWp.exit <| At.thru ?_
    exact Zw (st' := ⟨[(0, (.sl 4 (a0.map Z10) false)), (1, (.sl 4 (a1.map Z10) false))], []⟩) ⟨rfl, rfl, trivial⟩ trivial (J2 () h)
def F171 (K : Nat) (a0 : (List Z25)) (a1 : (List Z25)) : Option (Int) :=
 (F225 K a0 a1).bind fun v2 =>
  some v2
theorem F171_ok (K : Nat) (a0 : (List Z25)) (a1 : (List Z25)) (r : Int) (h : F171 K a0 a1 = some r) : ACall P 171 ⟨[(.sl 4 (a0.map Z10) false), (.sl 4 (a1.map Z10) false)], [], (.int .i64 r), [], []⟩ := by
 refine Z1p Tryz.func171 Tryz.results171 rfl Tryz.ntmps171 rfl rfl rfl ?_
 intro E Q hP hN hro hret
 obtain ⟨P', nt', w0, F0, p0, S0, β0, ro0⟩ := E
 simp only at hP hN
 subst hP hN
 dsimp only [argT]
 unfold F171 at h
 refine Zg <| Za <| Z1 I (Zi (v := (.int .i64 0)) I I) I <| Ze <| Zf <| Zg <| Za <| Z1 I (Zh (v := (.sl 4 (a0.map Z10) false)) I I) I ?_
 refine Z1 I (Zh (v := (.sl 4 (a1.map Z10) false)) I I) I ?_
 have ⟨v2, hv2, h⟩ := Z1g h
 refine Z1 I (Z1i (ar := [(.sl 4 (a0.map Z10) false), (.sl 4 (a1.map Z10) false), (.clo 226 [])]) (caps := []) Tryz.call225 (F225_ok K a0 a1 v2 hv2) I I ⟨rfl, rfl, rfl, trivial⟩ I) I <| Z1 I (Zi (v := (.int .i64 v2)) I I) I <| Ze <| Zf <| Z1a ?_
 have h := Option.some.inj h
 subst h
 refine (hret _ ?_).1
 exact ⟨[(.int .i64 v2)], ⟨rfl, trivial⟩, rfl, trivial⟩
def F173 (K : Nat) (a0 : Z2n) (a1 : Z2n) : Option (Int) :=
 (F68 K a0.Trace a1.Trace).bind fun v2 =>
  (F68 K a0.Id a1.Id).bind fun v4 =>
   (F67 K [v2, v4]).bind fun v6 =>
    some v6
theorem F173_ok (K : Nat) (a0 : Z2n) (a1 : Z2n) (r : Int) (h : F173 K a0 a1 = some r) : ACall P 173 ⟨[(Z14 a0), (Z14 a1)], [], (.int .i64 r), [], []⟩ := by
 refine Z1p Tryz.func173 Tryz.results173 rfl Tryz.ntmps173 rfl rfl rfl ?_
 intro E Q hP hN hro hret
 obtain ⟨P', nt', w0, F0, p0, S0, β0, ro0⟩ := E
 simp only at hP hN
 subst hP hN
 dsimp only [argT]
 unfold F173 at h
 refine Zg <| Za <| Z1 I (Z2l (v := (Z14 a0)) (cs := (Z14 a0).cells) I I I I I) I <| Z1 I (Z2l (v := (Z14 a1)) (cs := (Z14 a1).cells) I I I I I) I <| Z1 I (Zi (v := (.int .i64 0)) I I) I <| Ze <| Zf <| Zg ?_
 refine AWp.regionD mixed <| Z9 0 I (Zp (m := 2) (o := 0) I f177_0 I I) <| Z9 1 I (Zu (cs := (Z14 a0).cells) (v := (.int .i64 a0.Trace)) I o3 I I I) <| Z9 2 I (Zp (m := 3) (o := 0) I f177_0 I I) <| Z9 3 I (Zu (cs := (Z14 a1).cells) (v := (.int .i64 a1.Trace)) I o3 I I I) ?_
 have ⟨v2, hv2, h⟩ := Z1g h
 refine Z9 4 I (Z1i (ar := [(.int .i64 a0.Trace), (.int .i64 a1.Trace)]) (caps := []) Tryz.call68 (Z9q K a0.Trace a1.Trace v2 hv2) I I ⟨rfl, rfl, trivial⟩ I) <| Z9 5 I (Zp (m := 2) (o := 0) I f177_1 I I) <| Z9 6 I (Zu (cs := (Z14 a0).cells) (v := (.int .i64 a0.Id)) I o3 I I I) <| Z9 7 I (Zp (m := 3) (o := 0) I f177_1 I I) <| Z9 8 I (Zu (cs := (Z14 a1).cells) (v := (.int .i64 a1.Id)) I o3 I I I) ?_
 have ⟨v4, hv4, h⟩ := Z1g h
 refine Z9 9 I (Z1i (ar := [(.int .i64 a0.Id), (.int .i64 a1.Id)]) (caps := []) Tryz.call68 (Z9q K a0.Id a1.Id v4 hv4) I I ⟨rfl, rfl, trivial⟩ I) <| Z9 10 I (Z1d (vs := [(.int .i64 v2), (.int .i64 v4)]) (enc := Z15) (l := [v2, v4]) I el65 I I ⟨rfl, rfl, trivial⟩ I Z2y I I I I) ?_
 have ⟨v6, hv6, h⟩ := Z1g h
 refine Z9 11 I (Z6l (rd := [(15, (.vec 1 (List.map Z15 [v2, v4])))]) (ar := [(.vs 15)]) (caps := []) Tryz.call67 (F67_ok K [v2, v4] v6 hv6) I I ⟨rfl, trivial⟩ (Z5f ⟨rfl, trivial⟩) I I I) <| Z9 12 I (Zi (v := (.int .i64 v6)) I I) <| AOpsD.nil (by kernel_rfl) I <| Zf <| Z1a ?_
 have h := Option.some.inj h
 subst h
 refine (hret _ ?_).1
 exact ⟨[(.int .i64 v6)], ⟨rfl, trivial⟩, rfl, trivial⟩
def F172_c3 (K : Nat) (a0 : (List Z2n)) (a1 : (List Z2n)) : Option (Int) :=
 if (decide ((a0.length : Int) < (a1.length : Int))) = true then
  some (Int.negSucc 0)
 else
  some 0
def F172_l2 (K : Nat) (a0 : (List Z2n)) (a1 : (List Z2n)) (c4 : Option (Int)) : Nat → Int → Option (Int)
 | 0, _ => none
 | k2 + 1, v1 =>
  if (decide (v1 < (a0.length : Int))) = true then
   if (0 : Int) ≤ v1 ∧ v1 < a0.length then
    if (decide (v1 ≥ (a1.length : Int))) = true then
     some 1
    else
     if (0 : Int) ≤ v1 ∧ v1 < a1.length then
      (F173 K (a0.getD v1.toNat Z2c) (a1.getD v1.toNat Z2c)).bind fun v9 =>
       if (v9 != 0) = true then
        some v9
       else
        (F172_l2 K a0 a1 c4 k2) (IntKind.i64.wrap (v1 + 1))
     else none
   else none
  else
   c4
def F172 (K : Nat) (a0 : (List Z2n)) (a1 : (List Z2n)) : Option (Int) :=
 F172_l2 K a0 a1 (F172_c3 K a0 a1) K 0
theorem F172_ok (K : Nat) (a0 : (List Z2n)) (a1 : (List Z2n)) (r : Int) (h : F172 K a0 a1 = some r) : ACall P 172 ⟨[(.sl 2 (a0.map Z14) false), (.sl 2 (a1.map Z14) false), (.clo 173 [])], [], (.int .i64 r), [], []⟩ := by
 refine Z1p Tryz.func172 Tryz.results172 rfl Tryz.ntmps172 rfl rfl rfl ?_
 intro E Q hP hN hro hret
 obtain ⟨P', nt', w0, F0, p0, S0, β0, ro0⟩ := E
 simp only at hP hN
 subst hP hN
 dsimp only [argT]
 unfold F172 at h
 refine Zg <| Za <| Z1 I (Zi (v := (.int .i64 0)) I I) I <| Ze <| Zf <| Zg <| Zg <| Za ?_
 refine Z1 I (Zh (v := (.sl 2 (a0.map Z14) false)) I I) I <| Z1 I (Z24 (l := a0) (enc := Z14) I s54 I) I <| Z1 I (Zh (v := (.int .i64 0)) I I) I <| Ze <| Zf <| Z1t (st' := ⟨[(0, (.sl 2 (a0.map Z14) false)), (1, (.sl 2 (a1.map Z14) false)), (2, (.clo 173 [])), (11, (.sl 2 (a0.map Z14) false)), (12, (.int .i64 (a0.length : Int))), (13, (.int .i64 0))], []⟩) ⟨rfl, rfl, rfl, rfl, rfl, rfl, trivial⟩ trivial ?_
 refine Z1h (V := Int) (X := Unit) (lp := fun k v => F172_l2 K a0 a1 (F172_c3 K a0 a1) k v = some r) (sh := fun v => ⟨[(0, (.sl 2 (a0.map Z14) false)), (1, (.sl 2 (a1.map Z14) false)), (2, (.clo 173 [])), (11, (.sl 2 (a0.map Z14) false)), (12, (.int .i64 (a0.length : Int))), (13, (.int .i64 v))], []⟩) (x := fun v => F172_c3 K a0 a1 = some r) (shx := fun v => ⟨[(0, (.sl 2 (a0.map Z14) false)), (1, (.sl 2 (a1.map Z14) false))], []⟩) (k := K) (v := 0) h ?_ ?_
 ·intro v h
  try dsimp only at h ⊢
  unfold F172_c3 at h
  refine Zf <| Zg <| Zg <| Za <| Z1 I (Zh (v := (.sl 2 (a0.map Z14) false)) I I) I <| Z1 I (Z24 (l := a0) (enc := Z14) I s54 I) I <| Z1 I (Zh (v := (.sl 2 (a1.map Z14) false)) I I) I <| Z1 I (Z24 (l := a1) (enc := Z14) I s54 I) I ?_
  refine Z1 I (Z1w (k := .i64) (a := (a0.length : Int)) (b := (a1.length : Int)) (c := (decide ((a0.length : Int) < (a1.length : Int)))) I I I I) I <| Ze <| Zf ?_
  have hif := Z1y h
  refine Z13 I (fun hc => ?_) (fun hc => ?_)
  ·have h := hif.1 hc
   refine Zg <| Za <| Z1 I (Zi (v := (.int .i64 (Int.negSucc 0))) I I) I <| Ze <| Zf <| Z1a <| Z1b ?_
   have h := Option.some.inj h
   subst h
   refine (hret _ ?_).1
   exact ⟨[(.int .i64 (Int.negSucc 0))], ⟨rfl, trivial⟩, rfl, trivial⟩
  ·have h := hif.2 hc
   refine Z16 <| Zf <| Zg <| Za <| Z1 I (Zi (v := (.int .i64 0)) I I) I <| Ze <| Zf <| Z1a ?_
   have h := Option.some.inj h
   subst h
   refine (hret _ ?_).1
   exact ⟨[(.int .i64 0)], ⟨rfl, trivial⟩, rfl, trivial⟩
 ·intro N k2 v h IH2 J2
  revert h
  revert v
  intro v1 h
  try dsimp only at h IH2 J2 ⊢
  cases k2 with
  | zero => cases h
  | succ k2 =>
   rw [F172_l2] at h
   refine Zg <| Za <| Z1 I (Z1w (k := .i64) (a := v1) (b := (a0.length : Int)) (c := (decide (v1 < (a0.length : Int)))) I I I I) I <| Ze <| Zf <| Zg ?_
   have hif := Z1y h
   refine Z13 I (fun hc => ?_) (fun hc => ?_)
   ·have h := hif.1 hc
    refine Z16 <| Zf <| Zg <| AWp.block <| Zg <| Za <| Z1 I (Zh (v := (.int .i64 v1)) I I) I ?_
    have ⟨hg6, h⟩ := Zv h
    refine Z1 I (Z1s (k := .i64) (l := a0) (enc := Z14) (z := Z2c) (n := v1) (cs := (Z14 (a0.getD v1.toNat Z2c)).cells) (full := false) I s54 I I hg6 I) I <| Z1 I (Z2k (cs := (Z14 (a0.getD v1.toNat Z2c)).cells) (vs := (Z14 (a0.getD v1.toNat Z2c)).cells) I a177 I I I) I <| Z1 I (Z22 (cs := [(.int .i64 0), (.int .i64 0)]) I z177 I I I) I <| Z1 I (Zi (v := (.int .i64 v1)) I I) I <| Z1 I (Z1j (cs := [(.int .i64 0), (.int .i64 0)]) (vs := (Z14 (a0.getD v1.toNat Z2c)).cells) (ds := (Z14 (a0.getD v1.toNat Z2c)).cells) (v := (Z14 (a0.getD v1.toNat Z2c))) sz177 I I I I I I I I) I <| Ze <| Zf <| Zg ?_
    refine Zg <| Za <| Z1 I (Zh (v := (.int .i64 v1)) I I) I <| Z1 I (Zh (v := (.sl 2 (a1.map Z14) false)) I I) I <| Z1 I (Z24 (l := a1) (enc := Z14) I s54 I) I <| Z1 I (Z1w (k := .i64) (a := v1) (b := (a1.length : Int)) (c := (decide (v1 ≥ (a1.length : Int)))) I I I I) I <| Ze <| Zf ?_
    have hif := Z1y h
    refine Z13 I (fun hc => ?_) (fun hc => ?_)
    ·have h := hif.1 hc
     refine Zg <| Za <| Z1 I (Zi (v := (.int .i64 1)) I I) I <| Ze <| Zf <| Z1a <| Z1b <| At.overR ?_
     refine Z1b ?_
     refine Z1b (At.overR ?_)
     refine Z1b ?_
     have h := Option.some.inj h
     subst h
     refine (hret _ ?_).1
     exact ⟨[(.int .i64 1)], ⟨rfl, trivial⟩, rfl, trivial⟩
    ·have h := hif.2 hc
     refine Z16 <| Zf <| Zg <| Za <| Z1 I (Zh (v := (.sl 2 (a1.map Z14) false)) I I) I <| Z1 I (Zh (v := (.int .i64 v1)) I I) I ?_
     have ⟨hg7, h⟩ := Zv h
     refine Z1 I (Z1s (k := .i64) (l := a1) (enc := Z14) (z := Z2c) (n := v1) (cs := (Z14 (a1.getD v1.toNat Z2c)).cells) (full := false) I s54 I I hg7 I) I <| Z1 I (Z2k (cs := (Z14 (a1.getD v1.toNat Z2c)).cells) (vs := (Z14 (a1.getD v1.toNat Z2c)).cells) I a177 I I I) I <| Z1 I (Z22 (cs := [(.int .i64 0), (.int .i64 0)]) I z177 I I I) I <| Z1 I (Z1j (cs := [(.int .i64 0), (.int .i64 0)]) (vs := (Z14 (a1.getD v1.toNat Z2c)).cells) (ds := (Z14 (a1.getD v1.toNat Z2c)).cells) (v := (Z14 (a1.getD v1.toNat Z2c))) sz177 I I I I I I I I) I <| Ze <| Zf <| Zg <| Za ?_
     refine Z1 I (Zh (v := (.clo 173 [])) I I) I <| Z1 I (Z1q (cs := (Z14 (a0.getD v1.toNat Z2c)).cells) (vs := (Z14 (a0.getD v1.toNat Z2c)).cells) I a177 I I I I) I <| Z1 I (Z1q (cs := (Z14 (a1.getD v1.toNat Z2c)).cells) (vs := (Z14 (a1.getD v1.toNat Z2c)).cells) I a177 I I I I) I ?_
     have ⟨v9, hv9, h⟩ := Z1g h
     refine Z1 I (Z1i (ar := [(Z14 (a0.getD v1.toNat Z2c)), (Z14 (a1.getD v1.toNat Z2c))]) (caps := []) Tryz.call173 (F173_ok K (a0.getD v1.toNat Z2c) (a1.getD v1.toNat Z2c) v9 hv9) I I ⟨rfl, rfl, trivial⟩ I) I <| Z1 I (Zi (v := (.int .i64 v9)) I I) I <| Ze <| Zf <| Zg <| Za <| Z1 I (Zh (v := (.int .i64 v9)) I I) I <| Z1 I (Z1w (k := .i64) (a := v9) (b := 0) (c := (v9 != 0)) I I I I) I ?_
     refine Ze <| Zf ?_
     have hif := Z1y h
     refine Z13 I (fun hc => ?_) (fun hc => ?_)
     ·have h := hif.1 hc
      refine Zg <| Za <| Z1 I (Zh (v := (.int .i64 v9)) I I) I <| Z1 I (Zi (v := (.int .i64 v9)) I I) I <| Ze <| Zf <| Z1a <| At.overR ?_
      refine Z1b ?_
      refine Z1b (At.overR ?_)
      refine Z1b ?_
      have h := Option.some.inj h
      subst h
      refine (hret _ ?_).1
      exact ⟨[(.int .i64 v9)], ⟨rfl, trivial⟩, rfl, trivial⟩
     ·have h := hif.2 hc
      refine Z16 <| At.end <| Zf <| Za <| Z1 I (Z1n (k := .i64) (a := v1) (b := 1) (c := (IntKind.i64.wrap (v1 + 1))) I I I I) I <| Z1 I (Zh (v := (.int .i64 (IntKind.i64.wrap (v1 + 1)))) I I) I <| Ze ?_
      exact Zw (st' := ⟨[(0, (.sl 2 (a0.map Z14) false)), (1, (.sl 2 (a1.map Z14) false)), (2, (.clo 173 [])), (11, (.sl 2 (a0.map Z14) false)), (12, (.int .i64 (a0.length : Int))), (13, (.int .i64 (IntKind.i64.wrap (v1 + 1))))], []⟩) ⟨rfl, rfl, rfl, rfl, rfl, rfl, trivial⟩ trivial (IH2 _ (IntKind.i64.wrap (v1 + 1)) (Nat.lt_succ_self _) h)
   ·have h := hif.2 hc
    refine AWp.exit <| At.thru ?_
    exact Zw (st' := ⟨[(0, (.sl 2 (a0.map Z14) false)), (1, (.sl 2 (a1.map Z14) false))], []⟩) ⟨rfl, rfl, trivial⟩ trivial (J2 () h)
def F137 (K : Nat) (a0 : Zn) (a1 : Zn) : Option (Int) :=
 (F169 K [a0.Trace, a0.Id, a0.Revision, a0.Parent, a0.Clock, a0.Kind] [a1.Trace, a1.Id, a1.Revision, a1.Parent, a1.Clock, a1.Kind]).bind fun v2 =>
  (F69 K a0.Service a1.Service).bind fun v4 =>
   (F69 K a0.Version a1.Version).bind fun v6 =>
    (F69 K a0.Operation a1.Operation).bind fun v8 =>
     (F68 K a0.Start a1.Start).bind fun v10 =>
      (F68 K a0.End a1.End).bind fun v12 =>
       (F170 K a0.Error).bind fun v14 =>
        (F170 K a1.Error).bind fun v16 =>
         (F171 K a0.Attrs a1.Attrs).bind fun v18 =>
          (F172 K a0.Links a1.Links).bind fun v20 =>
           (F67 K [v2, v4, v6, v8, v10, v12, (IntKind.i64.wrap (v14 - v16)), v18, v20]).bind fun v22 =>
            some v22
theorem F137_ok (K : Nat) (a0 : Zn) (a1 : Zn) (r : Int) (h : F137 K a0 a1 = some r) : ACall P 137 ⟨[(Zc a0), (Zc a1)], [], (.int .i64 r), [], []⟩ := by
 refine Z1p Tryz.func137 Tryz.results137 rfl Tryz.ntmps137 rfl rfl rfl ?_
 intro E Q hP hN hro hret
 obtain ⟨P', nt', w0, F0, p0, S0, β0, ro0⟩ := E
 simp only at hP hN
 subst hP hN
 dsimp only [argT]
 unfold F137 at h
 refine Zg <| Za <| Z1 I (Z2l (v := (Zc a0)) (cs := (Zc a0).cells) I I I I I) I <| Z1 I (Z2l (v := (Zc a1)) (cs := (Zc a1).cells) I I I I I) I <| Z1 I (Zi (v := (.int .i64 0)) I I) I <| Ze <| Zf <| Zg ?_
 refine Za <| Z1 I (Zp (m := 2) (o := 0) I f56_0 I I) I <| Z1 I (Zu (cs := (Zc a0).cells) (v := (.int .i64 a0.Trace)) I o3 I I I) I <| Z1 I (Zp (m := 2) (o := 0) I f56_1 I I) I <| Z1 I (Zu (cs := (Zc a0).cells) (v := (.int .i64 a0.Id)) I o3 I I I) I <| Z1 I (Zp (m := 2) (o := 0) I f56_3 I I) I <| Z1 I (Zu (cs := (Zc a0).cells) (v := (.int .i64 a0.Revision)) I o3 I I I) I <| Z1 I (Zp (m := 2) (o := 0) I f56_2 I I) I ?_
 refine Z1 I (Zu (cs := (Zc a0).cells) (v := (.int .i64 a0.Parent)) I o3 I I I) I <| Z1 I (Zp (m := 2) (o := 0) I f56_4 I I) I <| Z1 I (Zu (cs := (Zc a0).cells) (v := (.int .i64 a0.Clock)) I o3 I I I) I <| Z1 I (Zp (m := 2) (o := 0) I f56_5 I I) I <| Z1 I (Zu (cs := (Zc a0).cells) (v := (.int .i64 a0.Kind)) I o3 I I I) I <| Z1 I (Zbu (vs := [(0, (.int .i64 a0.Trace)), (1, (.int .i64 a0.Id)), (2, (.int .i64 a0.Revision)), (3, (.int .i64 a0.Parent)), (4, (.int .i64 a0.Clock)), (5, (.int .i64 a0.Kind))]) (cs := [(.int .i64 a0.Trace), (.int .i64 a0.Id), (.int .i64 a0.Revision), (.int .i64 a0.Parent), (.int .i64 a0.Clock), (.int .i64 a0.Kind)]) I ar255 ⟨rfl, rfl, rfl, rfl, rfl, rfl, rfl, rfl, rfl, rfl, rfl, rfl, trivial⟩ I) I <| Z1 I (Z22 (cs := [(.int .i64 0), (.int .i64 0), (.int .i64 0), (.int .i64 0), (.int .i64 0), (.int .i64 0)]) I z255 I I I) I <| Z1 I (Z1j (cs := [(.int .i64 0), (.int .i64 0), (.int .i64 0), (.int .i64 0), (.int .i64 0), (.int .i64 0)]) (vs := [(.int .i64 a0.Trace), (.int .i64 a0.Id), (.int .i64 a0.Revision), (.int .i64 a0.Parent), (.int .i64 a0.Clock), (.int .i64 a0.Kind)]) (ds := [(.int .i64 a0.Trace), (.int .i64 a0.Id), (.int .i64 a0.Revision), (.int .i64 a0.Parent), (.int .i64 a0.Clock), (.int .i64 a0.Kind)]) (v := (.ag [(.int .i64 a0.Trace), (.int .i64 a0.Id), (.int .i64 a0.Revision), (.int .i64 a0.Parent), (.int .i64 a0.Clock), (.int .i64 a0.Kind)])) sz255 I I I I I I I I) I ?_
 refine Ze <| Zf <| Zg <| Za <| Z1 I (Zp (m := 3) (o := 0) I f56_0 I I) I <| Z1 I (Zu (cs := (Zc a1).cells) (v := (.int .i64 a1.Trace)) I o3 I I I) I <| Z1 I (Zp (m := 3) (o := 0) I f56_1 I I) I <| Z1 I (Zu (cs := (Zc a1).cells) (v := (.int .i64 a1.Id)) I o3 I I I) I ?_
 refine Z1 I (Zp (m := 3) (o := 0) I f56_3 I I) I <| Z1 I (Zu (cs := (Zc a1).cells) (v := (.int .i64 a1.Revision)) I o3 I I I) I <| Z1 I (Zp (m := 3) (o := 0) I f56_2 I I) I <| Z1 I (Zu (cs := (Zc a1).cells) (v := (.int .i64 a1.Parent)) I o3 I I I) I <| Z1 I (Zp (m := 3) (o := 0) I f56_4 I I) I <| Z1 I (Zu (cs := (Zc a1).cells) (v := (.int .i64 a1.Clock)) I o3 I I I) I <| Z1 I (Zp (m := 3) (o := 0) I f56_5 I I) I <| Z1 I (Zu (cs := (Zc a1).cells) (v := (.int .i64 a1.Kind)) I o3 I I I) I ?_
 refine Z1 I (Zbu (vs := [(0, (.int .i64 a1.Trace)), (1, (.int .i64 a1.Id)), (2, (.int .i64 a1.Revision)), (3, (.int .i64 a1.Parent)), (4, (.int .i64 a1.Clock)), (5, (.int .i64 a1.Kind))]) (cs := [(.int .i64 a1.Trace), (.int .i64 a1.Id), (.int .i64 a1.Revision), (.int .i64 a1.Parent), (.int .i64 a1.Clock), (.int .i64 a1.Kind)]) I ar255 ⟨rfl, rfl, rfl, rfl, rfl, rfl, rfl, rfl, rfl, rfl, rfl, rfl, trivial⟩ I) I <| Z1 I (Z22 (cs := [(.int .i64 0), (.int .i64 0), (.int .i64 0), (.int .i64 0), (.int .i64 0), (.int .i64 0)]) I z255 I I I) I <| Z1 I (Z1j (cs := [(.int .i64 0), (.int .i64 0), (.int .i64 0), (.int .i64 0), (.int .i64 0), (.int .i64 0)]) (vs := [(.int .i64 a1.Trace), (.int .i64 a1.Id), (.int .i64 a1.Revision), (.int .i64 a1.Parent), (.int .i64 a1.Clock), (.int .i64 a1.Kind)]) (ds := [(.int .i64 a1.Trace), (.int .i64 a1.Id), (.int .i64 a1.Revision), (.int .i64 a1.Parent), (.int .i64 a1.Clock), (.int .i64 a1.Kind)]) (v := (.ag [(.int .i64 a1.Trace), (.int .i64 a1.Id), (.int .i64 a1.Revision), (.int .i64 a1.Parent), (.int .i64 a1.Clock), (.int .i64 a1.Kind)])) sz255 I I I I I I I I) I <| Ze <| Zf <| Zg <| AWp.ghost (st' := ⟨[(2, (.ptr 2 0)), (3, (.ptr 3 0)), (4, (.int .i64 0)), (5, (.ip [(.int .i64 a0.Trace), (.int .i64 a0.Id), (.int .i64 a0.Revision), (.int .i64 a0.Parent), (.int .i64 a0.Clock), (.int .i64 a0.Kind)])), (6, (.ptr 6 0))], [(2, (.box (Zc a0).cells)), (3, (.box (Zc a1).cells)), (6, (.box [(.int .i64 a1.Trace), (.int .i64 a1.Id), (.int .i64 a1.Revision), (.int .i64 a1.Parent), (.int .i64 a1.Clock), (.int .i64 a1.Kind)]))]⟩) (fun a w h => (Z1c ⟨[(2, (.ptr 2 0)), (3, (.ptr 3 0)), (4, (.int .i64 0)), (5, (.ip [(.int .i64 a0.Trace), (.int .i64 a0.Id), (.int .i64 a0.Revision), (.int .i64 a0.Parent), (.int .i64 a0.Clock), (.int .i64 a0.Kind)])), (6, (.ptr 6 0))], [(2, (.box (Zc a0).cells)), (3, (.box (Zc a1).cells)), (6, (.box [(.int .i64 a1.Trace), (.int .i64 a1.Id), (.int .i64 a1.Revision), (.int .i64 a1.Parent), (.int .i64 a1.Clock), (.int .i64 a1.Kind)]))]⟩ (Z4h (m := 5) (cs := [(.int .i64 a0.Trace), (.int .i64 a0.Id), (.int .i64 a0.Revision), (.int .i64 a0.Parent), (.int .i64 a0.Clock), (.int .i64 a0.Kind)]) I a w (Z1c ⟨[(2, (.ptr 2 0)), (3, (.ptr 3 0)), (4, (.int .i64 0)), (5, (.ptr 5 0)), (6, (.ptr 6 0))], [(5, (.box [(.int .i64 a0.Trace), (.int .i64 a0.Id), (.int .i64 a0.Revision), (.int .i64 a0.Parent), (.int .i64 a0.Clock), (.int .i64 a0.Kind)])), (2, (.box (Zc a0).cells)), (3, (.box (Zc a1).cells)), (6, (.box [(.int .i64 a1.Trace), (.int .i64 a1.Id), (.int .i64 a1.Revision), (.int .i64 a1.Parent), (.int .i64 a1.Clock), (.int .i64 a1.Kind)]))]⟩ h ⟨rfl, rfl, rfl, rfl, rfl, trivial⟩ ⟨rfl, rfl, rfl, rfl, trivial⟩)) ⟨rfl, rfl, rfl, rfl, rfl, trivial⟩ ⟨rfl, rfl, rfl, trivial⟩)) <| AWp.ghost (st' := ⟨[(2, (.ptr 2 0)), (3, (.ptr 3 0)), (4, (.int .i64 0)), (5, (.ip [(.int .i64 a0.Trace), (.int .i64 a0.Id), (.int .i64 a0.Revision), (.int .i64 a0.Parent), (.int .i64 a0.Clock), (.int .i64 a0.Kind)])), (6, (.ip [(.int .i64 a1.Trace), (.int .i64 a1.Id), (.int .i64 a1.Revision), (.int .i64 a1.Parent), (.int .i64 a1.Clock), (.int .i64 a1.Kind)]))], [(2, (.box (Zc a0).cells)), (3, (.box (Zc a1).cells))]⟩) (fun a w h => (Z1c ⟨[(2, (.ptr 2 0)), (3, (.ptr 3 0)), (4, (.int .i64 0)), (5, (.ip [(.int .i64 a0.Trace), (.int .i64 a0.Id), (.int .i64 a0.Revision), (.int .i64 a0.Parent), (.int .i64 a0.Clock), (.int .i64 a0.Kind)])), (6, (.ip [(.int .i64 a1.Trace), (.int .i64 a1.Id), (.int .i64 a1.Revision), (.int .i64 a1.Parent), (.int .i64 a1.Clock), (.int .i64 a1.Kind)]))], [(2, (.box (Zc a0).cells)), (3, (.box (Zc a1).cells))]⟩ (Z4h (m := 6) (cs := [(.int .i64 a1.Trace), (.int .i64 a1.Id), (.int .i64 a1.Revision), (.int .i64 a1.Parent), (.int .i64 a1.Clock), (.int .i64 a1.Kind)]) I a w (Z1c ⟨[(2, (.ptr 2 0)), (3, (.ptr 3 0)), (4, (.int .i64 0)), (5, (.ip [(.int .i64 a0.Trace), (.int .i64 a0.Id), (.int .i64 a0.Revision), (.int .i64 a0.Parent), (.int .i64 a0.Clock), (.int .i64 a0.Kind)])), (6, (.ptr 6 0))], [(6, (.box [(.int .i64 a1.Trace), (.int .i64 a1.Id), (.int .i64 a1.Revision), (.int .i64 a1.Parent), (.int .i64 a1.Clock), (.int .i64 a1.Kind)])), (2, (.box (Zc a0).cells)), (3, (.box (Zc a1).cells))]⟩ h ⟨rfl, rfl, rfl, rfl, rfl, trivial⟩ ⟨rfl, rfl, rfl, trivial⟩)) ⟨rfl, rfl, rfl, rfl, rfl, trivial⟩ ⟨rfl, rfl, trivial⟩)) ?_
 refine AWp.regionD mixed <| Z9 0 I (st_sliceI (l := [a0.Trace, a0.Id, a0.Revision, a0.Parent, a0.Clock, a0.Kind]) (enc := Z15) (cs := [(.int .i64 a0.Trace), (.int .i64 a0.Id), (.int .i64 a0.Revision), (.int .i64 a0.Parent), (.int .i64 a0.Clock), (.int .i64 a0.Kind)]) I u255 sz3 I I I I Z2y) <| Z9 1 I (st_sliceI (l := [a1.Trace, a1.Id, a1.Revision, a1.Parent, a1.Clock, a1.Kind]) (enc := Z15) (cs := [(.int .i64 a1.Trace), (.int .i64 a1.Id), (.int .i64 a1.Revision), (.int .i64 a1.Parent), (.int .i64 a1.Clock), (.int .i64 a1.Kind)]) I u255 sz3 I I I I Z2y) ?_
 have ⟨v2, hv2, h⟩ := Z1g h
 refine Z9 2 I (Z1i (ar := [(.sl 1 ([a0.Trace, a0.Id, a0.Revision, a0.Parent, a0.Clock, a0.Kind].map Z15) false), (.sl 1 ([a1.Trace, a1.Id, a1.Revision, a1.Parent, a1.Clock, a1.Kind].map Z15) false)]) (caps := []) Tryz.call169 (F169_ok K [a0.Trace, a0.Id, a0.Revision, a0.Parent, a0.Clock, a0.Kind] [a1.Trace, a1.Id, a1.Revision, a1.Parent, a1.Clock, a1.Kind] v2 hv2) I I ⟨rfl, rfl, trivial⟩ I) <| Z9 3 I (Zp (m := 2) (o := 0) I f56_6 I I) <| Z9 4 I (Zu (cs := (Zc a0).cells) (v := (.str a0.Service)) I o9 I I I) <| Z9 5 I (Zp (m := 3) (o := 0) I f56_6 I I) <| Z9 6 I (Zu (cs := (Zc a1).cells) (v := (.str a1.Service)) I o9 I I I) ?_
 have ⟨v4, hv4, h⟩ := Z1g h
 refine Z9 7 I (Z1i (ar := [(.str a0.Service), (.str a1.Service)]) (caps := []) Tryz.call69 (Z83 K a0.Service a1.Service v4 hv4) I I ⟨rfl, rfl, trivial⟩ I) <| Z9 8 I (Zp (m := 2) (o := 0) I f56_7 I I) <| Z9 9 I (Zu (cs := (Zc a0).cells) (v := (.str a0.Version)) I o9 I I I) <| Z9 10 I (Zp (m := 3) (o := 0) I f56_7 I I) <| Z9 11 I (Zu (cs := (Zc a1).cells) (v := (.str a1.Version)) I o9 I I I) ?_
 have ⟨v6, hv6, h⟩ := Z1g h
 refine Z9 12 I (Z1i (ar := [(.str a0.Version), (.str a1.Version)]) (caps := []) Tryz.call69 (Z83 K a0.Version a1.Version v6 hv6) I I ⟨rfl, rfl, trivial⟩ I) <| Z9 13 I (Zp (m := 2) (o := 0) I f56_8 I I) <| Z9 14 I (Zu (cs := (Zc a0).cells) (v := (.str a0.Operation)) I o9 I I I) <| Z9 15 I (Zp (m := 3) (o := 0) I f56_8 I I) <| Z9 16 I (Zu (cs := (Zc a1).cells) (v := (.str a1.Operation)) I o9 I I I) ?_
 have ⟨v8, hv8, h⟩ := Z1g h
 refine Z9 17 I (Z1i (ar := [(.str a0.Operation), (.str a1.Operation)]) (caps := []) Tryz.call69 (Z83 K a0.Operation a1.Operation v8 hv8) I I ⟨rfl, rfl, trivial⟩ I) <| Z9 18 I (Zp (m := 2) (o := 0) I f56_9 I I) <| Z9 19 I (Zu (cs := (Zc a0).cells) (v := (.int .i64 a0.Start)) I o3 I I I) <| Z9 20 I (Zp (m := 3) (o := 0) I f56_9 I I) <| Z9 21 I (Zu (cs := (Zc a1).cells) (v := (.int .i64 a1.Start)) I o3 I I I) ?_
 have ⟨v10, hv10, h⟩ := Z1g h
 refine Z9 22 I (Z1i (ar := [(.int .i64 a0.Start), (.int .i64 a1.Start)]) (caps := []) Tryz.call68 (Z9q K a0.Start a1.Start v10 hv10) I I ⟨rfl, rfl, trivial⟩ I) <| Z9 23 I (Zp (m := 2) (o := 0) I f56_10 I I) <| Z9 24 I (Zu (cs := (Zc a0).cells) (v := (.int .i64 a0.End)) I o3 I I I) <| Z9 25 I (Zp (m := 3) (o := 0) I f56_10 I I) <| Z9 26 I (Zu (cs := (Zc a1).cells) (v := (.int .i64 a1.End)) I o3 I I I) ?_
 have ⟨v12, hv12, h⟩ := Z1g h
 refine Z9 27 I (Z1i (ar := [(.int .i64 a0.End), (.int .i64 a1.End)]) (caps := []) Tryz.call68 (Z9q K a0.End a1.End v12 hv12) I I ⟨rfl, rfl, trivial⟩ I) <| Z9 28 I (Zp (m := 2) (o := 0) I f56_11 I I) <| Z9 29 I (Zu (cs := (Zc a0).cells) (v := (.bool a0.Error)) I o4 I I I) ?_
 have ⟨v14, hv14, h⟩ := Z1g h
 refine Z9 30 I (Z1i (ar := [(.bool a0.Error)]) (caps := []) Tryz.call170 (F170_ok K a0.Error v14 hv14) I I ⟨rfl, trivial⟩ I) <| Z9 31 I (Zp (m := 3) (o := 0) I f56_11 I I) <| Z9 32 I (Zu (cs := (Zc a1).cells) (v := (.bool a1.Error)) I o4 I I I) ?_
 have ⟨v16, hv16, h⟩ := Z1g h
 refine Z9 33 I (Z1i (ar := [(.bool a1.Error)]) (caps := []) Tryz.call170 (F170_ok K a1.Error v16 hv16) I I ⟨rfl, trivial⟩ I) <| Z9 34 I (Z1n (k := .i64) (a := v14) (b := v16) (c := (IntKind.i64.wrap (v14 - v16))) I I I I) <| Z9 35 I (Zp (m := 2) (o := 0) I f56_12 I I) <| Z9 36 I (Zu (cs := (Zc a0).cells) (v := (.sl 4 (a0.Attrs.map Z10) false)) I o53 I I I) <| Z9 37 I (Zp (m := 3) (o := 0) I f56_12 I I) <| Z9 38 I (Zu (cs := (Zc a1).cells) (v := (.sl 4 (a1.Attrs.map Z10) false)) I o53 I I I) ?_
 have ⟨v18, hv18, h⟩ := Z1g h
 refine Z9 39 I (Z1i (ar := [(.sl 4 (a0.Attrs.map Z10) false), (.sl 4 (a1.Attrs.map Z10) false)]) (caps := []) Tryz.call171 (F171_ok K a0.Attrs a1.Attrs v18 hv18) I I ⟨rfl, rfl, trivial⟩ I) <| Z9 40 I (Zp (m := 2) (o := 0) I f56_13 I I) <| Z9 41 I (Zu (cs := (Zc a0).cells) (v := (.sl 2 (a0.Links.map Z14) false)) I o54 I I I) <| Z9 42 I (Zp (m := 3) (o := 0) I f56_13 I I) <| Z9 43 I (Zu (cs := (Zc a1).cells) (v := (.sl 2 (a1.Links.map Z14) false)) I o54 I I I) ?_
 have ⟨v20, hv20, h⟩ := Z1g h
 refine Z9 44 I (Z1i (ar := [(.sl 2 (a0.Links.map Z14) false), (.sl 2 (a1.Links.map Z14) false), (.clo 173 [])]) (caps := []) Tryz.call172 (F172_ok K a0.Links a1.Links v20 hv20) I I ⟨rfl, rfl, rfl, trivial⟩ I) <| Z9 45 I (Z1d (vs := [(.int .i64 v2), (.int .i64 v4), (.int .i64 v6), (.int .i64 v8), (.int .i64 v10), (.int .i64 v12), (.int .i64 (IntKind.i64.wrap (v14 - v16))), (.int .i64 v18), (.int .i64 v20)]) (enc := Z15) (l := [v2, v4, v6, v8, v10, v12, (IntKind.i64.wrap (v14 - v16)), v18, v20]) I el65 I I ⟨rfl, rfl, rfl, rfl, rfl, rfl, rfl, rfl, rfl, trivial⟩ I Z2y I I I I) ?_
 have ⟨v22, hv22, h⟩ := Z1g h
 refine Z9 46 I (Z6l (rd := [(78, (.vec 1 (List.map Z15 [v2, v4, v6, v8, v10, v12, (IntKind.i64.wrap (v14 - v16)), v18, v20])))]) (ar := [(.vs 78)]) (caps := []) Tryz.call67 (F67_ok K [v2, v4, v6, v8, v10, v12, (IntKind.i64.wrap (v14 - v16)), v18, v20] v22 hv22) I I ⟨rfl, trivial⟩ (Z5f ⟨rfl, trivial⟩) I I I) <| Z9 47 I (Zi (v := (.int .i64 v22)) I I) <| AOpsD.nil (by kernel_rfl) I <| Zf <| Z1a ?_
 have h := Option.some.inj h
 subst h
 refine (hret _ ?_).1
 exact ⟨[(.int .i64 v22)], ⟨rfl, trivial⟩, rfl, trivial⟩
def F135 (K : Nat) (a000 : (List Zn)) : Option ((List Zn)) :=
 (F166 K a000).bind fun v2 =>
  (sortF (fun a b => F137 K a b) v2).bind fun v4 =>
   some v4
theorem F135_ok (K : Nat) (a000 : (List Zn)) (r : (List Zn)) (h : F135 K a000 = some r) : ACall P 135 ⟨[(.clo 168 [(.ip [(.sl 14 (a000.map Zc) false)])]), (.clo 137 [])], [], .vs 4, [(4, .vec 14 (List.map Zc r))], [4]⟩ := by
 refine Z1p Tryz.func135 Tryz.results135 rfl Tryz.ntmps135 rfl rfl rfl ?_
 intro E Q hP hN hro hret
 obtain ⟨P', nt', w0, F0, p0, S0, β0, ro0⟩ := E
 simp only at hP hN
 subst hP hN
 dsimp only [argT]
 unfold F135 at h
 refine Zg <| Za <| Z1 I (Zi (v := (.sl 14 [] false)) I I) I <| Ze <| Zf <| Zg <| Za <| Z1 I (Zh (v := (.clo 168 [(.ip [(.sl 14 (a000.map Zc) false)])])) I I) I ?_
 have ⟨v2, hv2, h⟩ := Z1g h
 refine Z1 I (Z9k (sz := 14) (es := (List.map Zc v2)) (ar := [(.clo 168 [(.ip [(.sl 14 (a000.map Zc) false)])])]) (caps := []) Tryz.call166 ((F166_ok K a000 v2 hv2).sw 2 7) I I ⟨rfl, trivial⟩ I) I <| Z1 I (Zi (v := (.vs 7)) I I) I <| Ze <| Zf <| Zg <| Za <| Z1 I (Zh (v := (.vs 7)) I I) I <| Z1 I (Zh (v := (.clo 137 [])) I I) I ?_
 have ⟨v4, hv4, h⟩ := Z1g h
 refine Z1 I (Z33 (d := some 10) (c := ⟨[(.vs 7), (.clo 137 [])], [(7, (.vec 14 (List.map Zc v2)))], .tup [], [(7, .vec 14 (List.map Zc v4))], []⟩) (ar := [(.vs 7), (.clo 137 [])]) (caps := []) (news := []) (forg := []) Tryz.call167 (sort_ok (n := 7) (enc := Zc) (l := v2) (caps := []) (c := (fun a b => F137 K a b)) sortC167 Tryz.call137 Z2x (fun _ => I) (fun a b m hm => F137_ok K a b m hm) hv4) I I ⟨rfl, rfl, trivial⟩ I ⟨rfl, trivial⟩ I) I <| Ze <| Zf <| Zg <| Za <| Z1 I (Zh (v := (.vs 7)) I I) I <| Z1 I (Zi (v := (.vs 7)) I I) I <| Ze ?_
 refine Zf <| Z1a <| At.ghost (st' := ⟨[(4, (.vs 4))], [(4, (.vec 14 (List.map Zc v4)))]⟩) (fun a w h => (Z1c ⟨[(4, (.vs 4))], [(4, (.vec 14 (List.map Zc v4)))]⟩ (Z42 (a := 7) (b := 4) I I a w (Z1c ⟨[(4, (.vs 7))], [(7, (.vec 14 (List.map Zc v4)))]⟩ h ⟨rfl, trivial⟩ ⟨rfl, trivial⟩)) ⟨rfl, trivial⟩ ⟨rfl, trivial⟩)) ?_
 have h := Option.some.inj h
 subst h
 refine (hret _ ?_).1
 exact ⟨[(.vs 4)], ⟨rfl, trivial⟩, rfl, ⟨rfl, trivial⟩⟩
def F138 (K : Nat) (a0 : Zn) (a1 : Zn) : Option (Bool) :=
 (F137 K a0 a1).bind fun v2 =>
  some (v2 == 0)
theorem F138_ok (K : Nat) (a0 : Zn) (a1 : Zn) (r : Bool) (h : F138 K a0 a1 = some r) : ACall P 138 ⟨[(Zc a0), (Zc a1)], [], (.bool r), [], []⟩ := by
 refine Z1p Tryz.func138 Tryz.results138 rfl Tryz.ntmps138 rfl rfl rfl ?_
 intro E Q hP hN hro hret
 obtain ⟨P', nt', w0, F0, p0, S0, β0, ro0⟩ := E
 simp only at hP hN
 subst hP hN
 dsimp only [argT]
 unfold F138 at h
 refine Zg <| Za <| Z1 I (Z2l (v := (Zc a0)) (cs := (Zc a0).cells) I I I I I) I <| Z1 I (Z2l (v := (Zc a1)) (cs := (Zc a1).cells) I I I I I) I <| Z1 I (Zi (v := (.bool false)) I I) I <| Ze <| Zf <| Zg ?_
 refine Za <| Z1 I (Z1q (cs := (Zc a0).cells) (vs := (Zc a0).cells) I a56 I I I I) I <| Z1 I (Z1q (cs := (Zc a1).cells) (vs := (Zc a1).cells) I a56 I I I I) I ?_
 have ⟨v2, hv2, h⟩ := Z1g h
 refine Z1 I (Z1i (ar := [(Zc a0), (Zc a1)]) (caps := []) Tryz.call137 (F137_ok K a0 a1 v2 hv2) I I ⟨rfl, rfl, trivial⟩ I) I <| Z1 I (Z1w (k := .i64) (a := v2) (b := 0) (c := (v2 == 0)) I I I I) I <| Z1 I (Zi (v := (.bool (v2 == 0))) I I) I <| Ze <| Zf <| Z1a ?_
 have h := Option.some.inj h
 subst h
 refine (hret _ ?_).1
 exact ⟨[(.bool (v2 == 0))], ⟨rfl, trivial⟩, rfl, trivial⟩
def F134_c3 (K : Nat) (a0 : (List Zn)) : Option ((List Zn)) :=
 some a0
def Z7z (K : Nat) (v18 : Int) (v19 : (List Zn)) : Option ((List Zn)) :=
 if (0 : Int) ≤ v18 ∧ v18 ≤ (v19.length : Int) ∧ (v19.length : Int) ≤ (v19.length : Nat) then
  if (0 + v18.toNat) + ((v19.length : Int).toNat - v18.toNat) ≤ v19.length then
   if (0 + v18.toNat) + ((v19.length : Int).toNat - v18.toNat) ≤ v19.length then
    if (0 : Int) ≤ 0 ∧ 0 ≤ v18 ∧ v18 ≤ ((v19.take (0 + v18.toNat) ++ List.replicate ((v19.length : Int).toNat - v18.toNat) Z6 ++ v19.drop ((0 + v18.toNat) + ((v19.length : Int).toNat - v18.toNat))).length : Nat) then
     if (0 + (0 : Int).toNat) + (v18.toNat - (0 : Int).toNat) ≤ (v19.take (0 + v18.toNat) ++ List.replicate ((v19.length : Int).toNat - v18.toNat) Z6 ++ v19.drop ((0 + v18.toNat) + ((v19.length : Int).toNat - v18.toNat))).length then
      some (((v19.take (0 + v18.toNat) ++ List.replicate ((v19.length : Int).toNat - v18.toNat) Z6 ++ v19.drop ((0 + v18.toNat) + ((v19.length : Int).toNat - v18.toNat))).drop (0 + (0 : Int).toNat)).take (v18.toNat - (0 : Int).toNat))
     else none
    else none
   else none
  else none
 else none
def Z9j (K : Nat) (b27 : Int → Int → (List Zn) → Option ((List Zn))) (v15 : Int) (v37 : Int) (v38 : (List Zn)) : Option ((List Zn)) :=
 b27 v37 (IntKind.i64.wrap (v15 + 1)) v38
def Z6a (K : Nat) (v1 : Int) (a0 : (List Zn)) (c21 : Int → (List Zn) → Option ((List Zn))) : Nat → Int → Int → (List Zn) → Option ((List Zn))
 | 0, _, _, _ => none
 | k17 + 1, v14, v15, v16 =>
  if (0 + v1.toNat) + ((a0.length : Int).toNat - v1.toNat) ≤ v16.length then
   if (decide (v15 < ((((a0.length : Int).toNat - v1.toNat) : Nat) : Int))) = true then
    if (0 + v1.toNat) + ((a0.length : Int).toNat - v1.toNat) ≤ v16.length then
     if (0 : Int) ≤ v15 ∧ v15 < (((a0.length : Int).toNat - v1.toNat) : Nat) then
      if ((0 + v1.toNat) + v15.toNat) < v16.length then
       if (0 + v1.toNat) + ((a0.length : Int).toNat - v1.toNat) ≤ v16.length then
        if (0 : Int) ≤ (IntKind.i64.wrap (v15 - 1)) ∧ (IntKind.i64.wrap (v15 - 1)) < (((a0.length : Int).toNat - v1.toNat) : Nat) then
         if ((0 + v1.toNat) + (IntKind.i64.wrap (v15 - 1)).toNat) < v16.length then
          (F138 K (v16.getD ((0 + v1.toNat) + v15.toNat) Z6) (v16.getD ((0 + v1.toNat) + (IntKind.i64.wrap (v15 - 1)).toNat) Z6)).bind fun v36 =>
           if (!v36) = true then
            if (0 + v1.toNat) + ((a0.length : Int).toNat - v1.toNat) ≤ v16.length then
             if (0 : Int) ≤ v15 ∧ v15 < (((a0.length : Int).toNat - v1.toNat) : Nat) then
              if ((0 + v1.toNat) + v15.toNat) < v16.length then
               if (0 : Int) ≤ v14 ∧ v14 < (v16.length : Nat) then
                if v14.toNat < v16.length then
                 Z9j K (Z6a K v1 a0 c21 k17) v15 (IntKind.i64.wrap (v14 + 1)) (v16.set v14.toNat (v16.getD ((0 + v1.toNat) + v15.toNat) Z6))
                else none
               else none
              else none
             else none
            else none
           else
            Z9j K (Z6a K v1 a0 c21 k17) v15 v14 v16
         else none
        else none
       else none
      else none
     else none
    else none
   else
    c21 v14 v16
  else none
def F134_l2 (K : Nat) (a0 : (List Zn)) (c4 : Option ((List Zn))) : Nat → Int → Option ((List Zn))
 | 0, _ => none
 | k2 + 1, v1 =>
  if (decide (v1 < (a0.length : Int))) = true then
   if (0 : Int) ≤ v1 ∧ v1 < (a0.length : Nat) then
    if v1.toNat < a0.length then
     if (0 : Int) ≤ (IntKind.i64.wrap (v1 - 1)) ∧ (IntKind.i64.wrap (v1 - 1)) < (a0.length : Nat) then
      if (IntKind.i64.wrap (v1 - 1)).toNat < a0.length then
       (F138 K (a0.getD v1.toNat Z6) (a0.getD (IntKind.i64.wrap (v1 - 1)).toNat Z6)).bind fun v11 =>
        if v11 = true then
         if (0 : Int) ≤ v1 ∧ v1 ≤ (a0.length : Int) ∧ (a0.length : Int) ≤ (a0.length : Nat) then
          if (0 + v1.toNat) + ((a0.length : Int).toNat - v1.toNat) ≤ a0.length then
           Z6a K v1 a0 (Z7z K) K v1 1 a0
          else none
         else none
        else
         (F134_l2 K a0 c4 k2) (IntKind.i64.wrap (v1 + 1))
      else none
     else none
    else none
   else none
  else
   c4
def F134 (K : Nat) (a0 : (List Zn)) : Option ((List Zn)) :=
 if (decide ((a0.length : Int) < 2)) = true then
  some a0
 else
  F134_l2 K a0 (F134_c3 K a0) K 1
theorem F134_ok (K : Nat) (a0 : (List Zn)) (r : (List Zn)) (h : F134 K a0 = some r) : ACall P 134 ⟨[(.vs 0), (.clo 138 [])], [(0, .vec 14 (List.map Zc a0))], .vs 0, [(0, .vec 14 (List.map Zc r))], [0]⟩ := by
 refine Z1p Tryz.func134 Tryz.results134 rfl Tryz.ntmps134 rfl rfl rfl ?_
 intro E Q hP hN hro hret
 obtain ⟨P', nt', w0, F0, p0, S0, β0, ro0⟩ := E
 simp only at hP hN
 subst hP hN
 dsimp only [argT]
 unfold F134 at h
 refine Zg <| Za <| Z1 I (Zi (v := (.sl 14 [] false)) I I) I <| Ze <| Zf <| Zg <| Zg <| Za ?_
 refine Z1 I (Zh (v := (.vs 0)) I I) I <| Z1 I (Z3u (l := a0) (enc := Zc) I u37 I I) I <| Z1 I (Z1w (k := .i64) (a := (a0.length : Int)) (b := 2) (c := (decide ((a0.length : Int) < 2))) I I I I) I <| Ze <| Zf ?_
 have hif := Z1y h
 refine Z13 I (fun hc => ?_) (fun hc => ?_)
 ·have h := hif.1 hc
  refine Zg <| Za <| Z1 I (Zh (v := (.vs 0)) I I) I <| Z1 I (Zi (v := (.vs 0)) I I) I <| Ze <| Zf <| Z1a <| Z1b ?_
  have h := Option.some.inj h
  subst h
  refine (hret _ ?_).1
  exact ⟨[(.vs 0)], ⟨rfl, trivial⟩, rfl, ⟨rfl, trivial⟩⟩
 ·have h := hif.2 hc
  refine Z16 <| Zf <| Zg <| Zg <| Za <| Z1 I (Zi (v := (.int .i64 1)) I I) I <| Ze <| Zf ?_
  refine Z1t (st' := ⟨[(0, (.vs 0)), (1, (.clo 138 [])), (5, (.int .i64 1))], [(0, (.vec 14 (List.map Zc a0)))]⟩) ⟨rfl, rfl, rfl, trivial⟩ ⟨rfl, trivial⟩ ?_
  refine Z1h (V := Int) (X := Unit) (lp := fun k v => F134_l2 K a0 (F134_c3 K a0) k v = some r) (sh := fun v => ⟨[(0, (.vs 0)), (1, (.clo 138 [])), (5, (.int .i64 v))], [(0, (.vec 14 (List.map Zc a0)))]⟩) (x := fun v => F134_c3 K a0 = some r) (shx := fun v => ⟨[(0, (.vs 0))], [(0, (.vec 14 (List.map Zc a0)))]⟩) (k := K) (v := 1) h ?_ ?_
  ·intro v h
   try dsimp only at h ⊢
   unfold F134_c3 at h
   refine Zf <| Zg <| Za <| Z1 I (Zh (v := (.vs 0)) I I) I <| Z1 I (Zi (v := (.vs 0)) I I) I <| Ze <| Zf <| Z1a ?_
   have h := Option.some.inj h
   subst h
   refine (hret _ ?_).1
   exact ⟨[(.vs 0)], ⟨rfl, trivial⟩, rfl, ⟨rfl, trivial⟩⟩
  ·intro N k2 v h IH2 J2
   revert h
   revert v
   intro v1 h
   try dsimp only at h IH2 J2 ⊢
   cases k2 with
   | zero => cases h
   | succ k2 =>
    rw [F134_l2] at h
    refine Zg <| Zg <| Za <| Z1 I (Zh (v := (.int .i64 v1)) I I) I <| Z1 I (Zh (v := (.vs 0)) I I) I <| Z1 I (Z3u (l := a0) (enc := Zc) I u37 I I) I <| Z1 I (Z1w (k := .i64) (a := v1) (b := (a0.length : Int)) (c := (decide (v1 < (a0.length : Int)))) I I I I) I <| Ze ?_
    refine Zf ?_
    have hif := Z1y h
    refine Z13 I (fun hc => ?_) (fun hc => ?_)
    ·have h := hif.1 hc
     refine Z16 <| Zf <| Zg <| AWp.block <| Zg <| AWp.regionD mixed <| Z9 0 I (Zh (v := (.clo 138 [])) I I) <| Z9 1 I (Zh (v := (.vs 0)) I I) ?_
     refine Z9 2 I (Zh (v := (.int .i64 v1)) I I) ?_
     have ⟨hg6, h⟩ := Zv h
     refine Z9 3 I (Z2h (k := .i64) (v := (.vs 0)) (n := 0) (off := 0) (len := a0.length) (es := (List.map Zc a0)) (j := v1) (m := v1.toNat) I s37 I I (Z2o _ _ _) I hg6 (Nat.zero_add _)) ?_
     have ⟨hg7, h⟩ := Zv h
     refine Z9 4 I (Z3a (l := a0) (enc := Zc) (z := Z6) (vs := (Zc (a0.getD v1.toNat Z6)).cells) I a56 I I hg7 I I) <| Z9 5 I (Zh (v := (.vs 0)) I I) <| Z9 6 I (Zh (v := (.int .i64 v1)) I I) <| Z9 7 I (Z1n (k := .i64) (a := v1) (b := 1) (c := (IntKind.i64.wrap (v1 - 1))) I I I I) ?_
     have ⟨hg8, h⟩ := Zv h
     refine Z9 8 I (Z2h (k := .i64) (v := (.vs 0)) (n := 0) (off := 0) (len := a0.length) (es := (List.map Zc a0)) (j := (IntKind.i64.wrap (v1 - 1))) (m := (IntKind.i64.wrap (v1 - 1)).toNat) I s37 I I (Z2o _ _ _) I hg8 (Nat.zero_add _)) ?_
     have ⟨hg9, h⟩ := Zv h
     refine Z9 9 I (Z3a (l := a0) (enc := Zc) (z := Z6) (vs := (Zc (a0.getD (IntKind.i64.wrap (v1 - 1)).toNat Z6)).cells) I a56 I I hg9 I I) ?_
     have ⟨v11, hv11, h⟩ := Z1g h
     refine Z9 10 I (Z1i (ar := [(Zc (a0.getD v1.toNat Z6)), (Zc (a0.getD (IntKind.i64.wrap (v1 - 1)).toNat Z6))]) (caps := []) Tryz.call138 (F138_ok K (a0.getD v1.toNat Z6) (a0.getD (IntKind.i64.wrap (v1 - 1)).toNat Z6) v11 hv11) I I ⟨rfl, rfl, trivial⟩ I) <| AOpsD.nil (by kernel_rfl) I <| Zf ?_
     have hif := Z1y h
     refine Z13 I (fun hc => ?_) (fun hc => ?_)
     ·have h := hif.1 hc
      refine Zg <| Za <| Z1 I (Zh (v := (.vs 0)) I I) I <| Z1 I (Zh (v := (.int .i64 v1)) I I) I ?_
      have ⟨hg12, h⟩ := Zv h
      have ⟨hg13, h⟩ := Zv h
      refine Z1 I (Z4p (v := (.vs 0)) (n := 0) (off := 0) (len := a0.length) (l := a0) (enc := Zc) (kl := .i64) (lo := v1) I s37 I I (Z2o _ _ _) I hg12 I) I <| Z1 I (Zi (v := (.vsub 0 (0 + v1.toNat) ((a0.length : Int).toNat - v1.toNat) false)) I I) I <| Ze <| Zf <| Zg <| Zg <| Za <| Z1 I (Zi (v := (.int .i64 1)) I I) I ?_
      refine Ze <| Zf <| Z1t (st' := ⟨[(0, (.vs 0)), (1, (.clo 138 [])), (5, (.int .i64 v1)), (6, (.vsub 0 (0 + v1.toNat) ((a0.length : Int).toNat - v1.toNat) false)), (7, (.int .i64 1))], [(0, (.vec 14 (List.map Zc a0)))]⟩) ⟨rfl, rfl, rfl, rfl, rfl, trivial⟩ ⟨rfl, trivial⟩ ?_
      refine Z1h (V := Int × Int × (List Zn)) (X := Int × (List Zn)) (lp := fun k v => Z6a K v1 a0 (Z7z K) k v.1 v.2.1 v.2.2 = some r) (sh := fun v => ⟨[(0, (.vs 0)), (1, (.clo 138 [])), (5, (.int .i64 v.1)), (6, (.vsub 0 (0 + v1.toNat) ((a0.length : Int).toNat - v1.toNat) false)), (7, (.int .i64 v.2.1))], [(0, (.vec 14 (List.map Zc v.2.2)))]⟩) (x := fun v => Z7z K v.1 v.2 = some r) (shx := fun v => ⟨[(0, (.vs 0)), (5, (.int .i64 v.1))], [(0, (.vec 14 (List.map Zc v.2)))]⟩) (k := K) (v := (v1, 1, a0)) h ?_ ?_
      ·intro v h
       obtain ⟨v18, v19⟩ := v
       try dsimp only at h ⊢
       unfold Z7z at h
       refine Zf <| Zg <| Za <| Z1 I (Zh (v := (.vs 0)) I I) I <| Z1 I (Zh (v := (.int .i64 v18)) I I) I ?_
       have ⟨hg22, h⟩ := Zv h
       have ⟨hg23, h⟩ := Zv h
       refine Z1 I (Z4p (v := (.vs 0)) (n := 0) (off := 0) (len := v19.length) (l := v19) (enc := Zc) (kl := .i64) (lo := v18) I s37 I I (Z2o _ _ _) I hg22 I) I ?_
       have ⟨hg24, h⟩ := Zv h
       refine Z1 I (st_clear (v := (.vsub 0 (0 + v18.toNat) ((v19.length : Int).toNat - v18.toNat) false)) (n := 0) (off := (0 + v18.toNat)) (len := ((v19.length : Int).toNat - v18.toNat)) (l := v19) (enc := Zc) el37 ze56 I I I (Z44 hg24) Z2x) I <| Ze <| Zf <| Zg <| Za <| Z1 I (Zh (v := (.vs 0)) I I) I <| Z1 I (Zh (v := (.int .i64 v18)) I I) I ?_
       have ⟨hg25, h⟩ := Zv h
       have ⟨hg26, h⟩ := Zv h
       refine Z1 I (Z9w (v := (.vs 0)) (n := 0) (off := 0) (len := (v19.take (0 + v18.toNat) ++ List.replicate ((v19.length : Int).toNat - v18.toNat) Z6 ++ v19.drop ((0 + v18.toNat) + ((v19.length : Int).toNat - v18.toNat))).length) (l := (v19.take (0 + v18.toNat) ++ List.replicate ((v19.length : Int).toNat - v18.toNat) Z6 ++ v19.drop ((0 + v18.toNat) + ((v19.length : Int).toNat - v18.toNat)))) (enc := Zc) (kh := .i64) (hi := v18) I s37 I I (Z2o _ _ _) I hg25 I) I <| Z1 I (Zi (v := (.vsub 0 (0 + (0 : Int).toNat) (v18.toNat - (0 : Int).toNat) false)) I I) I <| Ze <| Zf <| Z1a <| At.overR <| Z1b ?_
       refine Z1b (At.overR ?_)
       refine Z1b <| At.ghost (st' := ⟨[(4, (.vs 0))], [(0, (.vec 14 (List.map Zc (((v19.take (0 + v18.toNat) ++ List.replicate ((v19.length : Int).toNat - v18.toNat) Z6 ++ v19.drop ((0 + v18.toNat) + ((v19.length : Int).toNat - v18.toNat))).drop (0 + (0 : Int).toNat)).take (v18.toNat - (0 : Int).toNat)))))]⟩) (fun a w h => (Z1c ⟨[(4, (.vs 0))], [(0, (.vec 14 (List.map Zc (((v19.take (0 + v18.toNat) ++ List.replicate ((v19.length : Int).toNat - v18.toNat) Z6 ++ v19.drop ((0 + v18.toNat) + ((v19.length : Int).toNat - v18.toNat))).drop (0 + (0 : Int).toNat)).take (v18.toNat - (0 : Int).toNat)))))]⟩ (Z7h (k := 4) (m := 0) (sz := 14) (off := (0 + (0 : Int).toNat)) (len := (v18.toNat - (0 : Int).toNat)) (enc := Zc) (l := (v19.take (0 + v18.toNat) ++ List.replicate ((v19.length : Int).toNat - v18.toNat) Z6 ++ v19.drop ((0 + v18.toNat) + ((v19.length : Int).toNat - v18.toNat)))) I hg26 a w (Z1c ⟨[(4, (.vsub 0 (0 + (0 : Int).toNat) (v18.toNat - (0 : Int).toNat) false))], [(0, (.vec 14 (List.map Zc (v19.take (0 + v18.toNat) ++ List.replicate ((v19.length : Int).toNat - v18.toNat) Z6 ++ v19.drop ((0 + v18.toNat) + ((v19.length : Int).toNat - v18.toNat))))))]⟩ h ⟨rfl, trivial⟩ ⟨rfl, trivial⟩)) ⟨rfl, trivial⟩ ⟨rfl, trivial⟩)) ?_
       have h := Option.some.inj h
       subst h
       refine (hret _ ?_).1
       exact ⟨[(.vs 0)], ⟨rfl, trivial⟩, rfl, ⟨rfl, trivial⟩⟩
      ·intro N k17 v h IH17 J17
       obtain ⟨v14, v15, v16⟩ := v
       try dsimp only at h IH17 J17 ⊢
       cases k17 with
       | zero => cases h
       | succ k17 =>
        rw [Z6a] at h
        refine Zg <| Zg <| Za <| Z1 I (Zh (v := (.int .i64 v15)) I I) I <| Z1 I (Zh (v := (.vsub 0 (0 + v1.toNat) ((a0.length : Int).toNat - v1.toNat) false)) I I) I ?_
        have ⟨hg28, h⟩ := Zv h
        refine Z1 I (stx_lenVS (v := (.vsub 0 (0 + v1.toNat) ((a0.length : Int).toNat - v1.toNat) false)) (n := 0) (off := (0 + v1.toNat)) (len := ((a0.length : Int).toNat - v1.toNat)) (l := v16) (enc := Zc) I u37 I I (Z44 hg28)) I <| Z1 I (Z1w (k := .i64) (a := v15) (b := ((((a0.length : Int).toNat - v1.toNat) : Nat) : Int)) (c := (decide (v15 < ((((a0.length : Int).toNat - v1.toNat) : Nat) : Int)))) I I I I) I <| Ze <| Zf ?_
        have hif := Z1y h
        refine Z13 I (fun hc => ?_) (fun hc => ?_)
        ·have h := hif.1 hc
         refine Z16 <| Zf <| Zg <| AWp.block <| Zg <| AWp.regionD mixed <| Z9 0 I (Zh (v := (.clo 138 [])) I I) <| Z9 1 I (Zh (v := (.vsub 0 (0 + v1.toNat) ((a0.length : Int).toNat - v1.toNat) false)) I I) ?_
         refine Z9 2 I (Zh (v := (.int .i64 v15)) I I) ?_
         have ⟨hg29, h⟩ := Zv h
         have ⟨hg30, h⟩ := Zv h
         refine Z9 3 I (Z2h (k := .i64) (v := (.vsub 0 (0 + v1.toNat) ((a0.length : Int).toNat - v1.toNat) false)) (n := 0) (off := (0 + v1.toNat)) (len := ((a0.length : Int).toNat - v1.toNat)) (es := (List.map Zc v16)) (j := v15) (m := ((0 + v1.toNat) + v15.toNat)) I s37 I I (Z44 hg29) I hg30 (I)) ?_
         have ⟨hg31, h⟩ := Zv h
         refine Z9 4 I (Z3a (l := v16) (enc := Zc) (z := Z6) (vs := (Zc (v16.getD ((0 + v1.toNat) + v15.toNat) Z6)).cells) I a56 I I hg31 I I) <| Z9 5 I (Zh (v := (.vsub 0 (0 + v1.toNat) ((a0.length : Int).toNat - v1.toNat) false)) I I) <| Z9 6 I (Zh (v := (.int .i64 v15)) I I) <| Z9 7 I (Z1n (k := .i64) (a := v15) (b := 1) (c := (IntKind.i64.wrap (v15 - 1))) I I I I) ?_
         have ⟨hg32, h⟩ := Zv h
         have ⟨hg33, h⟩ := Zv h
         refine Z9 8 I (Z2h (k := .i64) (v := (.vsub 0 (0 + v1.toNat) ((a0.length : Int).toNat - v1.toNat) false)) (n := 0) (off := (0 + v1.toNat)) (len := ((a0.length : Int).toNat - v1.toNat)) (es := (List.map Zc v16)) (j := (IntKind.i64.wrap (v15 - 1))) (m := ((0 + v1.toNat) + (IntKind.i64.wrap (v15 - 1)).toNat)) I s37 I I (Z44 hg32) I hg33 (I)) ?_
         have ⟨hg34, h⟩ := Zv h
         refine Z9 9 I (Z3a (l := v16) (enc := Zc) (z := Z6) (vs := (Zc (v16.getD ((0 + v1.toNat) + (IntKind.i64.wrap (v15 - 1)).toNat) Z6)).cells) I a56 I I hg34 I I) ?_
         have ⟨v36, hv36, h⟩ := Z1g h
         refine Z9 10 I (Z1i (ar := [(Zc (v16.getD ((0 + v1.toNat) + v15.toNat) Z6)), (Zc (v16.getD ((0 + v1.toNat) + (IntKind.i64.wrap (v15 - 1)).toNat) Z6))]) (caps := []) Tryz.call138 (F138_ok K (v16.getD ((0 + v1.toNat) + v15.toNat) Z6) (v16.getD ((0 + v1.toNat) + (IntKind.i64.wrap (v15 - 1)).toNat) Z6) v36 hv36) I I ⟨rfl, rfl, trivial⟩ I) <| Z9 11 I (Z86 (b := v36) I I) <| AOpsD.nil (by kernel_rfl) I <| Zf ?_
         refine AWp.join (V := Int × (List Zn)) (lp := fun v => Z9j K (Z6a K v1 a0 (Z7z K) k17) v15 v.1 v.2 = some r) (sh := fun v => ⟨[(0, (.vs 0)), (1, (.clo 138 [])), (5, (.int .i64 v.1)), (6, (.vsub 0 (0 + v1.toNat) ((a0.length : Int).toNat - v1.toNat) false)), (7, (.int .i64 v15))], [(0, (.vec 14 (List.map Zc v.2)))]⟩) ?_ ?_
         ·intro v h
          obtain ⟨v37, v38⟩ := v
          try dsimp only at h ⊢
          unfold Z9j at h
          refine At.end <| Zf <| Za <| Z1 I (Zh (v := (.int .i64 v15)) I I) I <| Z1 I (Z1n (k := .i64) (a := v15) (b := 1) (c := (IntKind.i64.wrap (v15 + 1))) I I I I) I <| Z1 I (Zi (v := (.int .i64 (IntKind.i64.wrap (v15 + 1)))) I I) I <| Ze ?_
          exact Zw (st' := ⟨[(0, (.vs 0)), (1, (.clo 138 [])), (5, (.int .i64 v37)), (6, (.vsub 0 (0 + v1.toNat) ((a0.length : Int).toNat - v1.toNat) false)), (7, (.int .i64 (IntKind.i64.wrap (v15 + 1))))], [(0, (.vec 14 (List.map Zc v38)))]⟩) ⟨rfl, rfl, rfl, rfl, rfl, trivial⟩ ⟨rfl, trivial⟩ (IH17 _ (v37, (IntKind.i64.wrap (v15 + 1)), v38) (Nat.lt_succ_self _) h)
         ·intro J39
          have hif := Z1y h
          refine Z13 I (fun hc => ?_) (fun hc => ?_)
          ·have h := hif.1 hc
           refine Zg <| Za <| Z1 I (Zh (v := (.vs 0)) I I) I <| Z1 I (Zh (v := (.int .i64 v14)) I I) I <| Z1 I (Zh (v := (.vsub 0 (0 + v1.toNat) ((a0.length : Int).toNat - v1.toNat) false)) I I) I <| Z1 I (Zh (v := (.int .i64 v15)) I I) I ?_
           have ⟨hg40, h⟩ := Zv h
           have ⟨hg41, h⟩ := Zv h
           refine Z1 I (Z2h (k := .i64) (v := (.vsub 0 (0 + v1.toNat) ((a0.length : Int).toNat - v1.toNat) false)) (n := 0) (off := (0 + v1.toNat)) (len := ((a0.length : Int).toNat - v1.toNat)) (es := (List.map Zc v16)) (j := v15) (m := ((0 + v1.toNat) + v15.toNat)) I s37 I I (Z44 hg40) I hg41 (I)) I ?_
           have ⟨hg42, h⟩ := Zv h
           refine Z1 I (Z3a (l := v16) (enc := Zc) (z := Z6) (vs := (Zc (v16.getD ((0 + v1.toNat) + v15.toNat) Z6)).cells) I a56 I I hg42 I I) I ?_
           have ⟨hg43, h⟩ := Zv h
           refine Z1 I (Z2h (k := .i64) (v := (.vs 0)) (n := 0) (off := 0) (len := v16.length) (es := (List.map Zc v16)) (j := v14) (m := v14.toNat) I s37 I I (Z2o _ _ _) I hg43 (Nat.zero_add _)) I ?_
           have ⟨hg44, h⟩ := Zv h
           refine Z1 I (Z5q (l := v16) (enc := Zc) (z := Z6) (a := (v16.getD ((0 + v1.toNat) + v15.toNat) Z6)) (v := (Zc (v16.getD ((0 + v1.toNat) + v15.toNat) Z6))) sz56 I I hg44 I Z2x I I I I) I <| Ze <| Zf <| Za <| Z1 I (Zh (v := (.int .i64 v14)) I I) I <| Z1 I (Z1n (k := .i64) (a := v14) (b := 1) (c := (IntKind.i64.wrap (v14 + 1))) I I I I) I <| Z1 I (Zi (v := (.int .i64 (IntKind.i64.wrap (v14 + 1)))) I I) I <| Ze ?_
           exact Zw (st' := ⟨[(0, (.vs 0)), (1, (.clo 138 [])), (5, (.int .i64 (IntKind.i64.wrap (v14 + 1)))), (6, (.vsub 0 (0 + v1.toNat) ((a0.length : Int).toNat - v1.toNat) false)), (7, (.int .i64 v15))], [(0, (.vec 14 (List.map Zc (v16.set v14.toNat (v16.getD ((0 + v1.toNat) + v15.toNat) Z6)))))]⟩) ⟨rfl, rfl, rfl, rfl, rfl, trivial⟩ ⟨rfl, trivial⟩ (J39 ((IntKind.i64.wrap (v14 + 1)), (v16.set v14.toNat (v16.getD ((0 + v1.toNat) + v15.toNat) Z6))) h)
          ·have h := hif.2 hc
           refine Z16 ?_
           exact Zw (st' := ⟨[(0, (.vs 0)), (1, (.clo 138 [])), (5, (.int .i64 v14)), (6, (.vsub 0 (0 + v1.toNat) ((a0.length : Int).toNat - v1.toNat) false)), (7, (.int .i64 v15))], [(0, (.vec 14 (List.map Zc v16)))]⟩) ⟨rfl, rfl, rfl, rfl, rfl, trivial⟩ ⟨rfl, trivial⟩ (J39 (v14, v16) h)
        ·have h := hif.2 hc
         refine AWp.exit <| At.thru ?_
         exact Zw (st' := ⟨[(0, (.vs 0)), (5, (.int .i64 v14))], [(0, (.vec 14 (List.map Zc v16)))]⟩) ⟨rfl, rfl, trivial⟩ ⟨rfl, trivial⟩ (J17 (v14, v16) h)
     ·have h := hif.2 hc
      refine Z16 <| At.end <| Zf <| Za <| Z1 I (Zh (v := (.int .i64 v1)) I I) I <| Z1 I (Z1n (k := .i64) (a := v1) (b := 1) (c := (IntKind.i64.wrap (v1 + 1))) I I I I) I <| Z1 I (Zi (v := (.int .i64 (IntKind.i64.wrap (v1 + 1)))) I I) I <| Ze ?_
      exact Zw (st' := ⟨[(0, (.vs 0)), (1, (.clo 138 [])), (5, (.int .i64 (IntKind.i64.wrap (v1 + 1))))], [(0, (.vec 14 (List.map Zc a0)))]⟩) ⟨rfl, rfl, rfl, trivial⟩ ⟨rfl, trivial⟩ (IH2 _ (IntKind.i64.wrap (v1 + 1)) (Nat.lt_succ_self _) h)
    ·have h := hif.2 hc
     refine AWp.exit <| At.thru ?_
     exact Zw (st' := ⟨[(0, (.vs 0))], [(0, (.vec 14 (List.map Zc a0)))]⟩) ⟨rfl, trivial⟩ ⟨rfl, trivial⟩ (J2 () h)
def F92 (K : Nat) (a0 : (List Zn)) : Option ((List Zn)) :=
 (F136 K a0).bind fun v2 =>
  (F135 K v2).bind fun v4 =>
   (F134 K v4).bind fun v6 =>
    some v6
theorem F92_ok (K : Nat) (a0 : (List Zn)) (r : (List Zn)) (h : F92 K a0 = some r) : ACall P 92 ⟨[(.sl 14 (a0.map Zc) false)], [], (.sl 14 (r.map Zc) false), [], []⟩ := by
 refine Z1p Tryz.func92 Tryz.results92 rfl Tryz.ntmps92 rfl rfl rfl ?_
 intro E Q hP hN hro hret
 obtain ⟨P', nt', w0, F0, p0, S0, β0, ro0⟩ := E
 simp only at hP hN
 subst hP hN
 dsimp only [argT]
 unfold F92 at h
 refine Zg <| Za <| Z1 I (Zi (v := (.sl 14 [] false)) I I) I <| Ze <| Zf <| Zg <| Za <| Z1 I (Zh (v := (.sl 14 (a0.map Zc) false)) I I) I ?_
 have ⟨v2, hv2, h⟩ := Z1g h
 refine Z1 I (Z1i (ar := [(.sl 14 (a0.map Zc) false)]) (caps := []) Tryz.call136 (F136_ok K a0 v2 hv2) I I ⟨rfl, trivial⟩ I) I ?_
 have ⟨v4, hv4, h⟩ := Z1g h
 refine Z1 I (Z9k (sz := 14) (es := (List.map Zc v4)) (ar := [(.clo 168 [(.ip [(.sl 14 (v2.map Zc) false)])]), (.clo 137 [])]) (caps := []) Tryz.call135 ((F135_ok K v2 v4 hv4).sw 4 5) I I ⟨rfl, rfl, trivial⟩ I) I ?_
 have ⟨v6, hv6, h⟩ := Z1g h
 refine Z1 I (Z33 (d := some 6) (c := ⟨[(.vs 5), (.clo 138 [])] ++ [], [(5, (.vec 14 (List.map Zc v4)))], .vs 5, [(5, .vec 14 (List.map Zc v6))], [5]⟩) (ar := [(.vs 5), (.clo 138 [])]) (caps := []) (news := []) (forg := [5]) Tryz.call134 ((F134_ok K v4 v6 hv6).sw 0 5) I I ⟨rfl, rfl, trivial⟩ I ⟨rfl, trivial⟩ I) I <| Z1 I (Zi (v := (.vs 5)) I I) I <| Ze <| Zf <| Z1a <| At.ghost (st' := ⟨[(2, (.sl 14 (v6.map Zc) false))], []⟩) (fun a w h => (Z1c ⟨[(2, (.sl 14 (v6.map Zc) false))], []⟩ (Z27 (m := 5) (sz := 14) (es := (List.map Zc v6)) a w (Z1c ⟨[(2, (.vs 5))], [(5, (.vec 14 (List.map Zc v6)))]⟩ h ⟨rfl, trivial⟩ ⟨rfl, trivial⟩)) ⟨rfl, trivial⟩ trivial)) ?_
 have h := Option.some.inj h
 subst h
 refine (hret _ ?_).1
 exact ⟨[(.sl 14 (v6.map Zc) false)], ⟨rfl, trivial⟩, rfl, trivial⟩
def F95 (K : Nat) (a0 : Zn) : Option (Z2n) :=
 some (⟨a0.Trace, a0.Id⟩ : Z2n)
theorem F95_ok (K : Nat) (a0 : Zn) (r : Z2n) (h : F95 K a0 = some r) : ACall P 95 ⟨[(Zc a0)], [], (Z14 r), [], []⟩ := by
 refine Z1p Tryz.func95 Tryz.results95 rfl Tryz.ntmps95 rfl rfl rfl ?_
 intro E Q hP hN hro hret
 obtain ⟨P', nt', w0, F0, p0, S0, β0, ro0⟩ := E
 simp only at hP hN
 subst hP hN
 dsimp only [argT]
 unfold F95 at h
 refine Zg <| Za <| Z1 I (Z2l (v := (Zc a0)) (cs := (Zc a0).cells) I I I I I) I <| Z1 I (Z22 (cs := [(.int .i64 0), (.int .i64 0)]) I z177 I I I) I <| Ze <| Zf <| Zg <| Za ?_
 refine Z1 I (Zp (m := 1) (o := 0) I f56_0 I I) I <| Z1 I (Zu (cs := (Zc a0).cells) (v := (.int .i64 a0.Trace)) I o3 I I I) I <| Z1 I (Zp (m := 1) (o := 0) I f56_1 I I) I <| Z1 I (Zu (cs := (Zc a0).cells) (v := (.int .i64 a0.Id)) I o3 I I I) I <| Z1 I (Z29 (vs := [(0, (.int .i64 a0.Trace)), (1, (.int .i64 a0.Id))]) (cs := [(.int .i64 a0.Trace), (.int .i64 a0.Id)]) I st177 ⟨rfl, rfl, rfl, rfl, trivial⟩ I) I <| Z1 I (Z1j (cs := [(.int .i64 0), (.int .i64 0)]) (vs := [(.int .i64 a0.Trace), (.int .i64 a0.Id)]) (ds := [(.int .i64 a0.Trace), (.int .i64 a0.Id)]) (v := (.ag [(.int .i64 a0.Trace), (.int .i64 a0.Id)])) sz177 I I I I I I I I) I <| Ze <| Zf ?_
 refine Z1a ?_
 have h := Option.some.inj h
 subst h
 refine (hret _ ?_).1
 exact ⟨[(.ag [(.int .i64 a0.Trace), (.int .i64 a0.Id)])], ⟨⟨2, _, rfl, rfl, .inr ⟨_, a177, rfl, rfl⟩⟩, trivial⟩, rfl, trivial⟩
def F94 (K : Nat) (a0 : Int) (a1 : (List Zn)) : Option (Bool) :=
 if ((IntKind.i64.wrap (a0 + 1)) == (a1.length : Int)) = true then
  some true
 else
  if (0 : Int) ≤ (IntKind.i64.wrap (a0 + 1)) ∧ (IntKind.i64.wrap (a0 + 1)) < a1.length then
   (F95 K (a1.getD (IntKind.i64.wrap (a0 + 1)).toNat Z6)).bind fun v3 =>
    if (0 : Int) ≤ a0 ∧ a0 < a1.length then
     (F95 K (a1.getD a0.toNat Z6)).bind fun v6 =>
      some (!((v3.Trace == v6.Trace) && ((v3.Id == v6.Id) && true)))
    else none
  else none
theorem F94_ok (K : Nat) (a0 : Int) (a1 : (List Zn)) (r : Bool) (h : F94 K a0 a1 = some r) : ACall P 94 ⟨[(.int .i64 a0), (.ip [(.sl 14 (a1.map Zc) false)])], [], (.bool r), [], []⟩ := by
 refine Z1p Tryz.func94 Tryz.results94 rfl Tryz.ntmps94 rfl rfl rfl ?_
 intro E Q hP hN hro hret
 obtain ⟨P', nt', w0, F0, p0, S0, β0, ro0⟩ := E
 simp only at hP hN
 subst hP hN
 dsimp only [argT]
 unfold F94 at h
 refine Zg <| Za <| Z1 I (Zi (v := (.bool false)) I I) I <| Ze <| Zf <| Zg <| AWp.regionD mixed <| Z9 0 I (Zh (v := (.int .i64 a0)) I I) ?_
 refine Z9 1 I (Z1n (k := .i64) (a := a0) (b := 1) (c := (IntKind.i64.wrap (a0 + 1))) I I I I) <| Z9 2 I (Z26 (cs := [(.sl 14 (a1.map Zc) false)]) (v := (.sl 14 (a1.map Zc) false)) I o37 I I) <| Z9 3 I (Z24 (l := a1) (enc := Zc) I s37 I) <| Z9 4 I (Z1w (k := .i64) (a := (IntKind.i64.wrap (a0 + 1))) (b := (a1.length : Int)) (c := ((IntKind.i64.wrap (a0 + 1)) == (a1.length : Int))) I I I I) <| Z9 5 I (Zh (v := (.bool ((IntKind.i64.wrap (a0 + 1)) == (a1.length : Int)))) I I) ?_
 have hif := Z1y h
 refine AOpsD.split (fun hc => ?_) (fun hc => ?_)
 ·have h := hif.1 hc
  refine Z17 6 I I I I I I I <| Z17 7 I I I I I I I <| Z17 8 I I I I I I I <| Z17 9 I I I I I I I <| Z17 10 I I I I I I I <| Z17 11 I I I I I I I <| Z17 12 I I I I I I I <| Z17 13 I I I I I I I ?_
  refine Z17 14 I I I I I I I <| Z17 15 I I I I I I I <| Z17 16 I I I I I I I <| Z17 17 I I I I I I I <| Z9 18 I (Z2d (v := (.bool true)) I I I) <| Z9 19 I (Zi (v := (.bool true)) I I) <| AOpsD.nil (by kernel_rfl) I <| Zf ?_
  refine Z1a ?_
  have h := Option.some.inj h
  subst h
  refine (hret _ ?_).1
  exact ⟨[(.bool true)], ⟨rfl, trivial⟩, rfl, trivial⟩
 ·have h := hif.2 hc
  refine Z1e 6 I I I I (Z26 (cs := [(.sl 14 (a1.map Zc) false)]) (v := (.sl 14 (a1.map Zc) false)) I o37 I I) <| Z1e 7 I I I I (Zh (v := (.int .i64 a0)) I I) <| Z1e 8 I I I I (Z1n (k := .i64) (a := a0) (b := 1) (c := (IntKind.i64.wrap (a0 + 1))) I I I I) ?_
  have ⟨hg1, h⟩ := Zv h
  refine Z1e 9 I I I I (Z1s (k := .i64) (l := a1) (enc := Zc) (z := Z6) (n := (IntKind.i64.wrap (a0 + 1))) (cs := (Zc (a1.getD (IntKind.i64.wrap (a0 + 1)).toNat Z6)).cells) (full := false) I s37 I I hg1 I) <| Z1e 10 I I I I (Z2k (cs := (Zc (a1.getD (IntKind.i64.wrap (a0 + 1)).toNat Z6)).cells) (vs := (Zc (a1.getD (IntKind.i64.wrap (a0 + 1)).toNat Z6)).cells) I a56 I I I) ?_
  have ⟨v3, hv3, h⟩ := Z1g h
  refine Z1e 11 I I I I (Z1i (ar := [(Zc (a1.getD (IntKind.i64.wrap (a0 + 1)).toNat Z6))]) (caps := []) Tryz.call95 (F95_ok K (a1.getD (IntKind.i64.wrap (a0 + 1)).toNat Z6) v3 hv3) I I ⟨rfl, trivial⟩ I) <| Z1e 12 I I I I (Z26 (cs := [(.sl 14 (a1.map Zc) false)]) (v := (.sl 14 (a1.map Zc) false)) I o37 I I) <| Z1e 13 I I I I (Zh (v := (.int .i64 a0)) I I) ?_
  have ⟨hg4, h⟩ := Zv h
  refine Z1e 14 I I I I (Z1s (k := .i64) (l := a1) (enc := Zc) (z := Z6) (n := a0) (cs := (Zc (a1.getD a0.toNat Z6)).cells) (full := false) I s37 I I hg4 I) <| Z1e 15 I I I I (Z2k (cs := (Zc (a1.getD a0.toNat Z6)).cells) (vs := (Zc (a1.getD a0.toNat Z6)).cells) I a56 I I I) ?_
  have ⟨v6, hv6, h⟩ := Z1g h
  refine Z1e 16 I I I I (Z1i (ar := [(Zc (a1.getD a0.toNat Z6))]) (caps := []) Tryz.call95 (F95_ok K (a1.getD a0.toNat Z6) v6 hv6) I I ⟨rfl, trivial⟩ I) <| Z1e 17 I I I I (Zac (xs := (Z14 v3).cells) (ys := (Z14 v6).cells) (b := ((v3.Trace == v6.Trace) && ((v3.Id == v6.Id) && true))) (c := (!((v3.Trace == v6.Trace) && ((v3.Id == v6.Id) && true)))) I eq177 I I I I) <| Z9 18 I (Z2a (v := (.bool (!((v3.Trace == v6.Trace) && ((v3.Id == v6.Id) && true))))) I I I) <| Z9 19 I (Zi (v := (.bool (!((v3.Trace == v6.Trace) && ((v3.Id == v6.Id) && true))))) I I) <| AOpsD.nil (by kernel_rfl) I <| Zf <| Z1a ?_
  have h := Option.some.inj h
  subst h
  refine (hret _ ?_).1
  exact ⟨[(.bool (!((v3.Trace == v6.Trace) && ((v3.Id == v6.Id) && true))))], ⟨rfl, trivial⟩, rfl, trivial⟩
def F90 (K : Nat) (a0 : (List Z25)) : Option ((List Z25)) :=
 if ([] : List Z25).length + a0.length ≤ 1073741824 then
  some a0
 else none
theorem F90_ok (K : Nat) (a0 : (List Z25)) (r : (List Z25)) (h : F90 K a0 = some r) : ACall P 90 ⟨[(.sl 4 (a0.map Z10) false)], [], (.sl 4 (r.map Z10) false), [], []⟩ := by
 refine Z1p Tryz.func90 Tryz.results90 rfl Tryz.ntmps90 rfl rfl rfl ?_
 intro E Q hP hN hro hret
 obtain ⟨P', nt', w0, F0, p0, S0, β0, ro0⟩ := E
 simp only at hP hN
 subst hP hN
 dsimp only [argT]
 unfold F90 at h
 refine Zg <| Za <| Z1 I (Zi (v := (.sl 4 [] true)) I I) I <| Ze <| Zf <| Zg <| Zg <| Za ?_
 refine Z1 I (Zh (v := (.sl 4 (a0.map Z10) false)) I I) I ?_
 refine AOps.consNil (enc := Z10) (es := a0) (full := false) I u53 I (fun x1 hbx1 => ?_)
 refine Ze <| Zf ?_
 refine Z13 I (fun hc => ?_) (fun hc => ?_)
 ·have hz := hbx1 hc
  have h : (some []) = some r := by simp only [hz] at h ⊢; simpa using h
  refine Zg <| Za <| Z1 I (Zi (v := (.sl 4 [] true)) I I) I <| Ze <| Zf <| Z1a <| Z1b <| At.ghost (st' := ⟨[(2, (.sl 4 [] false))], []⟩) (fun a w h => (Z1c ⟨[(2, (.sl 4 [] false))], []⟩ (Zay a w (Z1c ⟨[(2, (.sl 4 [] true))], []⟩ h ⟨rfl, trivial⟩ trivial)) ⟨rfl, trivial⟩ trivial)) ?_
  have h := Option.some.inj h
  subst h
  refine (hret _ ?_).1
  exact ⟨[(.sl 4 [] false)], ⟨rfl, trivial⟩, rfl, trivial⟩
 ·refine Z16 <| Zf <| Zg <| Za <| Z1 I (Z1d (vs := []) (enc := Z10) (l := ([] : List Z25)) I el53 I I trivial I Z7n I I I I) I <| Z1 I (Zh (v := (.sl 4 (a0.map Z10) false)) I I) I ?_
  have ⟨hg2, h⟩ := Zv h
  refine Z1 I (Z2g (m := 5) (enc := Z10) (l := ([] : List Z25)) (l' := a0) (src := (.sl 4 (a0.map Z10) false)) (rd := []) I I el53 I u53 I I I ⟨rfl, rfl, rfl⟩ noReads Z7n hg2) I <| Z1 I (Zi (v := (.vs 5)) I I) I <| Ze <| Zf <| Z1a <| At.ghost (st' := ⟨[(2, (.sl 4 (a0.map Z10) false))], []⟩) (fun a w h => (Z1c ⟨[(2, (.sl 4 (a0.map Z10) false))], []⟩ (Z27 (m := 5) (sz := 4) (es := (List.map Z10 a0)) a w (Z1c ⟨[(2, (.vs 5))], [(5, (.vec 4 (List.map Z10 a0)))]⟩ h ⟨rfl, trivial⟩ ⟨rfl, trivial⟩)) ⟨rfl, trivial⟩ trivial)) ?_
  have h := Option.some.inj h
  subst h
  refine (hret _ ?_).1
  exact ⟨[(.sl 4 (a0.map Z10) false)], ⟨rfl, trivial⟩, rfl, trivial⟩
def F91 (K : Nat) (a0 : (List Z2n)) : Option ((List Z2n)) :=
 if ([] : List Z2n).length + a0.length ≤ 1073741824 then
  some a0
 else none
theorem F91_ok (K : Nat) (a0 : (List Z2n)) (r : (List Z2n)) (h : F91 K a0 = some r) : ACall P 91 ⟨[(.sl 2 (a0.map Z14) false)], [], (.sl 2 (r.map Z14) false), [], []⟩ := by
 refine Z1p Tryz.func91 Tryz.results91 rfl Tryz.ntmps91 rfl rfl rfl ?_
 intro E Q hP hN hro hret
 obtain ⟨P', nt', w0, F0, p0, S0, β0, ro0⟩ := E
 simp only at hP hN
 subst hP hN
 dsimp only [argT]
 unfold F91 at h
 refine Zg <| Za <| Z1 I (Zi (v := (.sl 2 [] true)) I I) I <| Ze <| Zf <| Zg <| Zg <| Za ?_
 refine Z1 I (Zh (v := (.sl 2 (a0.map Z14) false)) I I) I ?_
 refine AOps.consNil (enc := Z14) (es := a0) (full := false) I u54 I (fun x1 hbx1 => ?_)
 refine Ze <| Zf ?_
 refine Z13 I (fun hc => ?_) (fun hc => ?_)
 ·have hz := hbx1 hc
  have h : (some []) = some r := by simp only [hz] at h ⊢; simpa using h
  refine Zg <| Za <| Z1 I (Zi (v := (.sl 2 [] true)) I I) I <| Ze <| Zf <| Z1a <| Z1b <| At.ghost (st' := ⟨[(2, (.sl 2 [] false))], []⟩) (fun a w h => (Z1c ⟨[(2, (.sl 2 [] false))], []⟩ (Zay a w (Z1c ⟨[(2, (.sl 2 [] true))], []⟩ h ⟨rfl, trivial⟩ trivial)) ⟨rfl, trivial⟩ trivial)) ?_
  have h := Option.some.inj h
  subst h
  refine (hret _ ?_).1
  exact ⟨[(.sl 2 [] false)], ⟨rfl, trivial⟩, rfl, trivial⟩
 ·refine Z16 <| Zf <| Zg <| Za <| Z1 I (Z1d (vs := []) (enc := Z14) (l := ([] : List Z2n)) I el54 I I trivial I Z97 I I I I) I <| Z1 I (Zh (v := (.sl 2 (a0.map Z14) false)) I I) I ?_
  have ⟨hg2, h⟩ := Zv h
  refine Z1 I (Z2g (m := 5) (enc := Z14) (l := ([] : List Z2n)) (l' := a0) (src := (.sl 2 (a0.map Z14) false)) (rd := []) I I el54 I u54 I I I ⟨rfl, rfl, rfl⟩ noReads Z97 hg2) I <| Z1 I (Zi (v := (.vs 5)) I I) I <| Ze <| Zf <| Z1a <| At.ghost (st' := ⟨[(2, (.sl 2 (a0.map Z14) false))], []⟩) (fun a w h => (Z1c ⟨[(2, (.sl 2 (a0.map Z14) false))], []⟩ (Z27 (m := 5) (sz := 2) (es := (List.map Z14 a0)) a w (Z1c ⟨[(2, (.vs 5))], [(5, (.vec 2 (List.map Z14 a0)))]⟩ h ⟨rfl, trivial⟩ ⟨rfl, trivial⟩)) ⟨rfl, trivial⟩ trivial)) ?_
  have h := Option.some.inj h
  subst h
  refine (hret _ ?_).1
  exact ⟨[(.sl 2 (a0.map Z14) false)], ⟨rfl, trivial⟩, rfl, trivial⟩
def F139 (K : Nat) (a0 : Zn) : Option (Zn) :=
 (F90 K a0.Attrs).bind fun v2 =>
  (F91 K a0.Links).bind fun v4 =>
   some (⟨a0.Trace, a0.Id, a0.Parent, a0.Revision, a0.Clock, a0.Kind, a0.Service, a0.Version, a0.Operation, a0.Start, a0.End, a0.Error, v2, v4⟩ : Zn)
theorem F139_ok (K : Nat) (a0 : Zn) (r : Zn) (h : F139 K a0 = some r) : ACall P 139 ⟨[(Zc a0)], [], (Zc r), [], []⟩ := by
 refine Z1p Tryz.func139 Tryz.results139 rfl Tryz.ntmps139 rfl rfl rfl ?_
 intro E Q hP hN hro hret
 obtain ⟨P', nt', w0, F0, p0, S0, β0, ro0⟩ := E
 simp only at hP hN
 subst hP hN
 dsimp only [argT]
 unfold F139 at h
 refine Zg <| Za <| Z1 I (Z2l (v := (Zc a0)) (cs := (Zc a0).cells) I I I I I) I <| Z1 I (Z22 (cs := [(.int .i64 0), (.int .i64 0), (.int .i64 0), (.int .i64 0), (.int .i64 0), (.int .i64 0), (.str []), (.str []), (.str []), (.int .i64 0), (.int .i64 0), (.bool false), (.sl 4 [] false), (.sl 2 [] false)]) I z56 I I I) I <| Ze <| Zf <| Zg <| AWp.regionD mixed ?_
 refine Z9 0 I (Zp (m := 1) (o := 0) I f56_12 I I) <| Z9 1 I (Zu (cs := (Zc a0).cells) (v := (.sl 4 (a0.Attrs.map Z10) false)) I o53 I I I) ?_
 have ⟨v2, hv2, h⟩ := Z1g h
 refine Z9 2 I (Z1i (ar := [(.sl 4 (a0.Attrs.map Z10) false)]) (caps := []) Tryz.call90 (F90_ok K a0.Attrs v2 hv2) I I ⟨rfl, trivial⟩ I) <| Z9 3 I (Zp (m := 1) (o := 0) I f56_13 I I) <| Z9 4 I (Zu (cs := (Zc a0).cells) (v := (.sl 2 (a0.Links.map Z14) false)) I o54 I I I) ?_
 have ⟨v4, hv4, h⟩ := Z1g h
 refine Z9 5 I (Z1i (ar := [(.sl 2 (a0.Links.map Z14) false)]) (caps := []) Tryz.call91 (F91_ok K a0.Links v4 hv4) I I ⟨rfl, trivial⟩ I) <| Z9 6 I (Zp (m := 1) (o := 0) I f56_12 I I) <| Z9 7 I (Z1j (cs := (Zc a0).cells) (vs := [(.sl 4 (v2.map Z10) false)]) (ds := [(.int .i64 a0.Trace), (.int .i64 a0.Id), (.int .i64 a0.Parent), (.int .i64 a0.Revision), (.int .i64 a0.Clock), (.int .i64 a0.Kind), (.str a0.Service), (.str a0.Version), (.str a0.Operation), (.int .i64 a0.Start), (.int .i64 a0.End), (.bool a0.Error), (.sl 4 (v2.map Z10) false), (.sl 2 (a0.Links.map Z14) false)]) (v := (.sl 4 (v2.map Z10) false)) sz53 I I I I I I I I) <| Z9 8 I (Zp (m := 1) (o := 0) I f56_13 I I) <| Z9 9 I (Z1j (cs := [(.int .i64 a0.Trace), (.int .i64 a0.Id), (.int .i64 a0.Parent), (.int .i64 a0.Revision), (.int .i64 a0.Clock), (.int .i64 a0.Kind), (.str a0.Service), (.str a0.Version), (.str a0.Operation), (.int .i64 a0.Start), (.int .i64 a0.End), (.bool a0.Error), (.sl 4 (v2.map Z10) false), (.sl 2 (a0.Links.map Z14) false)]) (vs := [(.sl 2 (v4.map Z14) false)]) (ds := [(.int .i64 a0.Trace), (.int .i64 a0.Id), (.int .i64 a0.Parent), (.int .i64 a0.Revision), (.int .i64 a0.Clock), (.int .i64 a0.Kind), (.str a0.Service), (.str a0.Version), (.str a0.Operation), (.int .i64 a0.Start), (.int .i64 a0.End), (.bool a0.Error), (.sl 4 (v2.map Z10) false), (.sl 2 (v4.map Z14) false)]) (v := (.sl 2 (v4.map Z14) false)) sz54 I I I I I I I I) <| AOpsD.nil (by kernel_rfl) I <| Zf <| Zg ?_
 refine Za <| Z1 I (Z1q (cs := [(.int .i64 a0.Trace), (.int .i64 a0.Id), (.int .i64 a0.Parent), (.int .i64 a0.Revision), (.int .i64 a0.Clock), (.int .i64 a0.Kind), (.str a0.Service), (.str a0.Version), (.str a0.Operation), (.int .i64 a0.Start), (.int .i64 a0.End), (.bool a0.Error), (.sl 4 (v2.map Z10) false), (.sl 2 (v4.map Z14) false)]) (vs := [(.int .i64 a0.Trace), (.int .i64 a0.Id), (.int .i64 a0.Parent), (.int .i64 a0.Revision), (.int .i64 a0.Clock), (.int .i64 a0.Kind), (.str a0.Service), (.str a0.Version), (.str a0.Operation), (.int .i64 a0.Start), (.int .i64 a0.End), (.bool a0.Error), (.sl 4 (v2.map Z10) false), (.sl 2 (v4.map Z14) false)]) I a56 I I I I) I <| Z1 I (Z1j (cs := [(.int .i64 0), (.int .i64 0), (.int .i64 0), (.int .i64 0), (.int .i64 0), (.int .i64 0), (.str []), (.str []), (.str []), (.int .i64 0), (.int .i64 0), (.bool false), (.sl 4 [] false), (.sl 2 [] false)]) (vs := [(.int .i64 a0.Trace), (.int .i64 a0.Id), (.int .i64 a0.Parent), (.int .i64 a0.Revision), (.int .i64 a0.Clock), (.int .i64 a0.Kind), (.str a0.Service), (.str a0.Version), (.str a0.Operation), (.int .i64 a0.Start), (.int .i64 a0.End), (.bool a0.Error), (.sl 4 (v2.map Z10) false), (.sl 2 (v4.map Z14) false)]) (ds := [(.int .i64 a0.Trace), (.int .i64 a0.Id), (.int .i64 a0.Parent), (.int .i64 a0.Revision), (.int .i64 a0.Clock), (.int .i64 a0.Kind), (.str a0.Service), (.str a0.Version), (.str a0.Operation), (.int .i64 a0.Start), (.int .i64 a0.End), (.bool a0.Error), (.sl 4 (v2.map Z10) false), (.sl 2 (v4.map Z14) false)]) (v := (.ag [(.int .i64 a0.Trace), (.int .i64 a0.Id), (.int .i64 a0.Parent), (.int .i64 a0.Revision), (.int .i64 a0.Clock), (.int .i64 a0.Kind), (.str a0.Service), (.str a0.Version), (.str a0.Operation), (.int .i64 a0.Start), (.int .i64 a0.End), (.bool a0.Error), (.sl 4 (v2.map Z10) false), (.sl 2 (v4.map Z14) false)])) sz56 I I I I I I I I) I <| Ze <| Zf <| Z1a ?_
 have h := Option.some.inj h
 subst h
 refine (hret _ ?_).1
 exact ⟨[(.ag [(.int .i64 a0.Trace), (.int .i64 a0.Id), (.int .i64 a0.Parent), (.int .i64 a0.Revision), (.int .i64 a0.Clock), (.int .i64 a0.Kind), (.str a0.Service), (.str a0.Version), (.str a0.Operation), (.int .i64 a0.Start), (.int .i64 a0.End), (.bool a0.Error), (.sl 4 (v2.map Z10) false), (.sl 2 (v4.map Z14) false)])], ⟨⟨2, _, rfl, rfl, .inr ⟨_, a56, rfl, rfl⟩⟩, trivial⟩, rfl, trivial⟩
def F93_c5 (K : Nat) (v4 : (List Zn)) : Option ((List Zn)) :=
 some v4
def F93_j12 (K : Nat) (b7 : Int → (List Zn) → Option ((List Zn))) (v1 : Int) (v11 : (List Zn)) : Option ((List Zn)) :=
 b7 (IntKind.i64.wrap (v1 + 1)) v11
def Zbm (K : Nat) (a0 : (List Zn)) (a100 : (List Zn)) (c6 : (List Zn) → Option ((List Zn))) : Nat → Int → (List Zn) → Option ((List Zn))
 | 0, _, _ => none
 | k3 + 1, v1, v2 =>
  if (decide (v1 < (a0.length : Int))) = true then
   if (0 : Int) ≤ v1 ∧ v1 < a0.length then
    (F94 K v1 a100).bind fun v10 =>
     if v10 = true then
      (F139 K (a0.getD v1.toNat Z6)).bind fun v14 =>
       if v2.length + [v14].length ≤ 1073741824 then
        F93_j12 K (Zbm K a0 a100 c6 k3) v1 (v2 ++ [v14])
       else none
     else
      F93_j12 K (Zbm K a0 a100 c6 k3) v1 v2
   else none
  else
   c6 v2
def F93 (K : Nat) (a0 : (List Zn)) (a100 : (List Zn)) : Option ((List Zn)) :=
 Zbm K a0 a100 (F93_c5 K) K 0 []
theorem F93_ok (K : Nat) (a0 : (List Zn)) (a100 : (List Zn)) (r : (List Zn)) (h : F93 K a0 a100 = some r) : ACall P 93 ⟨[(.sl 14 (a0.map Zc) false), (.clo 94 [(.ip [(.sl 14 (a100.map Zc) false)])])], [], (.sl 14 (r.map Zc) false), [], []⟩ := by
 refine Z1p Tryz.func93 Tryz.results93 rfl Tryz.ntmps93 rfl rfl rfl ?_
 intro E Q hP hN hro hret
 obtain ⟨P', nt', w0, F0, p0, S0, β0, ro0⟩ := E
 simp only at hP hN
 subst hP hN
 dsimp only [argT]
 unfold F93 at h
 refine Zg <| Za <| Z1 I (Zi (v := (.sl 14 [] false)) I I) I <| Ze <| Zf <| Zg <| Za <| Z1 I (Zi (v := (.sl 14 [] true)) I I) I ?_
 refine Ze <| Zf <| Zg <| Zg <| Za <| Z1 I (Zh (v := (.sl 14 (a0.map Zc) false)) I I) I <| Z1 I (Z24 (l := a0) (enc := Zc) I s37 I) I <| Z1 I (Zh (v := (.int .i64 0)) I I) I ?_
 refine Ze <| Zf <| AWp.ghost (st' := ⟨[(1, (.clo 94 [(.ip [(.sl 14 (a100.map Zc) false)])])), (5, (.vs 5)), (8, (.sl 14 (a0.map Zc) false)), (9, (.int .i64 (a0.length : Int))), (10, (.int .i64 0))], [(5, (.vec 14 (List.map Zc ([] : List Zn))))]⟩) (fun a w h => (Z1c ⟨[(1, (.clo 94 [(.ip [(.sl 14 (a100.map Zc) false)])])), (5, (.vs 5)), (8, (.sl 14 (a0.map Zc) false)), (9, (.int .i64 (a0.length : Int))), (10, (.int .i64 0))], [(5, (.vec 14 (List.map Zc ([] : List Zn))))]⟩ (Z59 (k := 5) (m := 5) (sz := 14) I I a w (Z1c ⟨[(5, (.sl 14 [] true)), (1, (.clo 94 [(.ip [(.sl 14 (a100.map Zc) false)])])), (8, (.sl 14 (a0.map Zc) false)), (9, (.int .i64 (a0.length : Int))), (10, (.int .i64 0))], []⟩ h ⟨rfl, rfl, rfl, rfl, rfl, trivial⟩ trivial)) ⟨rfl, rfl, rfl, rfl, rfl, trivial⟩ ⟨rfl, trivial⟩)) <| Z1t (st' := ⟨[(1, (.clo 94 [(.ip [(.sl 14 (a100.map Zc) false)])])), (5, (.vs 5)), (8, (.sl 14 (a0.map Zc) false)), (9, (.int .i64 (a0.length : Int))), (10, (.int .i64 0))], [(5, (.vec 14 (List.map Zc [])))]⟩) ⟨rfl, rfl, rfl, rfl, rfl, trivial⟩ ⟨rfl, trivial⟩ ?_
 refine Z1h (V := Int × (List Zn)) (X := (List Zn)) (lp := fun k v => Zbm K a0 a100 (F93_c5 K) k v.1 v.2 = some r) (sh := fun v => ⟨[(1, (.clo 94 [(.ip [(.sl 14 (a100.map Zc) false)])])), (5, (.vs 5)), (8, (.sl 14 (a0.map Zc) false)), (9, (.int .i64 (a0.length : Int))), (10, (.int .i64 v.1))], [(5, (.vec 14 (List.map Zc v.2)))]⟩) (x := fun v => F93_c5 K v = some r) (shx := fun v => ⟨[(5, (.vs 5))], [(5, (.vec 14 (List.map Zc v)))]⟩) (k := K) (v := (0, [])) h ?_ ?_
 ·intro v h
  revert h
  revert v
  intro v4 h
  try dsimp only at h ⊢
  unfold F93_c5 at h
  refine Zf <| Zg <| Za <| Z1 I (Zh (v := (.vs 5)) I I) I <| Z1 I (Zi (v := (.vs 5)) I I) I <| Ze <| Zf <| Z1a ?_
  refine At.ghost (st' := ⟨[(4, (.sl 14 (v4.map Zc) false))], []⟩) (fun a w h => (Z1c ⟨[(4, (.sl 14 (v4.map Zc) false))], []⟩ (Z27 (m := 5) (sz := 14) (es := (List.map Zc v4)) a w (Z1c ⟨[(4, (.vs 5))], [(5, (.vec 14 (List.map Zc v4)))]⟩ h ⟨rfl, trivial⟩ ⟨rfl, trivial⟩)) ⟨rfl, trivial⟩ trivial)) ?_
  have h := Option.some.inj h
  subst h
  refine (hret _ ?_).1
  exact ⟨[(.sl 14 (v4.map Zc) false)], ⟨rfl, trivial⟩, rfl, trivial⟩
 ·intro N k3 v h IH3 J3
  obtain ⟨v1, v2⟩ := v
  try dsimp only at h IH3 J3 ⊢
  cases k3 with
  | zero => cases h
  | succ k3 =>
   rw [Zbm] at h
   refine Zg <| Za <| Z1 I (Z1w (k := .i64) (a := v1) (b := (a0.length : Int)) (c := (decide (v1 < (a0.length : Int)))) I I I I) I <| Ze <| Zf <| Zg ?_
   have hif := Z1y h
   refine Z13 I (fun hc => ?_) (fun hc => ?_)
   ·have h := hif.1 hc
    refine Z16 <| Zf <| Zg <| AWp.block <| Zg <| Za <| Z1 I (Zh (v := (.int .i64 v1)) I I) I ?_
    have ⟨hg8, h⟩ := Zv h
    refine Z1 I (Z1s (k := .i64) (l := a0) (enc := Zc) (z := Z6) (n := v1) (cs := (Zc (a0.getD v1.toNat Z6)).cells) (full := false) I s37 I I hg8 I) I <| Z1 I (Z2k (cs := (Zc (a0.getD v1.toNat Z6)).cells) (vs := (Zc (a0.getD v1.toNat Z6)).cells) I a56 I I I) I <| Z1 I (Z22 (cs := [(.int .i64 0), (.int .i64 0), (.int .i64 0), (.int .i64 0), (.int .i64 0), (.int .i64 0), (.str []), (.str []), (.str []), (.int .i64 0), (.int .i64 0), (.bool false), (.sl 4 [] false), (.sl 2 [] false)]) I z56 I I I) I <| Z1 I (Zi (v := (.int .i64 v1)) I I) I <| Z1 I (Z1j (cs := [(.int .i64 0), (.int .i64 0), (.int .i64 0), (.int .i64 0), (.int .i64 0), (.int .i64 0), (.str []), (.str []), (.str []), (.int .i64 0), (.int .i64 0), (.bool false), (.sl 4 [] false), (.sl 2 [] false)]) (vs := (Zc (a0.getD v1.toNat Z6)).cells) (ds := (Zc (a0.getD v1.toNat Z6)).cells) (v := (Zc (a0.getD v1.toNat Z6))) sz56 I I I I I I I I) I <| Ze <| Zf <| Zg ?_
    refine Za <| Z1 I (Zh (v := (.clo 94 [(.ip [(.sl 14 (a100.map Zc) false)])])) I I) I <| Z1 I (Zh (v := (.int .i64 v1)) I I) I ?_
    have ⟨v10, hv10, h⟩ := Z1g h
    refine Z1 I (Z1i (ar := [(.int .i64 v1)]) (caps := [(.ip [(.sl 14 (a100.map Zc) false)])]) Tryz.call94 (F94_ok K v1 a100 v10 hv10) I I ⟨rfl, trivial⟩ I) I <| Ze <| Zf ?_
    refine AWp.join (V := (List Zn)) (lp := fun v => F93_j12 K (Zbm K a0 a100 (F93_c5 K) k3) v1 v = some r) (sh := fun v => ⟨[(1, (.clo 94 [(.ip [(.sl 14 (a100.map Zc) false)])])), (5, (.vs 5)), (8, (.sl 14 (a0.map Zc) false)), (9, (.int .i64 (a0.length : Int))), (10, (.int .i64 v1))], [(5, (.vec 14 (List.map Zc v)))]⟩) ?_ ?_
    ·intro v h
     revert h
     revert v
     intro v11 h
     try dsimp only at h ⊢
     unfold F93_j12 at h
     refine At.end <| Zf <| Za <| Z1 I (Z1n (k := .i64) (a := v1) (b := 1) (c := (IntKind.i64.wrap (v1 + 1))) I I I I) I <| Z1 I (Zh (v := (.int .i64 (IntKind.i64.wrap (v1 + 1)))) I I) I <| Ze ?_
     exact Zw (st' := ⟨[(1, (.clo 94 [(.ip [(.sl 14 (a100.map Zc) false)])])), (5, (.vs 5)), (8, (.sl 14 (a0.map Zc) false)), (9, (.int .i64 (a0.length : Int))), (10, (.int .i64 (IntKind.i64.wrap (v1 + 1))))], [(5, (.vec 14 (List.map Zc v11)))]⟩) ⟨rfl, rfl, rfl, rfl, rfl, trivial⟩ ⟨rfl, trivial⟩ (IH3 _ ((IntKind.i64.wrap (v1 + 1)), v11) (Nat.lt_succ_self _) h)
    ·intro J12
     have hif := Z1y h
     refine Z13 I (fun hc => ?_) (fun hc => ?_)
     ·have h := hif.1 hc
      refine Za <| Z1 I (Zh (v := (.vs 5)) I I) I <| Z1 I (Z1q (cs := (Zc (a0.getD v1.toNat Z6)).cells) (vs := (Zc (a0.getD v1.toNat Z6)).cells) I a56 I I I I) I ?_
      have ⟨v14, hv14, h⟩ := Z1g h
      refine Z1 I (Z1i (ar := [(Zc (a0.getD v1.toNat Z6))]) (caps := []) Tryz.call139 (F139_ok K (a0.getD v1.toNat Z6) v14 hv14) I I ⟨rfl, trivial⟩ I) I <| Z1 I (Z1d (vs := [(Zc v14)]) (enc := Zc) (l := [v14]) I el37 I I ⟨rfl, trivial⟩ I Z2x I I I I) I ?_
      have ⟨hg15, h⟩ := Zv h
      refine Z1 I (Z2g (m := 5) (enc := Zc) (l := v2) (l' := [v14]) (src := (.vs 21)) (rd := [(21, (.vec 14 (List.map Zc [v14])))]) I I el37 I u37 I I I I (oneRead I) Z2x hg15) I <| Z1 I (Zi (v := (.vs 5)) I I) I <| Ze ?_
      exact Zw (st' := ⟨[(1, (.clo 94 [(.ip [(.sl 14 (a100.map Zc) false)])])), (5, (.vs 5)), (8, (.sl 14 (a0.map Zc) false)), (9, (.int .i64 (a0.length : Int))), (10, (.int .i64 v1))], [(5, (.vec 14 (List.map Zc (v2 ++ [v14]))))]⟩) ⟨rfl, rfl, rfl, rfl, rfl, trivial⟩ ⟨rfl, trivial⟩ (J12 (v2 ++ [v14]) h)
     ·have h := hif.2 hc
      refine Z16 ?_
      exact Zw (st' := ⟨[(1, (.clo 94 [(.ip [(.sl 14 (a100.map Zc) false)])])), (5, (.vs 5)), (8, (.sl 14 (a0.map Zc) false)), (9, (.int .i64 (a0.length : Int))), (10, (.int .i64 v1))], [(5, (.vec 14 (List.map Zc v2)))]⟩) ⟨rfl, rfl, rfl, rfl, rfl, trivial⟩ ⟨rfl, trivial⟩ (J12 v2 h)
   ·have h := hif.2 hc
    refine AWp.exit <| At.thru ?_
    exact Zw (st' := ⟨[(5, (.vs 5))], [(5, (.vec 14 (List.map Zc v2)))]⟩) ⟨rfl, trivial⟩ ⟨rfl, trivial⟩ (J3 v2 h)
def F47 (K : Nat) (a0 : (List Zn)) : Option ((List Zn)) :=
 (F92 K a0).bind fun v2 =>
  (F93 K v2 v2).bind fun v4 =>
   some v4
theorem F47_ok (K : Nat) (a0 : (List Zn)) (r : (List Zn)) (h : F47 K a0 = some r) : ACall P 47 ⟨[(.sl 14 (a0.map Zc) false)], [], (.sl 14 (r.map Zc) false), [], []⟩ := by
 refine Z1p Tryz.func47 Tryz.results47 rfl Tryz.ntmps47 rfl rfl rfl ?_
 intro E Q hP hN hro hret
 obtain ⟨P', nt', w0, F0, p0, S0, β0, ro0⟩ := E
 simp only at hP hN
 subst hP hN
 dsimp only [argT]
 unfold F47 at h
 refine Zg <| Za <| Z1 I (Zi (v := (.sl 14 [] false)) I I) I <| Ze <| Zf <| Zg <| Za <| Z1 I (Zh (v := (.sl 14 (a0.map Zc) false)) I I) I ?_
 have ⟨v2, hv2, h⟩ := Z1g h
 refine Z1 I (Z1i (ar := [(.sl 14 (a0.map Zc) false)]) (caps := []) Tryz.call92 (F92_ok K a0 v2 hv2) I I ⟨rfl, trivial⟩ I) I <| Z1 I (Z22 (cs := [(.sl 14 [] true)]) I z37f I I I) I <| Z1 I (Z1j (cs := [(.sl 14 [] true)]) (vs := [(.sl 14 (v2.map Zc) false)]) (ds := [(.sl 14 (v2.map Zc) false)]) (v := (.sl 14 (v2.map Zc) false)) sz37 I I I I I I I I) I <| Ze <| Zf <| Zg <| Za <| Z1 I (Zu (cs := [(.sl 14 (v2.map Zc) false)]) (v := (.sl 14 (v2.map Zc) false)) I o37 I I I) I ?_
 refine Z1 I (Z92 (vs := [(.ptr 3 0)]) I ⟨rfl, trivial⟩) I <| AOps.ghost (st' := ⟨[(2, (.sl 14 [] false)), (6, (.sl 14 (v2.map Zc) false)), (7, (.clo 94 [(.ip [(.sl 14 (v2.map Zc) false)])]))], []⟩) (fun a w h => (Z1c ⟨[(2, (.sl 14 [] false)), (6, (.sl 14 (v2.map Zc) false)), (7, (.clo 94 [(.ip [(.sl 14 (v2.map Zc) false)])]))], []⟩ (Z4h (m := 3) (cs := [(.sl 14 (v2.map Zc) false)]) I a w (Z1c ⟨[(2, (.sl 14 [] false)), (6, (.sl 14 (v2.map Zc) false)), (7, (.clo 94 [(.ptr 3 0)]))], [(3, (.box [(.sl 14 (v2.map Zc) false)]))]⟩ h ⟨rfl, rfl, rfl, trivial⟩ ⟨rfl, trivial⟩)) ⟨rfl, rfl, rfl, trivial⟩ trivial)) ?_
 have ⟨v4, hv4, h⟩ := Z1g h
 refine Z1 I (Z1i (ar := [(.sl 14 (v2.map Zc) false), (.clo 94 [(.ip [(.sl 14 (v2.map Zc) false)])])]) (caps := []) Tryz.call93 (F93_ok K v2 v2 v4 hv4) I I ⟨rfl, rfl, trivial⟩ I) I <| Z1 I (Zi (v := (.sl 14 (v4.map Zc) false)) I I) I <| Ze <| Zf <| Z1a ?_
 have h := Option.some.inj h
 subst h
 refine (hret _ ?_).1
 exact ⟨[(.sl 14 (v4.map Zc) false)], ⟨rfl, trivial⟩, rfl, trivial⟩
def F49 (K : Nat) (a0 : Bool) (a1 : Int) : Option (Int) :=
 if a0 = true then
  some a1
 else
  some 0
theorem F49_ok (K : Nat) (a0 : Bool) (a1 : Int) (r : Int) (h : F49 K a0 a1 = some r) : ACall P 49 ⟨[(.bool a0), (.int .i64 a1)], [], (.int .i64 r), [], []⟩ := by
 refine Z1p Tryz.func49 Tryz.results49 rfl Tryz.ntmps49 rfl rfl rfl ?_
 intro E Q hP hN hro hret
 obtain ⟨P', nt', w0, F0, p0, S0, β0, ro0⟩ := E
 simp only at hP hN
 subst hP hN
 dsimp only [argT]
 unfold F49 at h
 refine Zg <| Za <| Z1 I (Zi (v := (.int .i64 0)) I I) I <| Ze <| Zf <| Zg <| Zg <| Za ?_
 refine Z1 I (Zh (v := (.bool a0)) I I) I <| Ze <| Zf ?_
 have hif := Z1y h
 refine Z13 I (fun hc => ?_) (fun hc => ?_)
 ·have h := hif.1 hc
  refine Zg <| Za <| Z1 I (Zh (v := (.int .i64 a1)) I I) I <| Z1 I (Zi (v := (.int .i64 a1)) I I) I <| Ze <| Zf <| Z1a <| Z1b ?_
  have h := Option.some.inj h
  subst h
  refine (hret _ ?_).1
  exact ⟨[(.int .i64 a1)], ⟨rfl, trivial⟩, rfl, trivial⟩
 ·have h := hif.2 hc
  refine Z16 <| Zf <| Zg <| Za <| Z1 I (Zi (v := (.int .i64 0)) I I) I <| Ze <| Zf <| Z1a ?_
  have h := Option.some.inj h
  subst h
  refine (hret _ ?_).1
  exact ⟨[(.int .i64 0)], ⟨rfl, trivial⟩, rfl, trivial⟩
def F96 (K : Nat) (a0 : Int) (a1 : Int) (a2 : Bool) (a3 : (List (Str × Zd))) (a4 : (List (Zq × Zl))) : Option (Int × Bool) :=
 if (decide (a0 > (IntKind.i64.wrap (1152921504606846976 - a1)))) = true then
  some (1152921504606846976, true)
 else
  some ((IntKind.i64.wrap (a0 + a1)), a2)
theorem Zc0 (K : Nat) (a0 : Int) (a1 : Int) (a2 : Bool) (a3 : (List (Str × Zd))) (a4 : (List (Zq × Zl))) (r : Int × Bool) (h : F96 K a0 a1 a2 a3 a4 = some r) : ACall P 96 ⟨[(.ptr 2000 0), (.int .i64 a0), (.int .i64 a1)], [(2000, (.box [(.map 2001), (.map 2002), (.bool a2)])), (2001, (.map (Z19 Z1f Z2 a3))), (2002, (.map (Z19 Zm Z3 a4)))], (.int .i64 r.1), [(2000, (.box [(.map 2001), (.map 2002), (.bool r.2)])), (2001, (.map (Z19 Z1f Z2 a3))), (2002, (.map (Z19 Zm Z3 a4)))], []⟩ := by
 refine Z1p Tryz.func96 Tryz.results96 rfl Tryz.ntmps96 rfl rfl rfl ?_
 intro E Q hP hN hro hret
 obtain ⟨P', nt', w0, F0, p0, S0, β0, ro0⟩ := E
 simp only at hP hN
 subst hP hN
 dsimp only [argT]
 unfold F96 at h
 refine Zg <| Za <| Z1 I (Zi (v := (.int .i64 0)) I I) I <| Ze <| Zf <| Zg <| Zg <| Za ?_
 refine Z1 I (Zh (v := (.int .i64 a0)) I I) I <| Z1 I (Zh (v := (.int .i64 a1)) I I) I <| Z1 I (Z1n (k := .i64) (a := 1152921504606846976) (b := a1) (c := (IntKind.i64.wrap (1152921504606846976 - a1))) I I I I) I <| Z1 I (Z1w (k := .i64) (a := a0) (b := (IntKind.i64.wrap (1152921504606846976 - a1))) (c := (decide (a0 > (IntKind.i64.wrap (1152921504606846976 - a1))))) I I I I) I <| Ze <| Zf ?_
 have hif := Z1y h
 refine Z13 I (fun hc => ?_) (fun hc => ?_)
 ·have h := hif.1 hc
  refine Zg <| Za <| Z1 I (Zh (v := (.ptr 2000 0)) I I) I <| Z1 I (Z5m (v := (.ptr 2000 0)) I I I) I <| Z1 I (Zp (m := 2000) (o := 0) I f181_2 I I) I <| Z1 I (Z1j (cs := [(.map 2001), (.map 2002), (.bool a2)]) (vs := [(.bool true)]) (ds := [(.map 2001), (.map 2002), (.bool true)]) (v := (.bool true)) sz4 I I I I I I I I) I <| Ze <| Zf ?_
  refine Zg <| Za <| Z1 I (Zi (v := (.int .i64 1152921504606846976)) I I) I <| Ze <| Zf <| Z1a <| Z1b ?_
  have h := Option.some.inj h
  subst h
  refine (hret _ ?_).1
  exact ⟨[(.int .i64 1152921504606846976)], ⟨rfl, trivial⟩, rfl, ⟨rfl, rfl, rfl, trivial⟩⟩
 ·have h := hif.2 hc
  refine Z16 <| Zf <| Zg <| Za <| Z1 I (Zh (v := (.int .i64 a0)) I I) I <| Z1 I (Zh (v := (.int .i64 a1)) I I) I <| Z1 I (Z1n (k := .i64) (a := a0) (b := a1) (c := (IntKind.i64.wrap (a0 + a1))) I I I I) I <| Z1 I (Zi (v := (.int .i64 (IntKind.i64.wrap (a0 + a1)))) I I) I ?_
  refine Ze <| Zf <| Z1a ?_
  have h := Option.some.inj h
  subst h
  refine (hret _ ?_).1
  exact ⟨[(.int .i64 (IntKind.i64.wrap (a0 + a1)))], ⟨rfl, trivial⟩, rfl, ⟨rfl, rfl, rfl, trivial⟩⟩
def F48 (K : Nat) (a0 : Zd) (a1 : Bool) (a2 : (List (Str × Zd))) (a3 : (List (Zq × Zl))) : Option (Bool × (List (Str × Zd))) :=
 (F96 K ((mget Z4r a0.Name a2).getD Z7).Spans a0.Spans a1 a2 a3).bind fun v4 =>
  (F96 K ((mget Z4r a0.Name a2).getD Z7).Errors a0.Errors v4.2 a2 a3).bind fun v6 =>
   (F96 K ((mget Z4r a0.Name a2).getD Z7).Roots a0.Roots v6.2 a2 a3).bind fun v8 =>
    some (v8.2, (mput Z4r a0.Name (⟨a0.Name, v4.1, v6.1, v8.1⟩ : Zd) a2))
theorem F48_ok (K : Nat) (a0 : Zd) (a1 : Bool) (a2 : (List (Str × Zd))) (a3 : (List (Zq × Zl))) (r : Bool × (List (Str × Zd))) (h : F48 K a0 a1 a2 a3 = some r) : ACall P 48 ⟨[(.ptr 2000 0), (Z2 a0)], [(2000, (.box [(.map 2001), (.map 2002), (.bool a1)])), (2001, (.map (Z19 Z1f Z2 a2))), (2002, (.map (Z19 Zm Z3 a3)))], (.tup []), [(2000, (.box [(.map 2001), (.map 2002), (.bool r.1)])), (2001, (.map (Z19 Z1f Z2 r.2))), (2002, (.map (Z19 Zm Z3 a3)))], []⟩ := by
 refine Z1p Tryz.func48 Tryz.results48 rfl Tryz.ntmps48 rfl rfl rfl ?_
 intro E Q hP hN hro hret
 obtain ⟨P', nt', w0, F0, p0, S0, β0, ro0⟩ := E
 simp only at hP hN
 subst hP hN
 dsimp only [argT]
 unfold F48 at h
 refine Zg <| Za <| Z1 I (Z2l (v := (Z2 a0)) (cs := (Z2 a0).cells) I I I I I) I <| Ze <| Zf <| Zg <| AWp.regionD mixed <| Z9 0 I (Zh (v := (.ptr 2000 0)) I I) ?_
 refine Z9 1 I (Z5m (v := (.ptr 2000 0)) I I I) <| Z9 2 I (Zp (m := 2000) (o := 0) I f181_0 I I) <| Z9 3 I (Z82 (cs := [(.map 2001), (.map 2002), (.bool a1)]) (v := (.map 2001)) I o178 I I I) <| Z9 4 I (Zp (m := 3) (o := 0) I Z7y I I) <| Z9 5 I (Zu (cs := (Z2 a0).cells) (v := (.str a0.Name)) I o9 I I I) <| Z9 6 I (Zc9 (l := a2) (a := a0.Name) (kv := (.str a0.Name)) I mt178 I I (.inl I) I I) <| Z9 7 I (Z22 (cs := [(.str []), (.int .i64 0), (.int .i64 0), (.int .i64 0)]) I z68 I I I) <| Z9 8 I (Z1j (cs := [(.str []), (.int .i64 0), (.int .i64 0), (.int .i64 0)]) (vs := (Z2 ((mget Z4r a0.Name a2).getD Z7)).cells) (ds := (Z2 ((mget Z4r a0.Name a2).getD Z7)).cells) (v := (Z2 ((mget Z4r a0.Name a2).getD Z7))) sz68 I I I I I I I I) ?_
 refine AOpsD.nil (by kernel_rfl) I <| Zf <| AWp.regionD mixed <| Z9 0 I (Zh (v := (.ptr 2000 0)) I I) <| Z9 1 I (Z5m (v := (.ptr 2000 0)) I I I) <| Z9 2 I (Zp (m := 2000) (o := 0) I f181_0 I I) <| Z9 3 I (Z82 (cs := [(.map 2001), (.map 2002), (.bool a1)]) (v := (.map 2001)) I o178 I I I) <| Z9 4 I (Zp (m := 3) (o := 0) I Z7y I I) ?_
 refine Z9 5 I (Zu (cs := (Z2 a0).cells) (v := (.str a0.Name)) I o9 I I I) <| Z9 6 I (Zp (m := 3) (o := 0) I Z7y I I) <| Z9 7 I (Zu (cs := (Z2 a0).cells) (v := (.str a0.Name)) I o9 I I I) <| Z9 8 I (Zh (v := (.ptr 2000 0)) I I) <| Z9 9 I (Zp (m := 4) (o := 0) I f68_1 I I) <| Z9 10 I (Zu (cs := (Z2 ((mget Z4r a0.Name a2).getD Z7)).cells) (v := (.int .i64 ((mget Z4r a0.Name a2).getD Z7).Spans)) I o3 I I I) <| Z9 11 I (Zp (m := 3) (o := 0) I f68_1 I I) <| Z9 12 I (Zu (cs := (Z2 a0).cells) (v := (.int .i64 a0.Spans)) I o3 I I I) ?_
 have ⟨v4, hv4, h⟩ := Z1g h
 refine Z9 13 I (Z33 (d := some 25) (c := ⟨[(.ptr 2000 0), (.int .i64 ((mget Z4r a0.Name a2).getD Z7).Spans), (.int .i64 a0.Spans)] ++ [], [(2000, (.box [(.map 2001), (.map 2002), (.bool a1)])), (2001, (.map (Z19 Z1f Z2 a2))), (2002, (.map (Z19 Zm Z3 a3)))], (.int .i64 v4.1), [(2000, (.box [(.map 2001), (.map 2002), (.bool v4.2)])), (2001, (.map (Z19 Z1f Z2 a2))), (2002, (.map (Z19 Zm Z3 a3)))], []⟩) (ar := [(.ptr 2000 0), (.int .i64 ((mget Z4r a0.Name a2).getD Z7).Spans), (.int .i64 a0.Spans)]) (caps := []) (news := []) (forg := []) Tryz.call96 (Zc0 K ((mget Z4r a0.Name a2).getD Z7).Spans a0.Spans a1 a2 a3 v4 hv4) I I ⟨rfl, rfl, rfl, trivial⟩ I ⟨rfl, rfl, rfl, trivial⟩ I) <| Z9 14 I (Zh (v := (.ptr 2000 0)) I I) <| Z9 15 I (Zp (m := 4) (o := 0) I f68_2 I I) <| Z9 16 I (Zu (cs := (Z2 ((mget Z4r a0.Name a2).getD Z7)).cells) (v := (.int .i64 ((mget Z4r a0.Name a2).getD Z7).Errors)) I o3 I I I) <| Z9 17 I (Zp (m := 3) (o := 0) I f68_2 I I) <| Z9 18 I (Zu (cs := (Z2 a0).cells) (v := (.int .i64 a0.Errors)) I o3 I I I) ?_
 have ⟨v6, hv6, h⟩ := Z1g h
 refine Z9 19 I (Z33 (d := some 31) (c := ⟨[(.ptr 2000 0), (.int .i64 ((mget Z4r a0.Name a2).getD Z7).Errors), (.int .i64 a0.Errors)] ++ [], [(2000, (.box [(.map 2001), (.map 2002), (.bool v4.2)])), (2001, (.map (Z19 Z1f Z2 a2))), (2002, (.map (Z19 Zm Z3 a3)))], (.int .i64 v6.1), [(2000, (.box [(.map 2001), (.map 2002), (.bool v6.2)])), (2001, (.map (Z19 Z1f Z2 a2))), (2002, (.map (Z19 Zm Z3 a3)))], []⟩) (ar := [(.ptr 2000 0), (.int .i64 ((mget Z4r a0.Name a2).getD Z7).Errors), (.int .i64 a0.Errors)]) (caps := []) (news := []) (forg := []) Tryz.call96 (Zc0 K ((mget Z4r a0.Name a2).getD Z7).Errors a0.Errors v4.2 a2 a3 v6 hv6) I I ⟨rfl, rfl, rfl, trivial⟩ I ⟨rfl, rfl, rfl, trivial⟩ I) <| Z9 20 I (Zh (v := (.ptr 2000 0)) I I) <| Z9 21 I (Zp (m := 4) (o := 0) I f68_3 I I) <| Z9 22 I (Zu (cs := (Z2 ((mget Z4r a0.Name a2).getD Z7)).cells) (v := (.int .i64 ((mget Z4r a0.Name a2).getD Z7).Roots)) I o3 I I I) <| Z9 23 I (Zp (m := 3) (o := 0) I f68_3 I I) <| Z9 24 I (Zu (cs := (Z2 a0).cells) (v := (.int .i64 a0.Roots)) I o3 I I I) ?_
 have ⟨v8, hv8, h⟩ := Z1g h
 refine Z9 25 I (Z33 (d := some 37) (c := ⟨[(.ptr 2000 0), (.int .i64 ((mget Z4r a0.Name a2).getD Z7).Roots), (.int .i64 a0.Roots)] ++ [], [(2000, (.box [(.map 2001), (.map 2002), (.bool v6.2)])), (2001, (.map (Z19 Z1f Z2 a2))), (2002, (.map (Z19 Zm Z3 a3)))], (.int .i64 v8.1), [(2000, (.box [(.map 2001), (.map 2002), (.bool v8.2)])), (2001, (.map (Z19 Z1f Z2 a2))), (2002, (.map (Z19 Zm Z3 a3)))], []⟩) (ar := [(.ptr 2000 0), (.int .i64 ((mget Z4r a0.Name a2).getD Z7).Roots), (.int .i64 a0.Roots)]) (caps := []) (news := []) (forg := []) Tryz.call96 (Zc0 K ((mget Z4r a0.Name a2).getD Z7).Roots a0.Roots v6.2 a2 a3 v8 hv8) I I ⟨rfl, rfl, rfl, trivial⟩ I ⟨rfl, rfl, rfl, trivial⟩ I) <| Z9 26 I (Z29 (vs := [(0, (.str a0.Name)), (1, (.int .i64 v4.1)), (2, (.int .i64 v6.1)), (3, (.int .i64 v8.1))]) (cs := [(.str a0.Name), (.int .i64 v4.1), (.int .i64 v6.1), (.int .i64 v8.1)]) I st68 ⟨rfl, rfl, rfl, rfl, rfl, rfl, rfl, rfl, trivial⟩ I) <| Z9 27 I (Z5w (l := a2) (a := a0.Name) (b := (⟨a0.Name, v4.1, v6.1, v8.1⟩ : Zd)) (kv := (.str a0.Name)) (vv := (.ag [(.str a0.Name), (.int .i64 v4.1), (.int .i64 v6.1), (.int .i64 v8.1)])) mt178 I I I I I I) <| AOpsD.nil (by kernel_rfl) I ?_
 have h := Option.some.inj h
 subst h
 refine (hret _ ?_).2
 exact ⟨[], trivial, rfl, ⟨rfl, rfl, rfl, trivial⟩⟩
def F51 (K : Nat) (a0 : Zn) : Option (Int) :=
 some (IntKind.i64.wrap (a0.End - a0.Start))
theorem F51_ok (K : Nat) (a0 : Zn) (r : Int) (h : F51 K a0 = some r) : ACall P 51 ⟨[(Zc a0)], [], (.int .i64 r), [], []⟩ := by
 refine Z1p Tryz.func51 Tryz.results51 rfl Tryz.ntmps51 rfl rfl rfl ?_
 intro E Q hP hN hro hret
 obtain ⟨P', nt', w0, F0, p0, S0, β0, ro0⟩ := E
 simp only at hP hN
 subst hP hN
 dsimp only [argT]
 unfold F51 at h
 refine Zg <| Za <| Z1 I (Z2l (v := (Zc a0)) (cs := (Zc a0).cells) I I I I I) I <| Z1 I (Zi (v := (.int .i64 0)) I I) I <| Ze <| Zf <| Zg <| Za ?_
 refine Z1 I (Zp (m := 1) (o := 0) I f56_10 I I) I <| Z1 I (Zu (cs := (Zc a0).cells) (v := (.int .i64 a0.End)) I o3 I I I) I <| Z1 I (Zp (m := 1) (o := 0) I f56_9 I I) I <| Z1 I (Zu (cs := (Zc a0).cells) (v := (.int .i64 a0.Start)) I o3 I I I) I <| Z1 I (Z1n (k := .i64) (a := a0.End) (b := a0.Start) (c := (IntKind.i64.wrap (a0.End - a0.Start))) I I I I) I <| Z1 I (Zi (v := (.int .i64 (IntKind.i64.wrap (a0.End - a0.Start)))) I I) I <| Ze <| Zf ?_
 refine Z1a ?_
 have h := Option.some.inj h
 subst h
 refine (hret _ ?_).1
 exact ⟨[(.int .i64 (IntKind.i64.wrap (a0.End - a0.Start)))], ⟨rfl, trivial⟩, rfl, trivial⟩
def F50 (K : Nat) (a0 : Zl) (a1 : Bool) (a2 : (List (Str × Zd))) (a3 : (List (Zq × Zl))) : Option (Bool × (List (Zq × Zl))) :=
 (F96 K ((mget Z1u (⟨a0.Caller, a0.Callee⟩ : Zq) a3).getD Z4).Count a0.Count a1 a2 a3).bind fun v4 =>
  (F96 K ((mget Z1u (⟨a0.Caller, a0.Callee⟩ : Zq) a3).getD Z4).Errors a0.Errors v4.2 a2 a3).bind fun v6 =>
   (F96 K ((mget Z1u (⟨a0.Caller, a0.Callee⟩ : Zq) a3).getD Z4).Time a0.Time v6.2 a2 a3).bind fun v8 =>
    some (v8.2, (mput Z1u (⟨a0.Caller, a0.Callee⟩ : Zq) (⟨a0.Caller, a0.Callee, v4.1, v6.1, v8.1⟩ : Zl) a3))
theorem F50_ok (K : Nat) (a0 : Zl) (a1 : Bool) (a2 : (List (Str × Zd))) (a3 : (List (Zq × Zl))) (r : Bool × (List (Zq × Zl))) (h : F50 K a0 a1 a2 a3 = some r) : ACall P 50 ⟨[(.ptr 2000 0), (Z3 a0)], [(2000, (.box [(.map 2001), (.map 2002), (.bool a1)])), (2001, (.map (Z19 Z1f Z2 a2))), (2002, (.map (Z19 Zm Z3 a3)))], (.tup []), [(2000, (.box [(.map 2001), (.map 2002), (.bool r.1)])), (2001, (.map (Z19 Z1f Z2 a2))), (2002, (.map (Z19 Zm Z3 r.2)))], []⟩ := by
 refine Z1p Tryz.func50 Tryz.results50 rfl Tryz.ntmps50 rfl rfl rfl ?_
 intro E Q hP hN hro hret
 obtain ⟨P', nt', w0, F0, p0, S0, β0, ro0⟩ := E
 simp only at hP hN
 subst hP hN
 dsimp only [argT]
 unfold F50 at h
 refine Zg <| Za <| Z1 I (Z2l (v := (Z3 a0)) (cs := (Z3 a0).cells) I I I I I) I <| Ze <| Zf <| Zg <| Za <| Z1 I (Zp (m := 3) (o := 0) I Z8p I I) I ?_
 refine Z1 I (Zu (cs := (Z3 a0).cells) (v := (.str a0.Caller)) I o9 I I I) I <| Z1 I (Zp (m := 3) (o := 0) I Z7o I I) I <| Z1 I (Zu (cs := (Z3 a0).cells) (v := (.str a0.Callee)) I o9 I I I) I <| Z1 I (Z29 (vs := [(0, (.str a0.Caller)), (1, (.str a0.Callee))]) (cs := [(.str a0.Caller), (.str a0.Callee)]) I st126 ⟨rfl, rfl, rfl, rfl, trivial⟩ I) I <| Z1 I (Z22 (cs := [(.str []), (.str [])]) I z126 I I I) I <| Z1 I (Z1j (cs := [(.str []), (.str [])]) (vs := [(.str a0.Caller), (.str a0.Callee)]) (ds := [(.str a0.Caller), (.str a0.Callee)]) (v := (.ag [(.str a0.Caller), (.str a0.Callee)])) sz126 I I I I I I I I) I <| Ze <| Zf ?_
 refine Zg <| AWp.regionD mixed <| Z9 0 I (Zh (v := (.ptr 2000 0)) I I) <| Z9 1 I (Z5m (v := (.ptr 2000 0)) I I I) <| Z9 2 I (Zp (m := 2000) (o := 0) I f181_1 I I) <| Z9 3 I (Z82 (cs := [(.map 2001), (.map 2002), (.bool a1)]) (v := (.map 2002)) I o179 I I I) <| Z9 4 I (Z1q (cs := [(.str a0.Caller), (.str a0.Callee)]) (vs := [(.str a0.Caller), (.str a0.Callee)]) I a126 I I I I) <| Z9 5 I (Zc9 (l := a3) (a := (⟨a0.Caller, a0.Callee⟩ : Zq)) (kv := (.ag [(.str a0.Caller), (.str a0.Callee)])) I mt179 I I (.inl I) I I) ?_
 refine Z9 6 I (Z22 (cs := [(.str []), (.str []), (.int .i64 0), (.int .i64 0), (.int .i64 0)]) I z88 I I I) <| Z9 7 I (Z1j (cs := [(.str []), (.str []), (.int .i64 0), (.int .i64 0), (.int .i64 0)]) (vs := (Z3 ((mget Z1u (⟨a0.Caller, a0.Callee⟩ : Zq) a3).getD Z4)).cells) (ds := (Z3 ((mget Z1u (⟨a0.Caller, a0.Callee⟩ : Zq) a3).getD Z4)).cells) (v := (Z3 ((mget Z1u (⟨a0.Caller, a0.Callee⟩ : Zq) a3).getD Z4))) sz88 I I I I I I I I) <| AOpsD.nil (by kernel_rfl) I <| Zf <| AWp.regionD mixed <| Z9 0 I (Zh (v := (.ptr 2000 0)) I I) <| Z9 1 I (Z5m (v := (.ptr 2000 0)) I I I) <| Z9 2 I (Zp (m := 2000) (o := 0) I f181_1 I I) ?_
 refine Z9 3 I (Z82 (cs := [(.map 2001), (.map 2002), (.bool a1)]) (v := (.map 2002)) I o179 I I I) <| Z9 4 I (Z1q (cs := [(.str a0.Caller), (.str a0.Callee)]) (vs := [(.str a0.Caller), (.str a0.Callee)]) I a126 I I I I) <| Z9 5 I (Zp (m := 3) (o := 0) I Z8p I I) <| Z9 6 I (Zu (cs := (Z3 a0).cells) (v := (.str a0.Caller)) I o9 I I I) <| Z9 7 I (Zp (m := 3) (o := 0) I Z7o I I) <| Z9 8 I (Zu (cs := (Z3 a0).cells) (v := (.str a0.Callee)) I o9 I I I) <| Z9 9 I (Zh (v := (.ptr 2000 0)) I I) <| Z9 10 I (Zp (m := 5) (o := 0) I f88_2 I I) ?_
 refine Z9 11 I (Zu (cs := (Z3 ((mget Z1u (⟨a0.Caller, a0.Callee⟩ : Zq) a3).getD Z4)).cells) (v := (.int .i64 ((mget Z1u (⟨a0.Caller, a0.Callee⟩ : Zq) a3).getD Z4).Count)) I o3 I I I) <| Z9 12 I (Zp (m := 3) (o := 0) I f88_2 I I) <| Z9 13 I (Zu (cs := (Z3 a0).cells) (v := (.int .i64 a0.Count)) I o3 I I I) ?_
 have ⟨v4, hv4, h⟩ := Z1g h
 refine Z9 14 I (Z33 (d := some 31) (c := ⟨[(.ptr 2000 0), (.int .i64 ((mget Z1u (⟨a0.Caller, a0.Callee⟩ : Zq) a3).getD Z4).Count), (.int .i64 a0.Count)] ++ [], [(2000, (.box [(.map 2001), (.map 2002), (.bool a1)])), (2001, (.map (Z19 Z1f Z2 a2))), (2002, (.map (Z19 Zm Z3 a3)))], (.int .i64 v4.1), [(2000, (.box [(.map 2001), (.map 2002), (.bool v4.2)])), (2001, (.map (Z19 Z1f Z2 a2))), (2002, (.map (Z19 Zm Z3 a3)))], []⟩) (ar := [(.ptr 2000 0), (.int .i64 ((mget Z1u (⟨a0.Caller, a0.Callee⟩ : Zq) a3).getD Z4).Count), (.int .i64 a0.Count)]) (caps := []) (news := []) (forg := []) Tryz.call96 (Zc0 K ((mget Z1u (⟨a0.Caller, a0.Callee⟩ : Zq) a3).getD Z4).Count a0.Count a1 a2 a3 v4 hv4) I I ⟨rfl, rfl, rfl, trivial⟩ I ⟨rfl, rfl, rfl, trivial⟩ I) <| Z9 15 I (Zh (v := (.ptr 2000 0)) I I) <| Z9 16 I (Zp (m := 5) (o := 0) I f88_3 I I) <| Z9 17 I (Zu (cs := (Z3 ((mget Z1u (⟨a0.Caller, a0.Callee⟩ : Zq) a3).getD Z4)).cells) (v := (.int .i64 ((mget Z1u (⟨a0.Caller, a0.Callee⟩ : Zq) a3).getD Z4).Errors)) I o3 I I I) <| Z9 18 I (Zp (m := 3) (o := 0) I f88_3 I I) <| Z9 19 I (Zu (cs := (Z3 a0).cells) (v := (.int .i64 a0.Errors)) I o3 I I I) ?_
 have ⟨v6, hv6, h⟩ := Z1g h
 refine Z9 20 I (Z33 (d := some 37) (c := ⟨[(.ptr 2000 0), (.int .i64 ((mget Z1u (⟨a0.Caller, a0.Callee⟩ : Zq) a3).getD Z4).Errors), (.int .i64 a0.Errors)] ++ [], [(2000, (.box [(.map 2001), (.map 2002), (.bool v4.2)])), (2001, (.map (Z19 Z1f Z2 a2))), (2002, (.map (Z19 Zm Z3 a3)))], (.int .i64 v6.1), [(2000, (.box [(.map 2001), (.map 2002), (.bool v6.2)])), (2001, (.map (Z19 Z1f Z2 a2))), (2002, (.map (Z19 Zm Z3 a3)))], []⟩) (ar := [(.ptr 2000 0), (.int .i64 ((mget Z1u (⟨a0.Caller, a0.Callee⟩ : Zq) a3).getD Z4).Errors), (.int .i64 a0.Errors)]) (caps := []) (news := []) (forg := []) Tryz.call96 (Zc0 K ((mget Z1u (⟨a0.Caller, a0.Callee⟩ : Zq) a3).getD Z4).Errors a0.Errors v4.2 a2 a3 v6 hv6) I I ⟨rfl, rfl, rfl, trivial⟩ I ⟨rfl, rfl, rfl, trivial⟩ I) <| Z9 21 I (Zh (v := (.ptr 2000 0)) I I) <| Z9 22 I (Zp (m := 5) (o := 0) I f88_4 I I) <| Z9 23 I (Zu (cs := (Z3 ((mget Z1u (⟨a0.Caller, a0.Callee⟩ : Zq) a3).getD Z4)).cells) (v := (.int .i64 ((mget Z1u (⟨a0.Caller, a0.Callee⟩ : Zq) a3).getD Z4).Time)) I o3 I I I) <| Z9 24 I (Zp (m := 3) (o := 0) I f88_4 I I) <| Z9 25 I (Zu (cs := (Z3 a0).cells) (v := (.int .i64 a0.Time)) I o3 I I I) ?_
 have ⟨v8, hv8, h⟩ := Z1g h
 refine Z9 26 I (Z33 (d := some 43) (c := ⟨[(.ptr 2000 0), (.int .i64 ((mget Z1u (⟨a0.Caller, a0.Callee⟩ : Zq) a3).getD Z4).Time), (.int .i64 a0.Time)] ++ [], [(2000, (.box [(.map 2001), (.map 2002), (.bool v6.2)])), (2001, (.map (Z19 Z1f Z2 a2))), (2002, (.map (Z19 Zm Z3 a3)))], (.int .i64 v8.1), [(2000, (.box [(.map 2001), (.map 2002), (.bool v8.2)])), (2001, (.map (Z19 Z1f Z2 a2))), (2002, (.map (Z19 Zm Z3 a3)))], []⟩) (ar := [(.ptr 2000 0), (.int .i64 ((mget Z1u (⟨a0.Caller, a0.Callee⟩ : Zq) a3).getD Z4).Time), (.int .i64 a0.Time)]) (caps := []) (news := []) (forg := []) Tryz.call96 (Zc0 K ((mget Z1u (⟨a0.Caller, a0.Callee⟩ : Zq) a3).getD Z4).Time a0.Time v6.2 a2 a3 v8 hv8) I I ⟨rfl, rfl, rfl, trivial⟩ I ⟨rfl, rfl, rfl, trivial⟩ I) <| Z9 27 I (Z29 (vs := [(0, (.str a0.Caller)), (1, (.str a0.Callee)), (2, (.int .i64 v4.1)), (3, (.int .i64 v6.1)), (4, (.int .i64 v8.1))]) (cs := [(.str a0.Caller), (.str a0.Callee), (.int .i64 v4.1), (.int .i64 v6.1), (.int .i64 v8.1)]) I st88 ⟨rfl, rfl, rfl, rfl, rfl, rfl, rfl, rfl, rfl, rfl, trivial⟩ I) <| Z9 28 I (Z5w (l := a3) (a := (⟨a0.Caller, a0.Callee⟩ : Zq)) (b := (⟨a0.Caller, a0.Callee, v4.1, v6.1, v8.1⟩ : Zl)) (kv := (.ag [(.str a0.Caller), (.str a0.Callee)])) (vv := (.ag [(.str a0.Caller), (.str a0.Callee), (.int .i64 v4.1), (.int .i64 v6.1), (.int .i64 v8.1)])) mt179 I I I I I I) <| AOpsD.nil (by kernel_rfl) I ?_
 have h := Option.some.inj h
 subst h
 refine (hret _ ?_).2
 exact ⟨[], trivial, rfl, ⟨rfl, rfl, rfl, trivial⟩⟩
def F98 (K : Nat) (a0 : Zd) (a1 : Zd) : Option (Int) :=
 (F69 K a0.Name a1.Name).bind fun v2 =>
  some v2
theorem F98_ok (K : Nat) (a0 : Zd) (a1 : Zd) (r : Int) (h : F98 K a0 a1 = some r) : ACall P 98 ⟨[(Z2 a0), (Z2 a1)], [], (.int .i64 r), [], []⟩ := by
 refine Z1p Tryz.func98 Tryz.results98 rfl Tryz.ntmps98 rfl rfl rfl ?_
 intro E Q hP hN hro hret
 obtain ⟨P', nt', w0, F0, p0, S0, β0, ro0⟩ := E
 simp only at hP hN
 subst hP hN
 dsimp only [argT]
 unfold F98 at h
 refine Zg <| Za <| Z1 I (Z2l (v := (Z2 a0)) (cs := (Z2 a0).cells) I I I I I) I <| Z1 I (Z2l (v := (Z2 a1)) (cs := (Z2 a1).cells) I I I I I) I <| Z1 I (Zi (v := (.int .i64 0)) I I) I <| Ze <| Zf <| Zg ?_
 refine Za <| Z1 I (Zp (m := 2) (o := 0) I Z7y I I) I <| Z1 I (Zu (cs := (Z2 a0).cells) (v := (.str a0.Name)) I o9 I I I) I <| Z1 I (Zp (m := 3) (o := 0) I Z7y I I) I <| Z1 I (Zu (cs := (Z2 a1).cells) (v := (.str a1.Name)) I o9 I I I) I ?_
 have ⟨v2, hv2, h⟩ := Z1g h
 refine Z1 I (Z1i (ar := [(.str a0.Name), (.str a1.Name)]) (caps := []) Tryz.call69 (Z83 K a0.Name a1.Name v2 hv2) I I ⟨rfl, rfl, trivial⟩ I) I <| Z1 I (Zi (v := (.int .i64 v2)) I I) I <| Ze <| Zf <| Z1a ?_
 have h := Option.some.inj h
 subst h
 refine (hret _ ?_).1
 exact ⟨[(.int .i64 v2)], ⟨rfl, trivial⟩, rfl, trivial⟩
def F59 (K : Nat) (a0 : Zq) (a1 : Zq) : Option (Int) :=
 (F69 K a0.caller a1.caller).bind fun v2 =>
  (F69 K a0.callee a1.callee).bind fun v4 =>
   (F67 K [v2, v4]).bind fun v6 =>
    some v6
theorem F59_ok (K : Nat) (a0 : Zq) (a1 : Zq) (r : Int) (h : F59 K a0 a1 = some r) : ACall P 59 ⟨[(Zm a0), (Zm a1)], [], (.int .i64 r), [], []⟩ := by
 refine Z1p Tryz.func59 Tryz.results59 rfl Tryz.ntmps59 rfl rfl rfl ?_
 intro E Q hP hN hro hret
 obtain ⟨P', nt', w0, F0, p0, S0, β0, ro0⟩ := E
 simp only at hP hN
 subst hP hN
 dsimp only [argT]
 unfold F59 at h
 refine Zg <| Za <| Z1 I (Z2l (v := (Zm a0)) (cs := (Zm a0).cells) I I I I I) I <| Z1 I (Z2l (v := (Zm a1)) (cs := (Zm a1).cells) I I I I I) I <| Z1 I (Zi (v := (.int .i64 0)) I I) I <| Ze <| Zf <| Zg ?_
 refine AWp.regionD mixed <| Z9 0 I (Zp (m := 2) (o := 0) I f126_0 I I) <| Z9 1 I (Zu (cs := (Zm a0).cells) (v := (.str a0.caller)) I o9 I I I) <| Z9 2 I (Zp (m := 3) (o := 0) I f126_0 I I) <| Z9 3 I (Zu (cs := (Zm a1).cells) (v := (.str a1.caller)) I o9 I I I) ?_
 have ⟨v2, hv2, h⟩ := Z1g h
 refine Z9 4 I (Z1i (ar := [(.str a0.caller), (.str a1.caller)]) (caps := []) Tryz.call69 (Z83 K a0.caller a1.caller v2 hv2) I I ⟨rfl, rfl, trivial⟩ I) <| Z9 5 I (Zp (m := 2) (o := 0) I f126_1 I I) <| Z9 6 I (Zu (cs := (Zm a0).cells) (v := (.str a0.callee)) I o9 I I I) <| Z9 7 I (Zp (m := 3) (o := 0) I f126_1 I I) <| Z9 8 I (Zu (cs := (Zm a1).cells) (v := (.str a1.callee)) I o9 I I I) ?_
 have ⟨v4, hv4, h⟩ := Z1g h
 refine Z9 9 I (Z1i (ar := [(.str a0.callee), (.str a1.callee)]) (caps := []) Tryz.call69 (Z83 K a0.callee a1.callee v4 hv4) I I ⟨rfl, rfl, trivial⟩ I) <| Z9 10 I (Z1d (vs := [(.int .i64 v2), (.int .i64 v4)]) (enc := Z15) (l := [v2, v4]) I el65 I I ⟨rfl, rfl, trivial⟩ I Z2y I I I I) ?_
 have ⟨v6, hv6, h⟩ := Z1g h
 refine Z9 11 I (Z6l (rd := [(15, (.vec 1 (List.map Z15 [v2, v4])))]) (ar := [(.vs 15)]) (caps := []) Tryz.call67 (F67_ok K [v2, v4] v6 hv6) I I ⟨rfl, trivial⟩ (Z5f ⟨rfl, trivial⟩) I I I) <| Z9 12 I (Zi (v := (.int .i64 v6)) I I) <| AOpsD.nil (by kernel_rfl) I <| Zf <| Z1a ?_
 have h := Option.some.inj h
 subst h
 refine (hret _ ?_).1
 exact ⟨[(.int .i64 v6)], ⟨rfl, trivial⟩, rfl, trivial⟩
def F100 (K : Nat) (a0 : Zl) (a1 : Zl) : Option (Int) :=
 (F59 K (⟨a0.Caller, a0.Callee⟩ : Zq) (⟨a1.Caller, a1.Callee⟩ : Zq)).bind fun v2 =>
  some v2
theorem F100_ok (K : Nat) (a0 : Zl) (a1 : Zl) (r : Int) (h : F100 K a0 a1 = some r) : ACall P 100 ⟨[(Z3 a0), (Z3 a1)], [], (.int .i64 r), [], []⟩ := by
 refine Z1p Tryz.func100 Tryz.results100 rfl Tryz.ntmps100 rfl rfl rfl ?_
 intro E Q hP hN hro hret
 obtain ⟨P', nt', w0, F0, p0, S0, β0, ro0⟩ := E
 simp only at hP hN
 subst hP hN
 dsimp only [argT]
 unfold F100 at h
 refine Zg <| Za <| Z1 I (Z2l (v := (Z3 a0)) (cs := (Z3 a0).cells) I I I I I) I <| Z1 I (Z2l (v := (Z3 a1)) (cs := (Z3 a1).cells) I I I I I) I <| Z1 I (Zi (v := (.int .i64 0)) I I) I <| Ze <| Zf <| Zg ?_
 refine Za <| Z1 I (Zp (m := 2) (o := 0) I Z8p I I) I <| Z1 I (Zu (cs := (Z3 a0).cells) (v := (.str a0.Caller)) I o9 I I I) I <| Z1 I (Zp (m := 2) (o := 0) I Z7o I I) I <| Z1 I (Zu (cs := (Z3 a0).cells) (v := (.str a0.Callee)) I o9 I I I) I <| Z1 I (Z29 (vs := [(0, (.str a0.Caller)), (1, (.str a0.Callee))]) (cs := [(.str a0.Caller), (.str a0.Callee)]) I st126 ⟨rfl, rfl, rfl, rfl, trivial⟩ I) I <| Z1 I (Zp (m := 3) (o := 0) I Z8p I I) I <| Z1 I (Zu (cs := (Z3 a1).cells) (v := (.str a1.Caller)) I o9 I I I) I ?_
 refine Z1 I (Zp (m := 3) (o := 0) I Z7o I I) I <| Z1 I (Zu (cs := (Z3 a1).cells) (v := (.str a1.Callee)) I o9 I I I) I <| Z1 I (Z29 (vs := [(0, (.str a1.Caller)), (1, (.str a1.Callee))]) (cs := [(.str a1.Caller), (.str a1.Callee)]) I st126 ⟨rfl, rfl, rfl, rfl, trivial⟩ I) I ?_
 have ⟨v2, hv2, h⟩ := Z1g h
 refine Z1 I (Z1i (ar := [(.ag [(.str a0.Caller), (.str a0.Callee)]), (.ag [(.str a1.Caller), (.str a1.Callee)])]) (caps := []) Tryz.call59 (F59_ok K (⟨a0.Caller, a0.Callee⟩ : Zq) (⟨a1.Caller, a1.Callee⟩ : Zq) v2 hv2) I I ⟨rfl, rfl, trivial⟩ I) I <| Z1 I (Zi (v := (.int .i64 v2)) I I) I <| Ze <| Zf <| Z1a ?_
 have h := Option.some.inj h
 subst h
 refine (hret _ ?_).1
 exact ⟨[(.int .i64 v2)], ⟨rfl, trivial⟩, rfl, trivial⟩
def Zag (K : Nat) (v6 : (List Zd)) (v12 : (List Zl)) : Option (Int × Zb) :=
 (sortF (fun a b => F98 K a b) v6).bind fun v16 =>
  (sortF (fun a b => F100 K a b) v12).bind fun v18 =>
   some (0, (⟨v16, v18⟩ : Zb))
noncomputable def Z8h (K : Nat) (c14 : (List Zl) → Option (Int × Zb)) : Nat → (List (Zq × Zl)) → (List Zl) → Option (Int × Zb)
 | 0, _, _ => none
 | k11 + 1, v9, v10 =>
  ndNext v9 (
   c14 v10) fun x20 x21 =>
   if v10.length + [x20.2].length ≤ 1073741824 then
    (Z8h K c14 k11) x21 (v10 ++ [x20.2])
   else none
noncomputable def F52_c7 (K : Nat) (a2 : (List (Zq × Zl))) (v6 : (List Zd)) : Option (Int × Zb) :=
 Z8h K (Zag K v6) K a2 []
noncomputable def Zc1 (K : Nat) (c8 : (List Zd) → Option (Int × Zb)) : Nat → (List (Str × Zd)) → (List Zd) → Option (Int × Zb)
 | 0, _, _ => none
 | k5 + 1, v3, v4 =>
  ndNext v3 (
   c8 v4) fun x25 x26 =>
   if v4.length + [x25.2].length ≤ 1073741824 then
    (Zc1 K c8 k5) x26 (v4 ++ [x25.2])
   else none
noncomputable def F52 (K : Nat) (a0 : Bool) (a1 : (List (Str × Zd))) (a2 : (List (Zq × Zl))) : Option (Int × Zb) :=
 if (decide ((a1.length : Int) > 256)) = true then
  some (6, Z1z)
 else
  if a0 = true then
   some (20, Z1z)
  else
   Zc1 K (F52_c7 K a2) K a1 []
theorem F52_ok (K : Nat) (a0 : Bool) (a1 : (List (Str × Zd))) (a2 : (List (Zq × Zl))) (r : Int × Zb) (h : F52 K a0 a1 a2 = some r) : ACall P 52 ⟨[(.ptr 2000 0)], [(2000, (.box [(.map 59), (.map 57), (.bool a0)])), (59, (.map (Z19 Z1f Z2 a1))), (57, (.map (Z19 Zm Z3 a2)))], (.tup [(Z5 r.2), (.int .i64 r.1)]), [(2000, (.box [(.map 59), (.map 57), (.bool a0)])), (59, (.fmap (Z19 Z1f Z2 a1))), (57, (.fmap (Z19 Zm Z3 a2)))], [59, 57]⟩ := by
 refine Z1p Tryz.func52 Tryz.results52 rfl Tryz.ntmps52 rfl rfl rfl ?_
 intro E Q hP hN hro hret
 obtain ⟨P', nt', w0, F0, p0, S0, β0, ro0⟩ := E
 simp only at hP hN
 subst hP hN
 dsimp only [argT]
 unfold F52 at h
 refine Zg <| Za <| Z1 I (Z22 (cs := [(.sl 4 [] true), (.sl 5 [] true)]) I z44f I I I) I <| Z1 I (Zi (v := (.int .i64 0)) I I) I <| Ze <| Zf <| Zg <| AWp.block ?_
 refine Zg <| Za <| Z1 I (Zh (v := (.ptr 2000 0)) I I) I <| Z1 I (Z5m (v := (.ptr 2000 0)) I I I) I <| Z1 I (Zp (m := 2000) (o := 0) I f181_0 I I) I <| Z1 I (Zu (cs := [(.map 59), (.map 57), (.bool a0)]) (v := (.map 59)) I o178 I I I) I <| Z1 I (st_mlen (encK := Z1f) (encV := Z2) (kvs := a1) I ⟨9, 68, by kernel_rfl⟩ I I (.inl I)) I <| Z1 I (Z1w (k := .i64) (a := (a1.length : Int)) (b := 256) (c := (decide ((a1.length : Int) > 256))) I I I I) I ?_
 refine Z1 I (Zi (v := (.bool (decide ((a1.length : Int) > 256)))) I I) I <| Ze <| Zf ?_
 have hif := Z1y h
 refine Z13 I (fun hc => ?_) (fun hc => ?_)
 ·have h := hif.1 hc
  refine Zg <| Za <| Z1 I (Z29 (vs := []) (cs := [(.sl 4 [] true), (.sl 5 [] true)]) I st44f trivial I) I <| Z1 I (Z1j (cs := [(.sl 4 [] true), (.sl 5 [] true)]) (vs := [(.sl 4 [] true), (.sl 5 [] true)]) (ds := [(.sl 4 [] true), (.sl 5 [] true)]) (v := (.ag [(.sl 4 [] true), (.sl 5 [] true)])) sz44 I I I I I I I I) I <| Z1 I (Zi (v := (.int .i64 6)) I I) I <| Ze <| Zf <| Z1a ?_
  refine At.overR <| Z1b <| At.ghost (st' := ⟨[(2, (.ptr 2 0)), (3, (.int .i64 6))], [(2, (.box [(.sl 4 [] false), (.sl 5 [] false)])), (57, (.fmap (Z19 Zm Z3 a2))), (59, (.fmap (Z19 Z1f Z2 a1))), (2000, (.box [(.map 59), (.map 57), (.bool a0)]))]⟩) (fun a w h => (Z1c ⟨[(2, (.ptr 2 0)), (3, (.int .i64 6))], [(2, (.box [(.sl 4 [] false), (.sl 5 [] false)])), (57, (.fmap (Z19 Zm Z3 a2))), (59, (.fmap (Z19 Z1f Z2 a1))), (2000, (.box [(.map 59), (.map 57), (.bool a0)]))]⟩ (Z98 (n := 2) (cs := [(.sl 4 [] true), (.sl 5 [] true)]) a w (Z1c ⟨[(2, (.ptr 2 0)), (3, (.int .i64 6))], [(2, (.box [(.sl 4 [] true), (.sl 5 [] true)])), (57, (.fmap (Z19 Zm Z3 a2))), (59, (.fmap (Z19 Z1f Z2 a1))), (2000, (.box [(.map 59), (.map 57), (.bool a0)]))]⟩ (Z1c ⟨[(2, (.ptr 2 0)), (3, (.int .i64 6))], [(2, (.box [(.sl 4 [] true), (.sl 5 [] true)])), (57, (.fmap (Z19 Zm Z3 a2))), (59, (.fmap (Z19 Z1f Z2 a1))), (2000, (.box [(.map 59), (.map 57), (.bool a0)]))]⟩ (Z3c (m := 57) I a w (Z1c ⟨[(2, (.ptr 2 0)), (3, (.int .i64 6))], [(57, (.map (Z19 Zm Z3 a2))), (2, (.box [(.sl 4 [] true), (.sl 5 [] true)])), (59, (.fmap (Z19 Z1f Z2 a1))), (2000, (.box [(.map 59), (.map 57), (.bool a0)]))]⟩ (Z1c ⟨[(2, (.ptr 2 0)), (3, (.int .i64 6))], [(2, (.box [(.sl 4 [] true), (.sl 5 [] true)])), (57, (.map (Z19 Zm Z3 a2))), (59, (.fmap (Z19 Z1f Z2 a1))), (2000, (.box [(.map 59), (.map 57), (.bool a0)]))]⟩ (Z3c (m := 59) I a w (Z1c ⟨[(2, (.ptr 2 0)), (3, (.int .i64 6))], [(59, (.map (Z19 Z1f Z2 a1))), (2, (.box [(.sl 4 [] true), (.sl 5 [] true)])), (57, (.map (Z19 Zm Z3 a2))), (2000, (.box [(.map 59), (.map 57), (.bool a0)]))]⟩ h ⟨rfl, rfl, trivial⟩ ⟨rfl, rfl, rfl, rfl, trivial⟩)) ⟨rfl, rfl, trivial⟩ ⟨rfl, rfl, rfl, rfl, trivial⟩) ⟨rfl, rfl, trivial⟩ ⟨rfl, rfl, rfl, rfl, trivial⟩)) ⟨rfl, rfl, trivial⟩ ⟨rfl, rfl, rfl, rfl, trivial⟩) ⟨rfl, rfl, trivial⟩ ⟨rfl, rfl, rfl, rfl, trivial⟩)) ⟨rfl, rfl, trivial⟩ ⟨rfl, rfl, rfl, rfl, trivial⟩)) ?_
  have h := Option.some.inj h
  subst h
  refine (hret _ ?_).1
  exact ⟨[(Z5 Z1z), (.int .i64 6)], ⟨⟨2, _, rfl, rfl, .inr ⟨_, a44, rfl, rfl⟩⟩, rfl, trivial⟩, rfl, ⟨rfl, rfl, rfl, trivial⟩⟩
 ·have h := hif.2 hc
  refine Zg <| Za <| Z1 I (Zh (v := (.ptr 2000 0)) I I) I <| Z1 I (Z5m (v := (.ptr 2000 0)) I I I) I <| Z1 I (Zp (m := 2000) (o := 0) I f181_2 I I) I <| Z1 I (Zu (cs := [(.map 59), (.map 57), (.bool a0)]) (v := (.bool a0)) I o4 I I I) I <| Z1 I (Zi (v := (.bool a0)) I I) I <| Ze ?_
  refine Zf ?_
  have hif := Z1y h
  refine Z13 I (fun hc => ?_) (fun hc => ?_)
  ·have h := hif.1 hc
   refine Zg <| Za <| Z1 I (Z29 (vs := []) (cs := [(.sl 4 [] true), (.sl 5 [] true)]) I st44f trivial I) I <| Z1 I (Z1j (cs := [(.sl 4 [] true), (.sl 5 [] true)]) (vs := [(.sl 4 [] true), (.sl 5 [] true)]) (ds := [(.sl 4 [] true), (.sl 5 [] true)]) (v := (.ag [(.sl 4 [] true), (.sl 5 [] true)])) sz44 I I I I I I I I) I <| Z1 I (Zi (v := (.int .i64 20)) I I) I <| Ze <| Zf <| Z1a ?_
   refine At.overR <| Z1b <| At.ghost (st' := ⟨[(2, (.ptr 2 0)), (3, (.int .i64 20))], [(2, (.box [(.sl 4 [] false), (.sl 5 [] false)])), (57, (.fmap (Z19 Zm Z3 a2))), (59, (.fmap (Z19 Z1f Z2 a1))), (2000, (.box [(.map 59), (.map 57), (.bool a0)]))]⟩) (fun a w h => (Z1c ⟨[(2, (.ptr 2 0)), (3, (.int .i64 20))], [(2, (.box [(.sl 4 [] false), (.sl 5 [] false)])), (57, (.fmap (Z19 Zm Z3 a2))), (59, (.fmap (Z19 Z1f Z2 a1))), (2000, (.box [(.map 59), (.map 57), (.bool a0)]))]⟩ (Z98 (n := 2) (cs := [(.sl 4 [] true), (.sl 5 [] true)]) a w (Z1c ⟨[(2, (.ptr 2 0)), (3, (.int .i64 20))], [(2, (.box [(.sl 4 [] true), (.sl 5 [] true)])), (57, (.fmap (Z19 Zm Z3 a2))), (59, (.fmap (Z19 Z1f Z2 a1))), (2000, (.box [(.map 59), (.map 57), (.bool a0)]))]⟩ (Z1c ⟨[(2, (.ptr 2 0)), (3, (.int .i64 20))], [(2, (.box [(.sl 4 [] true), (.sl 5 [] true)])), (57, (.fmap (Z19 Zm Z3 a2))), (59, (.fmap (Z19 Z1f Z2 a1))), (2000, (.box [(.map 59), (.map 57), (.bool a0)]))]⟩ (Z3c (m := 57) I a w (Z1c ⟨[(2, (.ptr 2 0)), (3, (.int .i64 20))], [(57, (.map (Z19 Zm Z3 a2))), (2, (.box [(.sl 4 [] true), (.sl 5 [] true)])), (59, (.fmap (Z19 Z1f Z2 a1))), (2000, (.box [(.map 59), (.map 57), (.bool a0)]))]⟩ (Z1c ⟨[(2, (.ptr 2 0)), (3, (.int .i64 20))], [(2, (.box [(.sl 4 [] true), (.sl 5 [] true)])), (57, (.map (Z19 Zm Z3 a2))), (59, (.fmap (Z19 Z1f Z2 a1))), (2000, (.box [(.map 59), (.map 57), (.bool a0)]))]⟩ (Z3c (m := 59) I a w (Z1c ⟨[(2, (.ptr 2 0)), (3, (.int .i64 20))], [(59, (.map (Z19 Z1f Z2 a1))), (2, (.box [(.sl 4 [] true), (.sl 5 [] true)])), (57, (.map (Z19 Zm Z3 a2))), (2000, (.box [(.map 59), (.map 57), (.bool a0)]))]⟩ h ⟨rfl, rfl, trivial⟩ ⟨rfl, rfl, rfl, rfl, trivial⟩)) ⟨rfl, rfl, trivial⟩ ⟨rfl, rfl, rfl, rfl, trivial⟩) ⟨rfl, rfl, trivial⟩ ⟨rfl, rfl, rfl, rfl, trivial⟩)) ⟨rfl, rfl, trivial⟩ ⟨rfl, rfl, rfl, rfl, trivial⟩) ⟨rfl, rfl, trivial⟩ ⟨rfl, rfl, rfl, rfl, trivial⟩)) ⟨rfl, rfl, trivial⟩ ⟨rfl, rfl, rfl, rfl, trivial⟩)) ?_
   have h := Option.some.inj h
   subst h
   refine (hret _ ?_).1
   exact ⟨[(Z5 Z1z), (.int .i64 20)], ⟨⟨2, _, rfl, rfl, .inr ⟨_, a44, rfl, rfl⟩⟩, rfl, trivial⟩, rfl, ⟨rfl, rfl, rfl, trivial⟩⟩
  ·have h := hif.2 hc
   refine Z16 <| At.end <| Zf <| Zg <| Za <| Z1 I (Z22 (cs := [(.sl 4 [] true), (.sl 5 [] true)]) I z44f I I I) I <| Ze <| Zf ?_
   refine Zg <| Zg <| Za <| Z1 I (Zh (v := (.ptr 2000 0)) I I) I <| Z1 I (Z5m (v := (.ptr 2000 0)) I I I) I <| Z1 I (Zp (m := 2000) (o := 0) I f181_0 I I) I <| Z1 I (Zu (cs := [(.map 59), (.map 57), (.bool a0)]) (v := (.map 59)) I o178 I I I) I <| AOps.ghost (st' := ⟨[(0, (.ptr 2000 0)), (2, (.ptr 2 0)), (4, (.ptr 4 0)), (26, (.map 59))], [(2, (.box [(.sl 4 [] true), (.sl 5 [] true)])), (4, (.box [(.sl 4 [] true), (.sl 5 [] true)])), (57, (.map (Z19 Zm Z3 a2))), (59, (.fmap (Z19 Z1f Z2 a1))), (2000, (.box [(.map 59), (.map 57), (.bool a0)]))]⟩) (fun a w h => (Z1c ⟨[(0, (.ptr 2000 0)), (2, (.ptr 2 0)), (4, (.ptr 4 0)), (26, (.map 59))], [(2, (.box [(.sl 4 [] true), (.sl 5 [] true)])), (4, (.box [(.sl 4 [] true), (.sl 5 [] true)])), (57, (.map (Z19 Zm Z3 a2))), (59, (.fmap (Z19 Z1f Z2 a1))), (2000, (.box [(.map 59), (.map 57), (.bool a0)]))]⟩ (Z3c (m := 59) I a w (Z1c ⟨[(0, (.ptr 2000 0)), (2, (.ptr 2 0)), (4, (.ptr 4 0)), (26, (.map 59))], [(59, (.map (Z19 Z1f Z2 a1))), (2, (.box [(.sl 4 [] true), (.sl 5 [] true)])), (4, (.box [(.sl 4 [] true), (.sl 5 [] true)])), (57, (.map (Z19 Zm Z3 a2))), (2000, (.box [(.map 59), (.map 57), (.bool a0)]))]⟩ h ⟨rfl, rfl, rfl, rfl, trivial⟩ ⟨rfl, rfl, rfl, rfl, rfl, trivial⟩)) ⟨rfl, rfl, rfl, rfl, trivial⟩ ⟨rfl, rfl, rfl, rfl, rfl, trivial⟩)) ?_
   refine Z1 I (st_range (l := a1) I ⟨9, 68, by kernel_rfl⟩ I I) I <| Ze <| Zf <| AWp.ghost (st' := ⟨[(0, (.ptr 2000 0)), (2, (.ptr 2 0)), (4, (.ptr 4 0)), (27, (.itr 27))], [(2, (.box [(.sl 4 [] true), (.sl 5 [] true)])), (4, (.box [(.vs 56), (.sl 5 [] true)])), (27, (.iter none (Z19 Z1f Z2 a1))), (56, (.vec 4 (List.map Z2 ([] : List Zd)))), (57, (.map (Z19 Zm Z3 a2))), (59, (.fmap (Z19 Z1f Z2 a1))), (2000, (.box [(.map 59), (.map 57), (.bool a0)]))]⟩) (fun a w h => (Z1c ⟨[(0, (.ptr 2000 0)), (2, (.ptr 2 0)), (4, (.ptr 4 0)), (27, (.itr 27))], [(2, (.box [(.sl 4 [] true), (.sl 5 [] true)])), (4, (.box [(.vs 56), (.sl 5 [] true)])), (27, (.iter none (Z19 Z1f Z2 a1))), (56, (.vec 4 (List.map Z2 ([] : List Zd)))), (57, (.map (Z19 Zm Z3 a2))), (59, (.fmap (Z19 Z1f Z2 a1))), (2000, (.box [(.map 59), (.map 57), (.bool a0)]))]⟩ (Z8l (n := 4) (m := 56) (sz := 4) (j := 0) I I I a w (Z1c ⟨[(0, (.ptr 2000 0)), (2, (.ptr 2 0)), (4, (.ptr 4 0)), (27, (.itr 27))], [(4, (.box [(.sl 4 [] true), (.sl 5 [] true)])), (2, (.box [(.sl 4 [] true), (.sl 5 [] true)])), (27, (.iter none (Z19 Z1f Z2 a1))), (57, (.map (Z19 Zm Z3 a2))), (59, (.fmap (Z19 Z1f Z2 a1))), (2000, (.box [(.map 59), (.map 57), (.bool a0)]))]⟩ h ⟨rfl, rfl, rfl, rfl, trivial⟩ ⟨rfl, rfl, rfl, rfl, rfl, rfl, trivial⟩)) ⟨rfl, rfl, rfl, rfl, trivial⟩ ⟨rfl, rfl, rfl, rfl, rfl, rfl, rfl, trivial⟩)) <| Z1t (st' := ⟨[(0, (.ptr 2000 0)), (2, (.ptr 2 0)), (4, (.ptr 4 0)), (27, (.itr 27))], [(2, (.box [(.sl 4 [] true), (.sl 5 [] true)])), (4, (.box [(.vs 56), (.sl 5 [] true)])), (27, (.iter none (Z19 Z1f Z2 a1))), (56, (.vec 4 (List.map Z2 []))), (57, (.map (Z19 Zm Z3 a2))), (59, (.fmap (Z19 Z1f Z2 a1))), (2000, (.box [(.map 59), (.map 57), (.bool a0)]))]⟩) ⟨rfl, rfl, rfl, rfl, trivial⟩ ⟨rfl, rfl, rfl, rfl, rfl, rfl, rfl, trivial⟩ ?_
   refine Z1h (V := (List (Str × Zd)) × (List Zd)) (X := (List Zd)) (lp := fun k v => Zc1 K (F52_c7 K a2) k v.1 v.2 = some r) (sh := fun v => ⟨[(0, (.ptr 2000 0)), (2, (.ptr 2 0)), (4, (.ptr 4 0)), (27, (.itr 27))], [(2, (.box [(.sl 4 [] true), (.sl 5 [] true)])), (4, (.box [(.vs 56), (.sl 5 [] true)])), (27, (.iter none (Z19 Z1f Z2 v.1))), (56, (.vec 4 (List.map Z2 v.2))), (57, (.map (Z19 Zm Z3 a2))), (59, (.fmap (Z19 Z1f Z2 a1))), (2000, (.box [(.map 59), (.map 57), (.bool a0)]))]⟩) (x := fun v => F52_c7 K a2 v = some r) (shx := fun v => ⟨[(0, (.ptr 2000 0)), (2, (.ptr 2 0)), (4, (.ptr 4 0))], [(2, (.box [(.sl 4 [] true), (.sl 5 [] true)])), (4, (.box [(.vs 56), (.sl 5 [] true)])), (56, (.vec 4 (List.map Z2 v))), (57, (.map (Z19 Zm Z3 a2))), (59, (.fmap (Z19 Z1f Z2 a1))), (2000, (.box [(.map 59), (.map 57), (.bool a0)]))]⟩) (k := K) (v := (a1, [])) h ?_ ?_
   ·intro v h
    revert h
    revert v
    intro v6 h
    try dsimp only at h ⊢
    unfold F52_c7 at h
    refine Zf <| Zg <| Zg <| Za <| Z1 I (Zh (v := (.ptr 2000 0)) I I) I <| Z1 I (Z5m (v := (.ptr 2000 0)) I I I) I <| Z1 I (Zp (m := 2000) (o := 0) I f181_1 I I) I <| Z1 I (Zu (cs := [(.map 59), (.map 57), (.bool a0)]) (v := (.map 57)) I o179 I I I) I ?_
    refine AOps.ghost (st' := ⟨[(2, (.ptr 2 0)), (4, (.ptr 4 0)), (41, (.map 57))], [(2, (.box [(.sl 4 [] true), (.sl 5 [] true)])), (4, (.box [(.vs 56), (.sl 5 [] true)])), (56, (.vec 4 (List.map Z2 v6))), (57, (.fmap (Z19 Zm Z3 a2))), (59, (.fmap (Z19 Z1f Z2 a1))), (2000, (.box [(.map 59), (.map 57), (.bool a0)]))]⟩) (fun a w h => (Z1c ⟨[(2, (.ptr 2 0)), (4, (.ptr 4 0)), (41, (.map 57))], [(2, (.box [(.sl 4 [] true), (.sl 5 [] true)])), (4, (.box [(.vs 56), (.sl 5 [] true)])), (56, (.vec 4 (List.map Z2 v6))), (57, (.fmap (Z19 Zm Z3 a2))), (59, (.fmap (Z19 Z1f Z2 a1))), (2000, (.box [(.map 59), (.map 57), (.bool a0)]))]⟩ (Z3c (m := 57) I a w (Z1c ⟨[(2, (.ptr 2 0)), (4, (.ptr 4 0)), (41, (.map 57))], [(57, (.map (Z19 Zm Z3 a2))), (2, (.box [(.sl 4 [] true), (.sl 5 [] true)])), (4, (.box [(.vs 56), (.sl 5 [] true)])), (56, (.vec 4 (List.map Z2 v6))), (59, (.fmap (Z19 Z1f Z2 a1))), (2000, (.box [(.map 59), (.map 57), (.bool a0)]))]⟩ h ⟨rfl, rfl, rfl, trivial⟩ ⟨rfl, rfl, rfl, rfl, rfl, rfl, trivial⟩)) ⟨rfl, rfl, rfl, trivial⟩ ⟨rfl, rfl, rfl, rfl, rfl, rfl, trivial⟩)) <| Z1 I (st_range (l := a2) I ⟨126, 88, by kernel_rfl⟩ I I) I <| Ze <| Zf <| AWp.ghost (st' := ⟨[(2, (.ptr 2 0)), (4, (.ptr 4 0)), (42, (.itr 42))], [(2, (.box [(.sl 4 [] true), (.sl 5 [] true)])), (4, (.box [(.vs 56), (.vs 54)])), (42, (.iter none (Z19 Zm Z3 a2))), (54, (.vec 5 (List.map Z3 ([] : List Zl)))), (56, (.vec 4 (List.map Z2 v6))), (57, (.fmap (Z19 Zm Z3 a2))), (59, (.fmap (Z19 Z1f Z2 a1))), (2000, (.box [(.map 59), (.map 57), (.bool a0)]))]⟩) (fun a w h => (Z1c ⟨[(2, (.ptr 2 0)), (4, (.ptr 4 0)), (42, (.itr 42))], [(2, (.box [(.sl 4 [] true), (.sl 5 [] true)])), (4, (.box [(.vs 56), (.vs 54)])), (42, (.iter none (Z19 Zm Z3 a2))), (54, (.vec 5 (List.map Z3 ([] : List Zl)))), (56, (.vec 4 (List.map Z2 v6))), (57, (.fmap (Z19 Zm Z3 a2))), (59, (.fmap (Z19 Z1f Z2 a1))), (2000, (.box [(.map 59), (.map 57), (.bool a0)]))]⟩ (Z8l (n := 4) (m := 54) (sz := 5) (j := 1) I I I a w (Z1c ⟨[(2, (.ptr 2 0)), (4, (.ptr 4 0)), (42, (.itr 42))], [(4, (.box [(.vs 56), (.sl 5 [] true)])), (2, (.box [(.sl 4 [] true), (.sl 5 [] true)])), (42, (.iter none (Z19 Zm Z3 a2))), (56, (.vec 4 (List.map Z2 v6))), (57, (.fmap (Z19 Zm Z3 a2))), (59, (.fmap (Z19 Z1f Z2 a1))), (2000, (.box [(.map 59), (.map 57), (.bool a0)]))]⟩ h ⟨rfl, rfl, rfl, trivial⟩ ⟨rfl, rfl, rfl, rfl, rfl, rfl, rfl, trivial⟩)) ⟨rfl, rfl, rfl, trivial⟩ ⟨rfl, rfl, rfl, rfl, rfl, rfl, rfl, rfl, trivial⟩)) <| Z1t (st' := ⟨[(2, (.ptr 2 0)), (4, (.ptr 4 0)), (42, (.itr 42))], [(2, (.box [(.sl 4 [] true), (.sl 5 [] true)])), (4, (.box [(.vs 56), (.vs 54)])), (42, (.iter none (Z19 Zm Z3 a2))), (54, (.vec 5 (List.map Z3 []))), (56, (.vec 4 (List.map Z2 v6))), (57, (.fmap (Z19 Zm Z3 a2))), (59, (.fmap (Z19 Z1f Z2 a1))), (2000, (.box [(.map 59), (.map 57), (.bool a0)]))]⟩) ⟨rfl, rfl, rfl, trivial⟩ ⟨rfl, rfl, rfl, rfl, rfl, rfl, rfl, rfl, trivial⟩ ?_
    refine Z1h (V := (List (Zq × Zl)) × (List Zl)) (X := (List Zl)) (lp := fun k v => Z8h K (Zag K v6) k v.1 v.2 = some r) (sh := fun v => ⟨[(2, (.ptr 2 0)), (4, (.ptr 4 0)), (42, (.itr 42))], [(2, (.box [(.sl 4 [] true), (.sl 5 [] true)])), (4, (.box [(.vs 56), (.vs 54)])), (42, (.iter none (Z19 Zm Z3 v.1))), (54, (.vec 5 (List.map Z3 v.2))), (56, (.vec 4 (List.map Z2 v6))), (57, (.fmap (Z19 Zm Z3 a2))), (59, (.fmap (Z19 Z1f Z2 a1))), (2000, (.box [(.map 59), (.map 57), (.bool a0)]))]⟩) (x := fun v => Zag K v6 v = some r) (shx := fun v => ⟨[(2, (.ptr 2 0)), (4, (.ptr 4 0))], [(2, (.box [(.sl 4 [] true), (.sl 5 [] true)])), (4, (.box [(.vs 56), (.vs 54)])), (54, (.vec 5 (List.map Z3 v))), (56, (.vec 4 (List.map Z2 v6))), (57, (.fmap (Z19 Zm Z3 a2))), (59, (.fmap (Z19 Z1f Z2 a1))), (2000, (.box [(.map 59), (.map 57), (.bool a0)]))]⟩) (k := K) (v := (a2, [])) h ?_ ?_
    ·intro v h
     revert h
     revert v
     intro v12 h
     try dsimp only at h ⊢
     unfold Zag at h
     refine Zf <| Zg <| Za <| Z1 I (Zp (m := 4) (o := 0) I Z4a I I) I <| Z1 I (Zu (cs := [(.vs 56), (.vs 54)]) (v := (.vs 56)) I o41 I I I) I ?_
     have ⟨v16, hv16, h⟩ := Z1g h
     refine Z1 I (Z33 (d := some 55) (c := ⟨[(.vs 56), (.clo 98 [])], [(56, (.vec 4 (List.map Z2 v6)))], .tup [], [(56, .vec 4 (List.map Z2 v16))], []⟩) (ar := [(.vs 56), (.clo 98 [])]) (caps := []) (news := []) (forg := []) Tryz.call97 (sort_ok (n := 56) (enc := Z2) (l := v6) (caps := []) (c := (fun a b => F98 K a b)) sortC97 Tryz.call98 Z1v (fun _ => I) (fun a b m hm => F98_ok K a b m hm) hv16) I I ⟨rfl, rfl, trivial⟩ I ⟨rfl, trivial⟩ I) I <| Ze <| Zf <| Zg <| Za <| Z1 I (Zp (m := 4) (o := 0) I Z3y I I) I <| Z1 I (Zu (cs := [(.vs 56), (.vs 54)]) (v := (.vs 54)) I o42 I I I) I ?_
     have ⟨v18, hv18, h⟩ := Z1g h
     refine Z1 I (Z33 (d := some 58) (c := ⟨[(.vs 54), (.clo 100 [])], [(54, (.vec 5 (List.map Z3 v12)))], .tup [], [(54, .vec 5 (List.map Z3 v18))], []⟩) (ar := [(.vs 54), (.clo 100 [])]) (caps := []) (news := []) (forg := []) Tryz.call99 (sort_ok (n := 54) (enc := Z3) (l := v12) (caps := []) (c := (fun a b => F100 K a b)) sortC99 Tryz.call100 Z2e (fun _ => I) (fun a b m hm => F100_ok K a b m hm) hv18) I I ⟨rfl, rfl, trivial⟩ I ⟨rfl, trivial⟩ I) I <| Ze <| Zf <| Zg <| Za <| Z1 I (Z1q (cs := [(.vs 56), (.vs 54)]) (vs := [(.vs 56), (.vs 54)]) I a44 I I I I) I <| Z1 I (Z1j (cs := [(.sl 4 [] true), (.sl 5 [] true)]) (vs := [(.vs 56), (.vs 54)]) (ds := [(.vs 56), (.vs 54)]) (v := (.ag [(.vs 56), (.vs 54)])) sz44 I I I I I I I I) I <| Z1 I (Zi (v := (.int .i64 0)) I I) I ?_
     refine Ze <| Zf <| Z1a <| At.ghost (st' := ⟨[(2, (.ptr 2 0)), (3, (.int .i64 0))], [(2, (.box [(.sl 4 (v16.map Z2) false), (.sl 5 (v18.map Z3) false)])), (57, (.fmap (Z19 Zm Z3 a2))), (59, (.fmap (Z19 Z1f Z2 a1))), (2000, (.box [(.map 59), (.map 57), (.bool a0)]))]⟩) (fun a w h => (Z1c ⟨[(2, (.ptr 2 0)), (3, (.int .i64 0))], [(2, (.box [(.sl 4 (v16.map Z2) false), (.sl 5 (v18.map Z3) false)])), (57, (.fmap (Z19 Zm Z3 a2))), (59, (.fmap (Z19 Z1f Z2 a1))), (2000, (.box [(.map 59), (.map 57), (.bool a0)]))]⟩ (Z27 (m := 54) (sz := 5) (es := (List.map Z3 v18)) a w (Z1c ⟨[(2, (.ptr 2 0)), (3, (.int .i64 0))], [(54, (.vec 5 (List.map Z3 v18))), (2, (.box [(.sl 4 (v16.map Z2) false), (.vs 54)])), (57, (.fmap (Z19 Zm Z3 a2))), (59, (.fmap (Z19 Z1f Z2 a1))), (2000, (.box [(.map 59), (.map 57), (.bool a0)]))]⟩ (Z1c ⟨[(2, (.ptr 2 0)), (3, (.int .i64 0))], [(2, (.box [(.sl 4 (v16.map Z2) false), (.vs 54)])), (54, (.vec 5 (List.map Z3 v18))), (57, (.fmap (Z19 Zm Z3 a2))), (59, (.fmap (Z19 Z1f Z2 a1))), (2000, (.box [(.map 59), (.map 57), (.bool a0)]))]⟩ (Z27 (m := 56) (sz := 4) (es := (List.map Z2 v16)) a w (Z1c ⟨[(2, (.ptr 2 0)), (3, (.int .i64 0))], [(56, (.vec 4 (List.map Z2 v16))), (2, (.box [(.vs 56), (.vs 54)])), (54, (.vec 5 (List.map Z3 v18))), (57, (.fmap (Z19 Zm Z3 a2))), (59, (.fmap (Z19 Z1f Z2 a1))), (2000, (.box [(.map 59), (.map 57), (.bool a0)]))]⟩ h ⟨rfl, rfl, trivial⟩ ⟨rfl, rfl, rfl, rfl, rfl, rfl, trivial⟩)) ⟨rfl, rfl, trivial⟩ ⟨rfl, rfl, rfl, rfl, rfl, trivial⟩) ⟨rfl, rfl, trivial⟩ ⟨rfl, rfl, rfl, rfl, rfl, trivial⟩)) ⟨rfl, rfl, trivial⟩ ⟨rfl, rfl, rfl, rfl, trivial⟩)) ?_
     have h := Option.some.inj h
     subst h
     refine (hret _ ?_).1
     exact ⟨[(Z5 (⟨v16, v18⟩ : Zb)), (.int .i64 0)], ⟨⟨2, _, rfl, rfl, .inr ⟨_, a44, rfl, rfl⟩⟩, rfl, trivial⟩, rfl, ⟨rfl, rfl, rfl, trivial⟩⟩
    ·intro N k11 v h IH11 J11
     obtain ⟨v9, v10⟩ := v
     try dsimp only at h IH11 J11 ⊢
     cases k11 with
     | zero => cases h
     | succ k11 =>
      rw [Z8h] at h
      refine Zg <| Za ?_
      have hn23 := of_ndNext h
      refine AOps.consNext (encK := Zm) (encV := Z3) (rem := v9) I I I (fun hc => ?_) (fun xx21p x20 xx21q hc => ?_)
      ·have h := hn23.1 hc
       refine Z1 I (Z21 (vs := [(.bool false)]) (v := (.bool false)) I I I) I <| Ze <| Zf <| Zg ?_
       refine Z13 (b := false) I (fun hc => ?_) (fun hc => ?_)
       ·cases hc
       refine AWp.exit <| At.thru ?_
       exact Zw (st' := ⟨[(2, (.ptr 2 0)), (4, (.ptr 4 0))], [(2, (.box [(.sl 4 [] true), (.sl 5 [] true)])), (4, (.box [(.vs 56), (.vs 54)])), (54, (.vec 5 (List.map Z3 v10))), (56, (.vec 4 (List.map Z2 v6))), (57, (.fmap (Z19 Zm Z3 a2))), (59, (.fmap (Z19 Z1f Z2 a1))), (2000, (.box [(.map 59), (.map 57), (.bool a0)]))]⟩) ⟨rfl, rfl, trivial⟩ ⟨rfl, rfl, rfl, rfl, rfl, rfl, rfl, trivial⟩ (J11 v10 h)
      ·have h := hn23.2 _ _ _ hc
       generalize xx21p ++ xx21q = x21 at h ⊢
       refine Z1 I (Z21 (vs := [(.bool true), .undef, .undef]) (v := (.bool true)) I I I) I <| Ze <| Zf <| Zg ?_
       refine Z13 (b := true) I (fun hc => ?_) (fun hc => ?_)
       rotate_left
       ·cases hc
       refine Z16 <| Zf <| AWp.block <| Zg <| Za <| Z1 I (st_entry (k := x20.1) (v := x20.2) (encK := Zm) (encV := Z3) I I I) I <| Z1 I (Z21 (vs := [(Zm x20.1), (Z3 x20.2)]) (v := (Z3 x20.2)) I I I) I <| Z1 I (Z22 (cs := [(.str []), (.str []), (.int .i64 0), (.int .i64 0), (.int .i64 0)]) I z88 I I I) I ?_
       refine Z1 I (Z1j (cs := [(.str []), (.str []), (.int .i64 0), (.int .i64 0), (.int .i64 0)]) (vs := (Z3 x20.2).cells) (ds := (Z3 x20.2).cells) (v := (Z3 x20.2)) sz88 I I I I I I I I) I <| Ze <| Zf <| Za <| Z1 I (Zp (m := 4) (o := 0) I Z3y I I) I <| Z1 I (Zu (cs := [(.vs 56), (.vs 54)]) (v := (.vs 54)) I o42 I I I) I <| Z1 I (Z1q (cs := (Z3 x20.2).cells) (vs := (Z3 x20.2).cells) I a88 I I I I) I <| Z1 I (Z1d (vs := [(Z3 x20.2)]) (enc := Z3) (l := [x20.2]) I el42 I I ⟨rfl, trivial⟩ I Z2e I I I I) I ?_
       have ⟨hg22, h⟩ := Zv h
       refine Z1 I (Z2g (m := 54) (enc := Z3) (l := v10) (l' := [x20.2]) (src := (.vs 50)) (rd := [(50, (.vec 5 (List.map Z3 [x20.2])))]) I I el42 I u42 I I I I (oneRead I) Z2e hg22) I <| Z1 I (Zp (m := 4) (o := 0) I Z3y I I) I <| Z1 I (Z1j (cs := [(.vs 56), .undef]) (vs := [(.vs 54)]) (ds := [(.vs 56), (.vs 54)]) (v := (.vs 54)) sz42 I I I I I I I I) I <| Ze <| At.end <| At.ghost (st' := ⟨[(2, (.ptr 2 0)), (4, (.ptr 4 0)), (42, (.itr 42))], [(2, (.box [(.sl 4 [] true), (.sl 5 [] true)])), (4, (.box [(.vs 56), (.vs 54)])), (42, (.iter none (Z19 Zm Z3 x21))), (54, (.vec 5 (List.map Z3 (v10 ++ [x20.2])))), (56, (.vec 4 (List.map Z2 v6))), (57, (.fmap (Z19 Zm Z3 a2))), (59, (.fmap (Z19 Z1f Z2 a1))), (2000, (.box [(.map 59), (.map 57), (.bool a0)]))]⟩) (fun a w h => (Z1c ⟨[(2, (.ptr 2 0)), (4, (.ptr 4 0)), (42, (.itr 42))], [(2, (.box [(.sl 4 [] true), (.sl 5 [] true)])), (4, (.box [(.vs 56), (.vs 54)])), (42, (.iter none (Z19 Zm Z3 x21))), (54, (.vec 5 (List.map Z3 (v10 ++ [x20.2])))), (56, (.vec 4 (List.map Z2 v6))), (57, (.fmap (Z19 Zm Z3 a2))), (59, (.fmap (Z19 Z1f Z2 a1))), (2000, (.box [(.map 59), (.map 57), (.bool a0)]))]⟩ (Zc4 (m := 42) a w (Z1c ⟨[(2, (.ptr 2 0)), (4, (.ptr 4 0)), (42, (.itr 42))], [(42, (.iter (some (Zm x20.1, Z3 x20.2)) (Z19 Zm Z3 x21))), (2, (.box [(.sl 4 [] true), (.sl 5 [] true)])), (4, (.box [(.vs 56), (.vs 54)])), (54, (.vec 5 (List.map Z3 (v10 ++ [x20.2])))), (56, (.vec 4 (List.map Z2 v6))), (57, (.fmap (Z19 Zm Z3 a2))), (59, (.fmap (Z19 Z1f Z2 a1))), (2000, (.box [(.map 59), (.map 57), (.bool a0)]))]⟩ h ⟨rfl, rfl, rfl, trivial⟩ ⟨rfl, rfl, rfl, rfl, rfl, rfl, rfl, rfl, trivial⟩)) ⟨rfl, rfl, rfl, trivial⟩ ⟨rfl, rfl, rfl, rfl, rfl, rfl, rfl, rfl, trivial⟩)) ?_
       exact Zw (st' := ⟨[(2, (.ptr 2 0)), (4, (.ptr 4 0)), (42, (.itr 42))], [(2, (.box [(.sl 4 [] true), (.sl 5 [] true)])), (4, (.box [(.vs 56), (.vs 54)])), (42, (.iter none (Z19 Zm Z3 x21))), (54, (.vec 5 (List.map Z3 (v10 ++ [x20.2])))), (56, (.vec 4 (List.map Z2 v6))), (57, (.fmap (Z19 Zm Z3 a2))), (59, (.fmap (Z19 Z1f Z2 a1))), (2000, (.box [(.map 59), (.map 57), (.bool a0)]))]⟩) ⟨rfl, rfl, rfl, trivial⟩ ⟨rfl, rfl, rfl, rfl, rfl, rfl, rfl, rfl, trivial⟩ (IH11 _ (x21, (v10 ++ [x20.2])) (Nat.lt_succ_self _) h)
   ·intro N k5 v h IH5 J5
    obtain ⟨v3, v4⟩ := v
    try dsimp only at h IH5 J5 ⊢
    cases k5 with
    | zero => cases h
    | succ k5 =>
     rw [Zc1] at h
     refine Zg <| Za ?_
     have hn28 := of_ndNext h
     refine AOps.consNext (encK := Z1f) (encV := Z2) (rem := v3) I I I (fun hc => ?_) (fun xx26p x25 xx26q hc => ?_)
     ·have h := hn28.1 hc
      refine Z1 I (Z21 (vs := [(.bool false)]) (v := (.bool false)) I I I) I <| Ze <| Zf <| Zg ?_
      refine Z13 (b := false) I (fun hc => ?_) (fun hc => ?_)
      ·cases hc
      refine AWp.exit <| At.thru ?_
      exact Zw (st' := ⟨[(0, (.ptr 2000 0)), (2, (.ptr 2 0)), (4, (.ptr 4 0))], [(2, (.box [(.sl 4 [] true), (.sl 5 [] true)])), (4, (.box [(.vs 56), (.sl 5 [] true)])), (56, (.vec 4 (List.map Z2 v4))), (57, (.map (Z19 Zm Z3 a2))), (59, (.fmap (Z19 Z1f Z2 a1))), (2000, (.box [(.map 59), (.map 57), (.bool a0)]))]⟩) ⟨rfl, rfl, rfl, trivial⟩ ⟨rfl, rfl, rfl, rfl, rfl, rfl, trivial⟩ (J5 v4 h)
     ·have h := hn28.2 _ _ _ hc
      generalize xx26p ++ xx26q = x26 at h ⊢
      refine Z1 I (Z21 (vs := [(.bool true), .undef, .undef]) (v := (.bool true)) I I I) I <| Ze <| Zf <| Zg ?_
      refine Z13 (b := true) I (fun hc => ?_) (fun hc => ?_)
      rotate_left
      ·cases hc
      refine Z16 <| Zf <| AWp.block <| Zg <| Za <| Z1 I (st_entry (k := x25.1) (v := x25.2) (encK := Z1f) (encV := Z2) I I I) I <| Z1 I (Z21 (vs := [(.str x25.1), (Z2 x25.2)]) (v := (Z2 x25.2)) I I I) I <| Z1 I (Z22 (cs := [(.str []), (.int .i64 0), (.int .i64 0), (.int .i64 0)]) I z68 I I I) I ?_
      refine Z1 I (Z1j (cs := [(.str []), (.int .i64 0), (.int .i64 0), (.int .i64 0)]) (vs := (Z2 x25.2).cells) (ds := (Z2 x25.2).cells) (v := (Z2 x25.2)) sz68 I I I I I I I I) I <| Ze <| Zf <| Za <| Z1 I (Zp (m := 4) (o := 0) I Z4a I I) I <| Z1 I (Zu (cs := [(.vs 56), (.sl 5 [] true)]) (v := (.vs 56)) I o41 I I I) I <| Z1 I (Z1q (cs := (Z2 x25.2).cells) (vs := (Z2 x25.2).cells) I a68 I I I I) I <| Z1 I (Z1d (vs := [(Z2 x25.2)]) (enc := Z2) (l := [x25.2]) I el41 I I ⟨rfl, trivial⟩ I Z1v I I I I) I ?_
      have ⟨hg27, h⟩ := Zv h
      refine Z1 I (Z2g (m := 56) (enc := Z2) (l := v4) (l' := [x25.2]) (src := (.vs 35)) (rd := [(35, (.vec 4 (List.map Z2 [x25.2])))]) I I el41 I u41 I I I I (oneRead I) Z1v hg27) I <| Z1 I (Zp (m := 4) (o := 0) I Z4a I I) I <| Z1 I (Z1j (cs := [.undef, (.sl 5 [] true)]) (vs := [(.vs 56)]) (ds := [(.vs 56), (.sl 5 [] true)]) (v := (.vs 56)) sz41 I I I I I I I I) I <| Ze <| At.end <| At.ghost (st' := ⟨[(0, (.ptr 2000 0)), (2, (.ptr 2 0)), (4, (.ptr 4 0)), (27, (.itr 27))], [(2, (.box [(.sl 4 [] true), (.sl 5 [] true)])), (4, (.box [(.vs 56), (.sl 5 [] true)])), (27, (.iter none (Z19 Z1f Z2 x26))), (56, (.vec 4 (List.map Z2 (v4 ++ [x25.2])))), (57, (.map (Z19 Zm Z3 a2))), (59, (.fmap (Z19 Z1f Z2 a1))), (2000, (.box [(.map 59), (.map 57), (.bool a0)]))]⟩) (fun a w h => (Z1c ⟨[(0, (.ptr 2000 0)), (2, (.ptr 2 0)), (4, (.ptr 4 0)), (27, (.itr 27))], [(2, (.box [(.sl 4 [] true), (.sl 5 [] true)])), (4, (.box [(.vs 56), (.sl 5 [] true)])), (27, (.iter none (Z19 Z1f Z2 x26))), (56, (.vec 4 (List.map Z2 (v4 ++ [x25.2])))), (57, (.map (Z19 Zm Z3 a2))), (59, (.fmap (Z19 Z1f Z2 a1))), (2000, (.box [(.map 59), (.map 57), (.bool a0)]))]⟩ (Zc4 (m := 27) a w (Z1c ⟨[(0, (.ptr 2000 0)), (2, (.ptr 2 0)), (4, (.ptr 4 0)), (27, (.itr 27))], [(27, (.iter (some (Z1f x25.1, Z2 x25.2)) (Z19 Z1f Z2 x26))), (2, (.box [(.sl 4 [] true), (.sl 5 [] true)])), (4, (.box [(.vs 56), (.sl 5 [] true)])), (56, (.vec 4 (List.map Z2 (v4 ++ [x25.2])))), (57, (.map (Z19 Zm Z3 a2))), (59, (.fmap (Z19 Z1f Z2 a1))), (2000, (.box [(.map 59), (.map 57), (.bool a0)]))]⟩ h ⟨rfl, rfl, rfl, rfl, trivial⟩ ⟨rfl, rfl, rfl, rfl, rfl, rfl, rfl, trivial⟩)) ⟨rfl, rfl, rfl, rfl, trivial⟩ ⟨rfl, rfl, rfl, rfl, rfl, rfl, rfl, trivial⟩)) ?_
      exact Zw (st' := ⟨[(0, (.ptr 2000 0)), (2, (.ptr 2 0)), (4, (.ptr 4 0)), (27, (.itr 27))], [(2, (.box [(.sl 4 [] true), (.sl 5 [] true)])), (4, (.box [(.vs 56), (.sl 5 [] true)])), (27, (.iter none (Z19 Z1f Z2 x26))), (56, (.vec 4 (List.map Z2 (v4 ++ [x25.2])))), (57, (.map (Z19 Zm Z3 a2))), (59, (.fmap (Z19 Z1f Z2 a1))), (2000, (.box [(.map 59), (.map 57), (.bool a0)]))]⟩) ⟨rfl, rfl, rfl, rfl, trivial⟩ ⟨rfl, rfl, rfl, rfl, rfl, rfl, rfl, trivial⟩ (IH5 _ (x26, (v4 ++ [x25.2])) (Nat.lt_succ_self _) h)
end Go.AM.TopZ
