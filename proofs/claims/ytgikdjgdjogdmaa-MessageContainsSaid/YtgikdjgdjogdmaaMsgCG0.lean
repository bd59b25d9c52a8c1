/- What these functions compute, each with its walk: F53, F85, F104, F128, F102, F78, F51, F105, F130, F106, F107, F50, F133, F132, F131, F108, F52, F109, F86, F84, F87, F83, F72, F58, F74, F110, F111, F88, F73, F44, F55, F15, F57, F19. -/
import Derived.Test.YtgikdjgdjogdmaaMsgCT
namespace Go.AM.MsgC
open Go Go.AM Go.Proofs
set_option maxRecDepth 100000
set_option maxHeartbeats 2000000
def F53 (K : Nat) : Option ((List Zd)) :=
 some ([(⟨5, 2, 1, 0, 2, 3, [97, 112, 105], [], [103, 101, 116], 112, 130, false, [], []⟩ : Zd), (⟨5, 1, 0, 0, 1, 2, [119, 101, 98], [], [103, 101, 116], 10, 40, false, [], []⟩ : Zd)])
theorem F53_ok (K : Nat) (r : (List Zd)) (h : F53 K = some r) : ACall P 53 ⟨[], [], (.sl 14 (r.map Z4) false), [], []⟩ := by
 refine Z1p Try.func53 Try.results53 rfl Try.ntmps53 rfl rfl rfl ?_
 intro E Q hP hN hro hret
 obtain ⟨P', nt', w0, F0, p0, S0, β0, ro0⟩ := E
 simp only at hP hN
 subst hP hN
 dsimp only [argT]
 unfold F53 at h
 refine Zg <| Zc <| Z2 I (Zk (v := (.sl 14 [] false)) I I) I <| Ze <| Zf <| Zg <| Zc <| Z2 I (Z25 (vs := [(0, (.int .i64 5)), (1, (.int .i64 1)), (4, (.int .i64 1)), (5, (.int .i64 2)), (6, (.str [119, 101, 98])), (8, (.str [103, 101, 116])), (9, (.int .i64 10)), (10, (.int .i64 40))]) (cs := [(.int .i64 5), (.int .i64 1), (.int .i64 0), (.int .i64 0), (.int .i64 1), (.int .i64 2), (.str [119, 101, 98]), (.str []), (.str [103, 101, 116]), (.int .i64 10), (.int .i64 40), (.bool false), (.sl 4 [] false), (.sl 2 [] false)]) I st38 ⟨rfl, rfl, rfl, rfl, rfl, rfl, rfl, rfl, rfl, rfl, rfl, rfl, rfl, rfl, rfl, rfl, trivial⟩ I) I ?_
 refine Z2 I (Z1y (cs := [(.int .i64 0), (.int .i64 0), (.int .i64 0), (.int .i64 0), (.int .i64 0), (.int .i64 0), (.str []), (.str []), (.str []), (.int .i64 0), (.int .i64 0), (.bool false), (.sl 4 [] false), (.sl 2 [] false)]) I z38 I I I) I <| Z2 I (Z1k (cs := [(.int .i64 0), (.int .i64 0), (.int .i64 0), (.int .i64 0), (.int .i64 0), (.int .i64 0), (.str []), (.str []), (.str []), (.int .i64 0), (.int .i64 0), (.bool false), (.sl 4 [] false), (.sl 2 [] false)]) (vs := [(.int .i64 5), (.int .i64 1), (.int .i64 0), (.int .i64 0), (.int .i64 1), (.int .i64 2), (.str [119, 101, 98]), (.str []), (.str [103, 101, 116]), (.int .i64 10), (.int .i64 40), (.bool false), (.sl 4 [] false), (.sl 2 [] false)]) (ds := [(.int .i64 5), (.int .i64 1), (.int .i64 0), (.int .i64 0), (.int .i64 1), (.int .i64 2), (.str [119, 101, 98]), (.str []), (.str [103, 101, 116]), (.int .i64 10), (.int .i64 40), (.bool false), (.sl 4 [] false), (.sl 2 [] false)]) (v := (.ag [(.int .i64 5), (.int .i64 1), (.int .i64 0), (.int .i64 0), (.int .i64 1), (.int .i64 2), (.str [119, 101, 98]), (.str []), (.str [103, 101, 116]), (.int .i64 10), (.int .i64 40), (.bool false), (.sl 4 [] false), (.sl 2 [] false)])) Zcl I I I I I I I I) I <| Ze <| Zf <| Zg <| Zc <| Z2 I (Z25 (vs := [(0, (.int .i64 5)), (1, (.int .i64 2)), (2, (.int .i64 1)), (4, (.int .i64 2)), (5, (.int .i64 3)), (6, (.str [97, 112, 105])), (8, (.str [103, 101, 116])), (9, (.int .i64 112)), (10, (.int .i64 130))]) (cs := [(.int .i64 5), (.int .i64 2), (.int .i64 1), (.int .i64 0), (.int .i64 2), (.int .i64 3), (.str [97, 112, 105]), (.str []), (.str [103, 101, 116]), (.int .i64 112), (.int .i64 130), (.bool false), (.sl 4 [] false), (.sl 2 [] false)]) I st38 ⟨rfl, rfl, rfl, rfl, rfl, rfl, rfl, rfl, rfl, rfl, rfl, rfl, rfl, rfl, rfl, rfl, rfl, rfl, trivial⟩ I) I <| Z2 I (Z1y (cs := [(.int .i64 0), (.int .i64 0), (.int .i64 0), (.int .i64 0), (.int .i64 0), (.int .i64 0), (.str []), (.str []), (.str []), (.int .i64 0), (.int .i64 0), (.bool false), (.sl 4 [] false), (.sl 2 [] false)]) I z38 I I I) I ?_
 refine Z2 I (Z1k (cs := [(.int .i64 0), (.int .i64 0), (.int .i64 0), (.int .i64 0), (.int .i64 0), (.int .i64 0), (.str []), (.str []), (.str []), (.int .i64 0), (.int .i64 0), (.bool false), (.sl 4 [] false), (.sl 2 [] false)]) (vs := [(.int .i64 5), (.int .i64 2), (.int .i64 1), (.int .i64 0), (.int .i64 2), (.int .i64 3), (.str [97, 112, 105]), (.str []), (.str [103, 101, 116]), (.int .i64 112), (.int .i64 130), (.bool false), (.sl 4 [] false), (.sl 2 [] false)]) (ds := [(.int .i64 5), (.int .i64 2), (.int .i64 1), (.int .i64 0), (.int .i64 2), (.int .i64 3), (.str [97, 112, 105]), (.str []), (.str [103, 101, 116]), (.int .i64 112), (.int .i64 130), (.bool false), (.sl 4 [] false), (.sl 2 [] false)]) (v := (.ag [(.int .i64 5), (.int .i64 2), (.int .i64 1), (.int .i64 0), (.int .i64 2), (.int .i64 3), (.str [97, 112, 105]), (.str []), (.str [103, 101, 116]), (.int .i64 112), (.int .i64 130), (.bool false), (.sl 4 [] false), (.sl 2 [] false)])) Zcl I I I I I I I I) I <| Ze <| Zf <| Zg <| Zc <| Z2 I (Z19 (cs := [(.int .i64 5), (.int .i64 2), (.int .i64 1), (.int .i64 0), (.int .i64 2), (.int .i64 3), (.str [97, 112, 105]), (.str []), (.str [103, 101, 116]), (.int .i64 112), (.int .i64 130), (.bool false), (.sl 4 [] false), (.sl 2 [] false)]) (vs := [(.int .i64 5), (.int .i64 2), (.int .i64 1), (.int .i64 0), (.int .i64 2), (.int .i64 3), (.str [97, 112, 105]), (.str []), (.str [103, 101, 116]), (.int .i64 112), (.int .i64 130), (.bool false), (.sl 4 [] false), (.sl 2 [] false)]) I a38 I I I I) I <| Z2 I (Z19 (cs := [(.int .i64 5), (.int .i64 1), (.int .i64 0), (.int .i64 0), (.int .i64 1), (.int .i64 2), (.str [119, 101, 98]), (.str []), (.str [103, 101, 116]), (.int .i64 10), (.int .i64 40), (.bool false), (.sl 4 [] false), (.sl 2 [] false)]) (vs := [(.int .i64 5), (.int .i64 1), (.int .i64 0), (.int .i64 0), (.int .i64 1), (.int .i64 2), (.str [119, 101, 98]), (.str []), (.str [103, 101, 116]), (.int .i64 10), (.int .i64 40), (.bool false), (.sl 4 [] false), (.sl 2 [] false)]) I a38 I I I I) I <| Z2 I (Z1f (vs := [(.ag [(.int .i64 5), (.int .i64 2), (.int .i64 1), (.int .i64 0), (.int .i64 2), (.int .i64 3), (.str [97, 112, 105]), (.str []), (.str [103, 101, 116]), (.int .i64 112), (.int .i64 130), (.bool false), (.sl 4 [] false), (.sl 2 [] false)]), (.ag [(.int .i64 5), (.int .i64 1), (.int .i64 0), (.int .i64 0), (.int .i64 1), (.int .i64 2), (.str [119, 101, 98]), (.str []), (.str [103, 101, 116]), (.int .i64 10), (.int .i64 40), (.bool false), (.sl 4 [] false), (.sl 2 [] false)])]) (enc := Z4) (l := [(⟨5, 2, 1, 0, 2, 3, [97, 112, 105], [], [103, 101, 116], 112, 130, false, [], []⟩ : Zd), (⟨5, 1, 0, 0, 1, 2, [119, 101, 98], [], [103, 101, 116], 10, 40, false, [], []⟩ : Zd)]) I el33 I I ⟨rfl, rfl, trivial⟩ I Z2f I I I I) I ?_
 refine Z2 I (Zk (v := (.vs 7)) I I) I <| Ze <| Zf <| Z1c <| At.ghost (st' := ⟨[(0, (.sl 14 (([(⟨5, 2, 1, 0, 2, 3, [97, 112, 105], [], [103, 101, 116], 112, 130, false, [], []⟩ : Zd), (⟨5, 1, 0, 0, 1, 2, [119, 101, 98], [], [103, 101, 116], 10, 40, false, [], []⟩ : Zd)]).map Z4) false))], []⟩) (fun a w h => (Z1e ⟨[(0, (.sl 14 (([(⟨5, 2, 1, 0, 2, 3, [97, 112, 105], [], [103, 101, 116], 112, 130, false, [], []⟩ : Zd), (⟨5, 1, 0, 0, 1, 2, [119, 101, 98], [], [103, 101, 116], 10, 40, false, [], []⟩ : Zd)]).map Z4) false))], []⟩ (Z29 (m := 7) (sz := 14) (es := (List.map Z4 ([(⟨5, 2, 1, 0, 2, 3, [97, 112, 105], [], [103, 101, 116], 112, 130, false, [], []⟩ : Zd), (⟨5, 1, 0, 0, 1, 2, [119, 101, 98], [], [103, 101, 116], 10, 40, false, [], []⟩ : Zd)]))) a w (Z1e ⟨[(0, (.vs 7))], [(7, (.vec 14 (List.map Z4 ([(⟨5, 2, 1, 0, 2, 3, [97, 112, 105], [], [103, 101, 116], 112, 130, false, [], []⟩ : Zd), (⟨5, 1, 0, 0, 1, 2, [119, 101, 98], [], [103, 101, 116], 10, 40, false, [], []⟩ : Zd)]))))]⟩ h ⟨rfl, trivial⟩ ⟨rfl, trivial⟩)) ⟨rfl, trivial⟩ trivial)) ?_
 have h := Option.some.inj h
 subst h
 refine (hret _ ?_).1
 exact ⟨[(.sl 14 (([(⟨5, 2, 1, 0, 2, 3, [97, 112, 105], [], [103, 101, 116], 112, 130, false, [], []⟩ : Zd), (⟨5, 1, 0, 0, 1, 2, [119, 101, 98], [], [103, 101, 116], 10, 40, false, [], []⟩ : Zd)]).map Z4) false)], ⟨rfl, trivial⟩, rfl, trivial⟩
def F85 (K : Nat) (a0 : (List Zd)) : Option ((List Zd)) :=
 some a0
theorem F85_ok (K : Nat) (a0 : (List Zd)) (r : (List Zd)) (h : F85 K a0 = some r) : ACall P 85 ⟨[(.sl 14 (a0.map Z4) false)], [], (.clo 104 [(.ip [(.sl 14 (r.map Z4) false)])]), [], []⟩ := by
 refine Z1p Try.func85 Try.results85 rfl Try.ntmps85 rfl rfl rfl ?_
 intro E Q hP hN hro hret
 obtain ⟨P', nt', w0, F0, p0, S0, β0, ro0⟩ := E
 simp only at hP hN
 subst hP hN
 dsimp only [argT]
 unfold F85 at h
 refine Zg <| Zc <| Z2 I (Z2j (v := (.sl 14 (a0.map Z4) false)) (cs := [(.sl 14 (a0.map Z4) false)]) I I I I I) I <| Z2 I (Zk (v := .nilf) I I) I <| Ze <| Zf <| Zg <| Zc ?_
 refine Z2 I (Z9h (vs := [(.ptr 1 0)]) I ⟨rfl, trivial⟩) I <| Z2 I (Zk (v := (.clo 104 [(.ptr 1 0)])) I I) I <| Ze <| Zf <| Z1c <| At.ghost (st' := ⟨[(2, (.clo 104 [(.ip [(.sl 14 (a0.map Z4) false)])]))], []⟩) (fun a w h => (Z1e ⟨[(2, (.clo 104 [(.ip [(.sl 14 (a0.map Z4) false)])]))], []⟩ (Z38 (m := 1) (cs := [(.sl 14 (a0.map Z4) false)]) I a w (Z1e ⟨[(2, (.clo 104 [(.ptr 1 0)]))], [(1, (.box [(.sl 14 (a0.map Z4) false)]))]⟩ h ⟨rfl, trivial⟩ ⟨rfl, trivial⟩)) ⟨rfl, trivial⟩ trivial)) ?_
 have h := Option.some.inj h
 subst h
 refine (hret _ ?_).1
 exact ⟨[(.clo 104 [(.ip [(.sl 14 (a0.map Z4) false)])])], ⟨rfl, trivial⟩, rfl, trivial⟩
def Z8k (K : Nat) (v4 : (List Zd)) : Option ((List Zd)) :=
 some v4
def Z7g (K : Nat) (a1 : (List Zd)) (a899 : Zd → (List Zd) → Option ((List Zd))) (c6 : (List Zd) → Option ((List Zd))) : Nat → Int → (List Zd) → Option ((List Zd))
 | 0, _, _ => none
 | k3 + 1, v1, v2 =>
  if (decide (v1 < (a1.length : Int))) = true then
   if (0 : Int) ≤ v1 ∧ v1 < a1.length then
    (a899 (a1.getD v1.toNat Z1) v2).bind fun v9 =>
     (Z7g K a1 a899 c6 k3) (IntKind.i64.wrap (v1 + 1)) v9
   else none
  else
   c6 v2
def F104 (K : Nat) (a899 : Zd → (List Zd) → Option ((List Zd))) (a900 : (List Zd)) (a1 : (List Zd)) : Option ((List Zd)) :=
 Z7g K a1 a899 (Z8k K) K 0 a900
theorem F104_ok (K : Nat) (a899 : Zd → (List Zd) → Option ((List Zd))) (a900 : (List Zd)) (a1 : (List Zd)) (r : (List Zd)) (lr : Go.Loop) (h : F104 K a899 a900 a1 = some r) (hps : lr.params.size = 1) (hy : ∀ (x0 : Zd) (a900 : (List Zd)) (w : (List Zd)), a899 x0 a900 = some w → YCall P lr 1000 ⟨[(Z4 x0)], [(1000, (.loop lr [2] [(.ptr 1001 0)])), (0, (.vec 14 (List.map Z4 a900))), (1001, (.box [(.vs 0)]))], .bool true, [(1000, (.loop lr [2] [(.ptr 1001 0)])), (0, (.vec 14 (List.map Z4 w))), (1001, (.box [(.vs 0)]))], [0]⟩) : ACall P 104 ⟨[(.yld 1000), (.ip [(.sl 14 (a1.map Z4) false)])], [(1000, (.loop lr [2] [(.ptr 1001 0)])), (0, (.vec 14 (List.map Z4 a900))), (1001, (.box [(.vs 0)]))], .tup [], [(1000, (.loop lr [2] [(.ptr 1001 0)])), (0, (.vec 14 (List.map Z4 r))), (1001, (.box [(.vs 0)]))], [0]⟩ := by
 refine Z1p Try.func104 Try.results104 rfl Try.ntmps104 rfl rfl rfl ?_
 intro E Q hP hN hro hret
 obtain ⟨P', nt', w0, F0, p0, S0, β0, ro0⟩ := E
 simp only at hP hN
 subst hP hN
 dsimp only [argT]
 unfold F104 at h
 refine Zg <| Zc <| Z2 I (Z2d (cs := [(.sl 14 (a1.map Z4) false)]) (v := (.sl 14 (a1.map Z4) false)) I o33 I I) I <| Z2 I (Z24 (l := a1) (enc := Z4) I s33 I) I <| Z2 I (Zh (v := (.int .i64 0)) I I) I <| Ze <| Zf <| AWp.weaken (st' := ⟨[(0, (.yld 1000)), (5, (.sl 14 (a1.map Z4) false)), (6, (.int .i64 (a1.length : Int))), (7, (.int .i64 0))], [(0, (.vec 14 (List.map Z4 a900))), (1000, (.loop lr [2] [(.ptr 1001 0)])), (1001, (.box [(.vs 0)]))]⟩) ⟨rfl, rfl, rfl, rfl, trivial⟩ ⟨rfl, rfl, rfl, trivial⟩ ?_
 refine Z1l (V := Int × (List Zd)) (X := (List Zd)) (lp := fun k v => Z7g K a1 a899 (Z8k K) k v.1 v.2 = some r) (sh := fun v => ⟨[(0, (.yld 1000)), (5, (.sl 14 (a1.map Z4) false)), (6, (.int .i64 (a1.length : Int))), (7, (.int .i64 v.1))], [(0, (.vec 14 (List.map Z4 v.2))), (1000, (.loop lr [2] [(.ptr 1001 0)])), (1001, (.box [(.vs 0)]))]⟩) (x := fun v => Z8k K v = some r) (shx := fun v => ⟨[], [(0, (.vec 14 (List.map Z4 v))), (1000, (.loop lr [2] [(.ptr 1001 0)])), (1001, (.box [(.vs 0)]))]⟩) (k := K) (v := (0, a900)) h ?_ ?_
 ·intro v h
  revert h
  revert v
  intro v4 h
  try dsimp only at h ⊢
  unfold Z8k at h
  have h := Option.some.inj h
  subst h
  refine (hret _ ?_).2
  exact ⟨[], trivial, rfl, ⟨rfl, rfl, rfl, trivial⟩⟩
 ·intro N k3 v h IH3 J3
  obtain ⟨v1, v2⟩ := v
  try dsimp only at h IH3 J3 ⊢
  cases k3 with
  | zero => cases h
  | succ k3 =>
   rw [Z7g] at h
   refine Zg <| Zc <| Z2 I (Z1q (k := .i64) (a := v1) (b := (a1.length : Int)) (c := (decide (v1 < (a1.length : Int)))) I I I I) I <| Ze <| Zf <| Zg ?_
   have hif := Z1u h
   refine Z14 I (fun hc => ?_) (fun hc => ?_)
   ·have h := hif.1 hc
    refine Z16 <| Zf <| Zg <| AWp.block <| Zg <| Zc ?_
    have ⟨hg8, h⟩ := Zw h
    refine Z2 I (Z1r (k := .i64) (l := a1) (enc := Z4) (z := Z1) (n := v1) (cs := (Z4 (a1.getD v1.toNat Z1)).cells) (full := false) I s33 I I hg8 I) I <| Z2 I (Z1w (cs := (Z4 (a1.getD v1.toNat Z1)).cells) (vs := (Z4 (a1.getD v1.toNat Z1)).cells) I a38 I I I) I <| Z2 I (Z1y (cs := [(.int .i64 0), (.int .i64 0), (.int .i64 0), (.int .i64 0), (.int .i64 0), (.int .i64 0), (.str []), (.str []), (.str []), (.int .i64 0), (.int .i64 0), (.bool false), (.sl 4 [] false), (.sl 2 [] false)]) I z38 I I I) I <| Z2 I (Z1k (cs := [(.int .i64 0), (.int .i64 0), (.int .i64 0), (.int .i64 0), (.int .i64 0), (.int .i64 0), (.str []), (.str []), (.str []), (.int .i64 0), (.int .i64 0), (.bool false), (.sl 4 [] false), (.sl 2 [] false)]) (vs := (Z4 (a1.getD v1.toNat Z1)).cells) (ds := (Z4 (a1.getD v1.toNat Z1)).cells) (v := (Z4 (a1.getD v1.toNat Z1))) Zcl I I I I I I I I) I <| Ze <| Zf <| Zg <| Zc ?_
    refine Z2 I (Zh (v := (.yld 1000)) I I) I <| Z2 I (Z19 (cs := (Z4 (a1.getD v1.toNat Z1)).cells) (vs := (Z4 (a1.getD v1.toNat Z1)).cells) I a38 I I I I) I ?_
    have ⟨v9, hv9, h⟩ := Z17 h
    refine Z2 I (st_yield (d := some 13) (ks := [2]) (vs := [(.ptr 1001 0)]) (c := ⟨[(Z4 (a1.getD v1.toNat Z1))], [(1000, (.loop lr [2] [(.ptr 1001 0)])), (0, (.vec 14 (List.map Z4 v2))), (1001, (.box [(.vs 0)]))], .bool true, [(1000, (.loop lr [2] [(.ptr 1001 0)])), (0, (.vec 14 (List.map Z4 v9))), (1001, (.box [(.vs 0)]))], [0]⟩) (ar := [(Z4 (a1.getD v1.toNat Z1))]) (news := []) (forg := [0]) (hy (a1.getD v1.toNat Z1) v2 _ hv9) I hps I I ⟨rfl, trivial⟩ I ⟨rfl, rfl, rfl, trivial⟩ I) I <| Z2 I (Z7z (b := true) I I) I <| Ze <| Zf ?_
    refine Z14 (b := false) I (fun hc => ?_) (fun hc => ?_)
    ·cases hc
    refine Z16 <| At.end <| Zf <| Zc <| Z2 I (Z1h (k := .i64) (a := v1) (b := 1) (c := (IntKind.i64.wrap (v1 + 1))) I I I I) I <| Z2 I (Zh (v := (.int .i64 (IntKind.i64.wrap (v1 + 1)))) I I) I <| Ze ?_
    exact Zy (st' := ⟨[(0, (.yld 1000)), (5, (.sl 14 (a1.map Z4) false)), (6, (.int .i64 (a1.length : Int))), (7, (.int .i64 (IntKind.i64.wrap (v1 + 1))))], [(0, (.vec 14 (List.map Z4 v9))), (1000, (.loop lr [2] [(.ptr 1001 0)])), (1001, (.box [(.vs 0)]))]⟩) ⟨rfl, rfl, rfl, rfl, trivial⟩ ⟨rfl, rfl, rfl, trivial⟩ (IH3 _ ((IntKind.i64.wrap (v1 + 1)), v9) (Nat.lt_succ_self _) h)
   ·have h := hif.2 hc
    refine AWp.exit <| At.thru ?_
    exact Zy (st' := ⟨[], [(0, (.vec 14 (List.map Z4 v2))), (1000, (.loop lr [2] [(.ptr 1001 0)])), (1001, (.box [(.vs 0)]))]⟩) trivial ⟨rfl, rfl, rfl, trivial⟩ (J3 v2 h)
def Z8y (K : Nat) (x2 : Zd) (v1 : (List Zd)) : Option ((List Zd)) :=
 if v1.length + [x2].length ≤ 1073741824 then
  some (v1 ++ [x2])
 else none
def F128 (K : Nat) (a100 : (List Zd)) : Option ((List Zd)) :=
 (F104 K (Z8y K) [] a100).bind fun v5 =>
  some v5
theorem F128_ok (K : Nat) (a100 : (List Zd)) (r : (List Zd)) (h : F128 K a100 = some r) : ACall P 128 ⟨[(.sl 14 [] true), (.clo 104 [(.ip [(.sl 14 (a100.map Z4) false)])])], [], .vs 4, [(4, .vec 14 (List.map Z4 r))], [4]⟩ := by
 refine Z1p Try.func128 Try.results128 rfl Try.ntmps128 rfl rfl rfl ?_
 intro E Q hP hN hro hret
 obtain ⟨P', nt', w0, F0, p0, S0, β0, ro0⟩ := E
 simp only at hP hN
 subst hP hN
 dsimp only [argT]
 unfold F128 at h
 refine Zg <| Zc <| Z2 I (Z2j (v := (.sl 14 [] true)) (cs := [(.sl 14 [] true)]) I I I I I) I <| Z2 I (Zk (v := (.sl 14 [] false)) I I) I <| Ze <| Zf <| Zg <| Zg ?_
 refine Zc <| Z2 I (Zh (v := (.clo 104 [(.ip [(.sl 14 (a100.map Z4) false)])])) I I) I <| Ze <| Zf <| AWp.block <| AWp.ghost (st' := ⟨[(2, (.ptr 2 0)), (6, (.clo 104 [(.ip [(.sl 14 (a100.map Z4) false)])]))], [(2, (.box [(.vs 12)])), (12, (.vec 14 (List.map Z4 ([] : List Zd))))]⟩) (fun a w h => (Z1e ⟨[(2, (.ptr 2 0)), (6, (.clo 104 [(.ip [(.sl 14 (a100.map Z4) false)])]))], [(2, (.box [(.vs 12)])), (12, (.vec 14 (List.map Z4 ([] : List Zd))))]⟩ (ghost_ownB (n := 2) (m := 12) (sz := 14) (j := 0) I I I a w (Z1e ⟨[(2, (.ptr 2 0)), (6, (.clo 104 [(.ip [(.sl 14 (a100.map Z4) false)])]))], [(2, (.box [(.sl 14 [] true)]))]⟩ h ⟨rfl, rfl, trivial⟩ ⟨rfl, trivial⟩)) ⟨rfl, rfl, trivial⟩ ⟨rfl, rfl, trivial⟩)) ?_
 have ⟨v5, hv5, h⟩ := Z17 h
 refine AWp.weaken (st' := ⟨[(2, (.ptr 2 0)), (6, (.clo 104 [(.ip [(.sl 14 (a100.map Z4) false)])]))], [(2, (.box [(.vs 12)])), (12, (.vec 14 (List.map Z4 [])))]⟩) ⟨rfl, rfl, trivial⟩ ⟨rfl, rfl, trivial⟩ ?_
 refine AWp.rangeFunc (n := 1) (f := 104) (caps := [(.ip [(.sl 14 (a100.map Z4) false)])]) (ks := [2]) (vs := [(.ptr 2 0)]) (ins := [(12, (.vec 14 (List.map Z4 []))), (2, (.box [(.vs 12)]))]) (outs := [(12, (.vec 14 (List.map Z4 v5))), (2, (.box [(.vs 12)]))]) (res := .tup []) (mv := [12]) (forg := [12]) (jump := none) hro Try.call104 I I I I ⟨rfl, trivial⟩ ⟨rfl, rfl, trivial⟩ I I I I (fun lr hst hpe hpr has hbd hsz => ?_) (fun _ => ?_) (fun c hc => by cases hc)
 ·have hend := endRec_self hst hpe
  rw [hend]
  have hps : lr.params.size = 1 ∧ True := ⟨by rw [hpr]; rfl, trivial⟩
  have hy : ∀ (x2 : Zd) (v1 : (List Zd)) (w : (List Zd)), Z8y K x2 v1 = some w → YCall P lr 1000 ⟨[(Z4 x2)], [(1000, .loop lr [2] [(.ptr 1001 0)]), (0, (.vec 14 (List.map Z4 v1))), (1001, (.box [(.vs 0)]))], .bool true, [(1000, .loop lr [2] [(.ptr 1001 0)]), (0, (.vec 14 (List.map Z4 w))), (1001, (.box [(.vs 0)]))], [0]⟩ := by
   intro x2 v1 r h
   unfold Z8y at h
   refine ycall_of (ks := [2]) (vs := [(.ptr 1001 0)]) (ps := [7]) rfl hst hsz hpr rfl (by decide) rfl rfl rfl ?_
   intro E Qa Qb hP hN hmid hfin
   obtain ⟨P', nt', w0, F0, p0, S0, β0, ro0⟩ := E
   simp only at hP hN
   subst hP hN
   refine AWp.code has ?_
   dsimp only [List.zip, List.zipWith, List.cons_append, List.nil_append]
   refine Zc <| Z2 I (Z1y (cs := [(.int .i64 0), (.int .i64 0), (.int .i64 0), (.int .i64 0), (.int .i64 0), (.int .i64 0), (.str []), (.str []), (.str []), (.int .i64 0), (.int .i64 0), (.bool false), (.sl 4 [] false), (.sl 2 [] false)]) I z38 I I I) I <| Z2 I (Z1k (cs := [(.int .i64 0), (.int .i64 0), (.int .i64 0), (.int .i64 0), (.int .i64 0), (.int .i64 0), (.str []), (.str []), (.str []), (.int .i64 0), (.int .i64 0), (.bool false), (.sl 4 [] false), (.sl 2 [] false)]) (vs := (Z4 x2).cells) (ds := (Z4 x2).cells) (v := (Z4 x2)) Zcl I I I I I I I I) I <| Ze ?_
   refine hmid _ _ _ rfl ?_
   refine AWp.code hbd <| AWp.block <| Zc <| Z2 I (Zv (cs := [(.vs 0)]) (v := (.vs 0)) I o33 I I I) I <| Z2 I (Z19 (cs := (Z4 x2).cells) (vs := (Z4 x2).cells) I a38 I I I I) I <| Z2 I (Z1f (vs := [(Z4 x2)]) (enc := Z4) (l := [x2]) I el33 I I ⟨rfl, trivial⟩ I Z2f I I I I) I ?_
   have ⟨hg3, h⟩ := Zw h
   refine Z2 I (Z2c (m := 0) (enc := Z4) (l := v1) (l' := [x2]) (src := (.vs 10)) (rd := [(10, (.vec 14 (List.map Z4 [x2])))]) I I el33 I u33 I I I I (oneRead I) Z2f hg3) I <| Z2 I (Z1k (cs := [.undef]) (vs := [(.vs 0)]) (ds := [(.vs 0)]) (v := (.vs 0)) sz33 I I I I I I I I) I <| Ze <| At.end ?_
   have h := Option.some.inj h
   subst h
   refine hfin _ _ _ none .normal rfl rfl rfl ?_
   rw [hend]
   exact ⟨rfl, rfl, rfl, trivial⟩
  exact (((F104_ok K (Z8y K) [] a100 v5 lr hv5 hps.1 hy).sw 1000 1).sw 0 12).sw 1001 2
 ·refine Zy (st' := ⟨[(2, (.ptr 2 0)), (6, (.clo 104 [(.ip [(.sl 14 (a100.map Z4) false)])]))], [(2, (.box [(.vs 12)])), (12, (.vec 14 (List.map Z4 v5)))]⟩) ⟨rfl, rfl, trivial⟩ ⟨rfl, rfl, trivial⟩ <| At.end <| Zf <| Zg <| Zc <| Z2 I (Zv (cs := [(.vs 12)]) (v := (.vs 12)) I o33 I I I) I <| Z2 I (Zk (v := (.vs 12)) I I) I <| Ze ?_
  refine Zf <| Z1c <| At.ghost (st' := ⟨[(4, (.vs 4))], [(4, (.vec 14 (List.map Z4 v5)))]⟩) (fun a w h => (Z1e ⟨[(4, (.vs 4))], [(4, (.vec 14 (List.map Z4 v5)))]⟩ (Z35 (a := 12) (b := 4) I I a w (Z1e ⟨[(4, (.vs 12))], [(12, (.vec 14 (List.map Z4 v5)))]⟩ h ⟨rfl, trivial⟩ ⟨rfl, trivial⟩)) ⟨rfl, trivial⟩ ⟨rfl, trivial⟩)) ?_
  have h := Option.some.inj h
  subst h
  refine (hret _ ?_).1
  exact ⟨[(.vs 4)], ⟨rfl, trivial⟩, rfl, ⟨rfl, trivial⟩⟩
def F102 (K : Nat) (a000 : (List Zd)) : Option ((List Zd)) :=
 (F128 K a000).bind fun v2 =>
  some v2
theorem F102_ok (K : Nat) (a000 : (List Zd)) (r : (List Zd)) (h : F102 K a000 = some r) : ACall P 102 ⟨[(.clo 104 [(.ip [(.sl 14 (a000.map Z4) false)])])], [], .vs 2, [(2, .vec 14 (List.map Z4 r))], [2]⟩ := by
 refine Z1p Try.func102 Try.results102 rfl Try.ntmps102 rfl rfl rfl ?_
 intro E Q hP hN hro hret
 obtain ⟨P', nt', w0, F0, p0, S0, β0, ro0⟩ := E
 simp only at hP hN
 subst hP hN
 dsimp only [argT]
 unfold F102 at h
 refine Zg <| Zc <| Z2 I (Zk (v := (.sl 14 [] false)) I I) I <| Ze <| Zf <| Zg <| Zc <| Z2 I (Zh (v := (.clo 104 [(.ip [(.sl 14 (a000.map Z4) false)])])) I I) I ?_
 have ⟨v2, hv2, h⟩ := Z17 h
 refine Z2 I (Z65 (sz := 14) (es := (List.map Z4 v2)) (ar := [(.sl 14 [] true), (.clo 104 [(.ip [(.sl 14 (a000.map Z4) false)])])]) (caps := []) Try.call128 ((F128_ok K a000 v2 hv2).sw 4 4) I I ⟨rfl, rfl, trivial⟩ I) I <| Z2 I (Zk (v := (.vs 4)) I I) I <| Ze <| Zf <| Z1c <| At.ghost (st' := ⟨[(2, (.vs 2))], [(2, (.vec 14 (List.map Z4 v2)))]⟩) (fun a w h => (Z1e ⟨[(2, (.vs 2))], [(2, (.vec 14 (List.map Z4 v2)))]⟩ (Z35 (a := 4) (b := 2) I I a w (Z1e ⟨[(2, (.vs 4))], [(4, (.vec 14 (List.map Z4 v2)))]⟩ h ⟨rfl, trivial⟩ ⟨rfl, trivial⟩)) ⟨rfl, trivial⟩ ⟨rfl, trivial⟩)) ?_
 have h := Option.some.inj h
 subst h
 refine (hret _ ?_).1
 exact ⟨[(.vs 2)], ⟨rfl, trivial⟩, rfl, ⟨rfl, trivial⟩⟩
def F78 (K : Nat) (a0 : Int) : Option (Bool) :=
 some (a0 != a0)
theorem F78_ok (K : Nat) (a0 : Int) (r : Bool) (h : F78 K a0 = some r) : ACall P 78 ⟨[(.int .i64 a0)], [], (.bool r), [], []⟩ := by
 refine Z1p Try.func78 Try.results78 rfl Try.ntmps78 rfl rfl rfl ?_
 intro E Q hP hN hro hret
 obtain ⟨P', nt', w0, F0, p0, S0, β0, ro0⟩ := E
 simp only at hP hN
 subst hP hN
 dsimp only [argT]
 unfold F78 at h
 refine Zg <| Zc <| Z2 I (Zk (v := (.bool false)) I I) I <| Ze <| Zf <| Zg <| Zc <| Z2 I (Zh (v := (.int .i64 a0)) I I) I ?_
 refine Z2 I (Zh (v := (.int .i64 a0)) I I) I <| Z2 I (Z1q (k := .i64) (a := a0) (b := a0) (c := (a0 != a0)) I I I I) I <| Z2 I (Zk (v := (.bool (a0 != a0))) I I) I <| Ze <| Zf <| Z1c ?_
 have h := Option.some.inj h
 subst h
 refine (hret _ ?_).1
 exact ⟨[(.bool (a0 != a0))], ⟨rfl, trivial⟩, rfl, trivial⟩
def F51 (K : Nat) (a0 : Int) (a1 : Int) : Option (Int) :=
 (F78 K a0).bind fun v2 =>
  (F78 K a1).bind fun v4 =>
   if v2 = true then
    if v4 = true then
     some 0
    else
     some (Int.negSucc 0)
   else
    if v4 = true then
     some 1
    else
     if (decide (a0 < a1)) = true then
      some (Int.negSucc 0)
     else
      if (decide (a0 > a1)) = true then
       some 1
      else
       some 0
theorem Z4j (K : Nat) (a0 : Int) (a1 : Int) (r : Int) (h : F51 K a0 a1 = some r) : ACall P 51 ⟨[(.int .i64 a0), (.int .i64 a1)], [], (.int .i64 r), [], []⟩ := by
 refine Z1p Try.func51 Try.results51 rfl Try.ntmps51 rfl rfl rfl ?_
 intro E Q hP hN hro hret
 obtain ⟨P', nt', w0, F0, p0, S0, β0, ro0⟩ := E
 simp only at hP hN
 subst hP hN
 dsimp only [argT]
 unfold F51 at h
 refine Zg <| Zc <| Z2 I (Zk (v := (.int .i64 0)) I I) I <| Ze <| Zf <| Zg <| Zc <| Z2 I (Zh (v := (.int .i64 a0)) I I) I ?_
 have ⟨v2, hv2, h⟩ := Z17 h
 refine Z2 I (Z15 (ar := [(.int .i64 a0)]) (caps := []) Try.call78 (F78_ok K a0 v2 hv2) I I ⟨rfl, trivial⟩ I) I <| Z2 I (Zk (v := (.bool v2)) I I) I <| Ze <| Zf <| Zg <| Zc <| Z2 I (Zh (v := (.int .i64 a1)) I I) I ?_
 have ⟨v4, hv4, h⟩ := Z17 h
 refine Z2 I (Z15 (ar := [(.int .i64 a1)]) (caps := []) Try.call78 (F78_ok K a1 v4 hv4) I I ⟨rfl, trivial⟩ I) I <| Z2 I (Zk (v := (.bool v4)) I I) I <| Ze <| Zf <| Zg <| Zg <| Zc <| Z2 I (Zh (v := (.bool v2)) I I) I ?_
 refine Ze <| Zf ?_
 have hif := Z1u h
 refine Z14 I (fun hc => ?_) (fun hc => ?_)
 ·have h := hif.1 hc
  refine Zg <| Zg <| Zc <| Z2 I (Zh (v := (.bool v4)) I I) I <| Ze <| Zf ?_
  have hif := Z1u h
  refine Z14 I (fun hc => ?_) (fun hc => ?_)
  ·have h := hif.1 hc
   refine Zg <| Zc <| Z2 I (Zk (v := (.int .i64 0)) I I) I <| Ze <| Zf <| Z1c <| Z1i <| Z1i ?_
   have h := Option.some.inj h
   subst h
   refine (hret _ ?_).1
   exact ⟨[(.int .i64 0)], ⟨rfl, trivial⟩, rfl, trivial⟩
  ·have h := hif.2 hc
   refine Z16 <| Zf <| Zg <| Zc <| Z2 I (Zk (v := (.int .i64 (Int.negSucc 0))) I I) I <| Ze <| Zf <| Z1c ?_
   refine Z1i ?_
   have h := Option.some.inj h
   subst h
   refine (hret _ ?_).1
   exact ⟨[(.int .i64 (Int.negSucc 0))], ⟨rfl, trivial⟩, rfl, trivial⟩
 ·have h := hif.2 hc
  refine Z16 <| Zf <| Zg <| Zg <| Zc <| Z2 I (Zh (v := (.bool v4)) I I) I <| Ze <| Zf ?_
  have hif := Z1u h
  refine Z14 I (fun hc => ?_) (fun hc => ?_)
  ·have h := hif.1 hc
   refine Zg <| Zc <| Z2 I (Zk (v := (.int .i64 1)) I I) I <| Ze <| Zf <| Z1c <| Z1i ?_
   have h := Option.some.inj h
   subst h
   refine (hret _ ?_).1
   exact ⟨[(.int .i64 1)], ⟨rfl, trivial⟩, rfl, trivial⟩
  ·have h := hif.2 hc
   refine Z16 <| Zf <| Zg <| Zg <| Zc <| Z2 I (Zh (v := (.int .i64 a0)) I I) I <| Z2 I (Zh (v := (.int .i64 a1)) I I) I <| Z2 I (Z1q (k := .i64) (a := a0) (b := a1) (c := (decide (a0 < a1))) I I I I) I ?_
   refine Ze <| Zf ?_
   have hif := Z1u h
   refine Z14 I (fun hc => ?_) (fun hc => ?_)
   ·have h := hif.1 hc
    refine Zg <| Zc <| Z2 I (Zk (v := (.int .i64 (Int.negSucc 0))) I I) I <| Ze <| Zf <| Z1c <| Z1i ?_
    have h := Option.some.inj h
    subst h
    refine (hret _ ?_).1
    exact ⟨[(.int .i64 (Int.negSucc 0))], ⟨rfl, trivial⟩, rfl, trivial⟩
   ·have h := hif.2 hc
    refine Z16 <| Zf <| Zg <| Zg <| Zc <| Z2 I (Zh (v := (.int .i64 a0)) I I) I <| Z2 I (Zh (v := (.int .i64 a1)) I I) I <| Z2 I (Z1q (k := .i64) (a := a0) (b := a1) (c := (decide (a0 > a1))) I I I I) I ?_
    refine Ze <| Zf ?_
    have hif := Z1u h
    refine Z14 I (fun hc => ?_) (fun hc => ?_)
    ·have h := hif.1 hc
     refine Zg <| Zc <| Z2 I (Zk (v := (.int .i64 1)) I I) I <| Ze <| Zf <| Z1c <| Z1i ?_
     have h := Option.some.inj h
     subst h
     refine (hret _ ?_).1
     exact ⟨[(.int .i64 1)], ⟨rfl, trivial⟩, rfl, trivial⟩
    ·have h := hif.2 hc
     refine Z16 <| Zf <| Zg <| Zc <| Z2 I (Zk (v := (.int .i64 0)) I I) I <| Ze <| Zf <| Z1c ?_
     have h := Option.some.inj h
     subst h
     refine (hret _ ?_).1
     exact ⟨[(.int .i64 0)], ⟨rfl, trivial⟩, rfl, trivial⟩
def Z8b (K : Nat) (a0 : (List Int)) (a1 : (List Int)) : Option (Int) :=
 if (decide ((a0.length : Int) < (a1.length : Int))) = true then
  some (Int.negSucc 0)
 else
  some 0
def Z5e (K : Nat) (a0 : (List Int)) (a1 : (List Int)) (c4 : Option (Int)) : Nat → Int → Option (Int)
 | 0, _ => none
 | k2 + 1, v1 =>
  if (decide (v1 < (a0.length : Int))) = true then
   if (0 : Int) ≤ v1 ∧ v1 < a0.length then
    if (decide (v1 ≥ (a1.length : Int))) = true then
     some 1
    else
     if (0 : Int) ≤ v1 ∧ v1 < a1.length then
      (F51 K (a0.getD v1.toNat 0) (a1.getD v1.toNat 0)).bind fun v9 =>
       if (v9 != 0) = true then
        some v9
       else
        (Z5e K a0 a1 c4 k2) (IntKind.i64.wrap (v1 + 1))
     else none
   else none
  else
   c4
def F105 (K : Nat) (a0 : (List Int)) (a1 : (List Int)) : Option (Int) :=
 Z5e K a0 a1 (Z8b K a0 a1) K 0
theorem F105_ok (K : Nat) (a0 : (List Int)) (a1 : (List Int)) (r : Int) (h : F105 K a0 a1 = some r) : ACall P 105 ⟨[(.sl 1 (a0.map Z1d) false), (.sl 1 (a1.map Z1d) false)], [], (.int .i64 r), [], []⟩ := by
 refine Z1p Try.func105 Try.results105 rfl Try.ntmps105 rfl rfl rfl ?_
 intro E Q hP hN hro hret
 obtain ⟨P', nt', w0, F0, p0, S0, β0, ro0⟩ := E
 simp only at hP hN
 subst hP hN
 dsimp only [argT]
 unfold F105 at h
 refine Zg <| Zc <| Z2 I (Zk (v := (.int .i64 0)) I I) I <| Ze <| Zf <| Zg <| Zg <| Zc ?_
 refine Z2 I (Zh (v := (.sl 1 (a0.map Z1d) false)) I I) I <| Z2 I (Z24 (l := a0) (enc := Z1d) I s87 I) I <| Z2 I (Zh (v := (.int .i64 0)) I I) I <| Ze <| Zf <| AWp.weaken (st' := ⟨[(0, (.sl 1 (a0.map Z1d) false)), (1, (.sl 1 (a1.map Z1d) false)), (9, (.sl 1 (a0.map Z1d) false)), (10, (.int .i64 (a0.length : Int))), (11, (.int .i64 0))], []⟩) ⟨rfl, rfl, rfl, rfl, rfl, trivial⟩ trivial ?_
 refine Z1l (V := Int) (X := Unit) (lp := fun k v => Z5e K a0 a1 (Z8b K a0 a1) k v = some r) (sh := fun v => ⟨[(0, (.sl 1 (a0.map Z1d) false)), (1, (.sl 1 (a1.map Z1d) false)), (9, (.sl 1 (a0.map Z1d) false)), (10, (.int .i64 (a0.length : Int))), (11, (.int .i64 v))], []⟩) (x := fun v => Z8b K a0 a1 = some r) (shx := fun v => ⟨[(0, (.sl 1 (a0.map Z1d) false)), (1, (.sl 1 (a1.map Z1d) false))], []⟩) (k := K) (v := 0) h ?_ ?_
 ·intro v h
  try dsimp only at h ⊢
  unfold Z8b at h
  refine Zf <| Zg <| Zg <| Zc <| Z2 I (Zh (v := (.sl 1 (a0.map Z1d) false)) I I) I <| Z2 I (Z24 (l := a0) (enc := Z1d) I s87 I) I <| Z2 I (Zh (v := (.sl 1 (a1.map Z1d) false)) I I) I <| Z2 I (Z24 (l := a1) (enc := Z1d) I s87 I) I ?_
  refine Z2 I (Z1q (k := .i64) (a := (a0.length : Int)) (b := (a1.length : Int)) (c := (decide ((a0.length : Int) < (a1.length : Int)))) I I I I) I <| Ze <| Zf ?_
  have hif := Z1u h
  refine Z14 I (fun hc => ?_) (fun hc => ?_)
  ·have h := hif.1 hc
   refine Zg <| Zc <| Z2 I (Zk (v := (.int .i64 (Int.negSucc 0))) I I) I <| Ze <| Zf <| Z1c <| Z1i ?_
   have h := Option.some.inj h
   subst h
   refine (hret _ ?_).1
   exact ⟨[(.int .i64 (Int.negSucc 0))], ⟨rfl, trivial⟩, rfl, trivial⟩
  ·have h := hif.2 hc
   refine Z16 <| Zf <| Zg <| Zc <| Z2 I (Zk (v := (.int .i64 0)) I I) I <| Ze <| Zf <| Z1c ?_
   have h := Option.some.inj h
   subst h
   refine (hret _ ?_).1
   exact ⟨[(.int .i64 0)], ⟨rfl, trivial⟩, rfl, trivial⟩
 ·intro N k2 v h IH2 J2
  revert h
  revert v
  intro v1 h
  try dsimp only at h IH2 J2 ⊢
  cases k2 with
  | zero => cases h
  | succ k2 =>
   rw [Z5e] at h
   refine Zg <| Zc <| Z2 I (Z1q (k := .i64) (a := v1) (b := (a0.length : Int)) (c := (decide (v1 < (a0.length : Int)))) I I I I) I <| Ze <| Zf <| Zg ?_
   have hif := Z1u h
   refine Z14 I (fun hc => ?_) (fun hc => ?_)
   ·have h := hif.1 hc
    refine Z16 <| Zf <| Zg <| AWp.block <| Zg <| Zc <| Z2 I (Zh (v := (.int .i64 v1)) I I) I ?_
    have ⟨hg6, h⟩ := Zw h
    refine Z2 I (Z1r (k := .i64) (l := a0) (enc := Z1d) (z := 0) (n := v1) (cs := [(.int .i64 (a0.getD v1.toNat 0))]) (full := false) I s87 I I hg6 I) I <| Z2 I (Z2d (cs := [(.int .i64 (a0.getD v1.toNat 0))]) (v := (.int .i64 (a0.getD v1.toNat 0))) I o3 I I) I <| Z2 I (Zk (v := (.int .i64 v1)) I I) I <| Z2 I (Zk (v := (.int .i64 (a0.getD v1.toNat 0))) I I) I <| Ze <| Zf <| Zg <| Zg ?_
    refine Zc <| Z2 I (Zh (v := (.int .i64 v1)) I I) I <| Z2 I (Zh (v := (.sl 1 (a1.map Z1d) false)) I I) I <| Z2 I (Z24 (l := a1) (enc := Z1d) I s87 I) I <| Z2 I (Z1q (k := .i64) (a := v1) (b := (a1.length : Int)) (c := (decide (v1 ≥ (a1.length : Int)))) I I I I) I <| Ze <| Zf ?_
    have hif := Z1u h
    refine Z14 I (fun hc => ?_) (fun hc => ?_)
    ·have h := hif.1 hc
     refine Zg <| Zc <| Z2 I (Zk (v := (.int .i64 1)) I I) I <| Ze <| Zf <| Z1c <| Z1i <| At.overR ?_
     refine Z1i ?_
     refine Z1i (At.overR ?_)
     refine Z1i ?_
     have h := Option.some.inj h
     subst h
     refine (hret _ ?_).1
     exact ⟨[(.int .i64 1)], ⟨rfl, trivial⟩, rfl, trivial⟩
    ·have h := hif.2 hc
     refine Z16 <| Zf <| Zg <| Zc <| Z2 I (Zh (v := (.sl 1 (a1.map Z1d) false)) I I) I <| Z2 I (Zh (v := (.int .i64 v1)) I I) I ?_
     have ⟨hg7, h⟩ := Zw h
     refine Z2 I (Z1r (k := .i64) (l := a1) (enc := Z1d) (z := 0) (n := v1) (cs := [(.int .i64 (a1.getD v1.toNat 0))]) (full := false) I s87 I I hg7 I) I <| Z2 I (Z2d (cs := [(.int .i64 (a1.getD v1.toNat 0))]) (v := (.int .i64 (a1.getD v1.toNat 0))) I o3 I I) I <| Z2 I (Zk (v := (.int .i64 (a1.getD v1.toNat 0))) I I) I <| Ze <| Zf <| Zg <| Zc <| Z2 I (Zh (v := (.int .i64 (a0.getD v1.toNat 0))) I I) I ?_
     refine Z2 I (Zh (v := (.int .i64 (a1.getD v1.toNat 0))) I I) I ?_
     have ⟨v9, hv9, h⟩ := Z17 h
     refine Z2 I (Z15 (ar := [(.int .i64 (a0.getD v1.toNat 0)), (.int .i64 (a1.getD v1.toNat 0))]) (caps := []) Try.call51 (Z4j K (a0.getD v1.toNat 0) (a1.getD v1.toNat 0) v9 hv9) I I ⟨rfl, rfl, trivial⟩ I) I <| Z2 I (Zk (v := (.int .i64 v9)) I I) I <| Ze <| Zf <| Zg <| Zc <| Z2 I (Zh (v := (.int .i64 v9)) I I) I <| Z2 I (Z1q (k := .i64) (a := v9) (b := 0) (c := (v9 != 0)) I I I I) I ?_
     refine Ze <| Zf ?_
     have hif := Z1u h
     refine Z14 I (fun hc => ?_) (fun hc => ?_)
     ·have h := hif.1 hc
      refine Zg <| Zc <| Z2 I (Zh (v := (.int .i64 v9)) I I) I <| Z2 I (Zk (v := (.int .i64 v9)) I I) I <| Ze <| Zf <| Z1c <| At.overR ?_
      refine Z1i ?_
      refine Z1i (At.overR ?_)
      refine Z1i ?_
      have h := Option.some.inj h
      subst h
      refine (hret _ ?_).1
      exact ⟨[(.int .i64 v9)], ⟨rfl, trivial⟩, rfl, trivial⟩
     ·have h := hif.2 hc
      refine Z16 <| At.end <| Zf <| Zc <| Z2 I (Z1h (k := .i64) (a := v1) (b := 1) (c := (IntKind.i64.wrap (v1 + 1))) I I I I) I <| Z2 I (Zh (v := (.int .i64 (IntKind.i64.wrap (v1 + 1)))) I I) I <| Ze ?_
      exact Zy (st' := ⟨[(0, (.sl 1 (a0.map Z1d) false)), (1, (.sl 1 (a1.map Z1d) false)), (9, (.sl 1 (a0.map Z1d) false)), (10, (.int .i64 (a0.length : Int))), (11, (.int .i64 (IntKind.i64.wrap (v1 + 1))))], []⟩) ⟨rfl, rfl, rfl, rfl, rfl, trivial⟩ trivial (IH2 _ (IntKind.i64.wrap (v1 + 1)) (Nat.lt_succ_self _) h)
   ·have h := hif.2 hc
    refine AWp.exit <| At.thru ?_
    exact Zy (st' := ⟨[(0, (.sl 1 (a0.map Z1d) false)), (1, (.sl 1 (a1.map Z1d) false))], []⟩) ⟨rfl, rfl, trivial⟩ trivial (J2 () h)
def F130 (K : Nat) (a0 : Str) : Option (Bool) :=
 some (!(a0 == a0))
theorem F130_ok (K : Nat) (a0 : Str) (r : Bool) (h : F130 K a0 = some r) : ACall P 130 ⟨[(.str a0)], [], (.bool r), [], []⟩ := by
 refine Z1p Try.func130 Try.results130 rfl Try.ntmps130 rfl rfl rfl ?_
 intro E Q hP hN hro hret
 obtain ⟨P', nt', w0, F0, p0, S0, β0, ro0⟩ := E
 simp only at hP hN
 subst hP hN
 dsimp only [argT]
 unfold F130 at h
 refine Zg <| Zc <| Z2 I (Zk (v := (.bool false)) I I) I <| Ze <| Zf <| Zg <| Zc <| Z2 I (Zh (v := (.str a0)) I I) I ?_
 refine Z2 I (Zh (v := (.str a0)) I I) I <| Z2 I (st_cmpS (a := a0) (b := a0) (c := (!(a0 == a0))) I I I I) I <| Z2 I (Zk (v := (.bool (!(a0 == a0)))) I I) I <| Ze <| Zf <| Z1c ?_
 have h := Option.some.inj h
 subst h
 refine (hret _ ?_).1
 exact ⟨[(.bool (!(a0 == a0)))], ⟨rfl, trivial⟩, rfl, trivial⟩
def F106 (K : Nat) (a0 : Str) (a1 : Str) : Option (Int) :=
 (F130 K a0).bind fun v2 =>
  (F130 K a1).bind fun v4 =>
   if v2 = true then
    if v4 = true then
     some 0
    else
     some (Int.negSucc 0)
   else
    if v4 = true then
     some 1
    else
     if (slt a0 a1) = true then
      some (Int.negSucc 0)
     else
      if (!(slt a0 a1 || a0 == a1)) = true then
       some 1
      else
       some 0
theorem Zb8 (K : Nat) (a0 : Str) (a1 : Str) (r : Int) (h : F106 K a0 a1 = some r) : ACall P 106 ⟨[(.str a0), (.str a1)], [], (.int .i64 r), [], []⟩ := by
 refine Z1p Try.func106 Try.results106 rfl Try.ntmps106 rfl rfl rfl ?_
 intro E Q hP hN hro hret
 obtain ⟨P', nt', w0, F0, p0, S0, β0, ro0⟩ := E
 simp only at hP hN
 subst hP hN
 dsimp only [argT]
 unfold F106 at h
 refine Zg <| Zc <| Z2 I (Zk (v := (.int .i64 0)) I I) I <| Ze <| Zf <| Zg <| Zc <| Z2 I (Zh (v := (.str a0)) I I) I ?_
 have ⟨v2, hv2, h⟩ := Z17 h
 refine Z2 I (Z15 (ar := [(.str a0)]) (caps := []) Try.call130 (F130_ok K a0 v2 hv2) I I ⟨rfl, trivial⟩ I) I <| Z2 I (Zk (v := (.bool v2)) I I) I <| Ze <| Zf <| Zg <| Zc <| Z2 I (Zh (v := (.str a1)) I I) I ?_
 have ⟨v4, hv4, h⟩ := Z17 h
 refine Z2 I (Z15 (ar := [(.str a1)]) (caps := []) Try.call130 (F130_ok K a1 v4 hv4) I I ⟨rfl, trivial⟩ I) I <| Z2 I (Zk (v := (.bool v4)) I I) I <| Ze <| Zf <| Zg <| Zg <| Zc <| Z2 I (Zh (v := (.bool v2)) I I) I ?_
 refine Ze <| Zf ?_
 have hif := Z1u h
 refine Z14 I (fun hc => ?_) (fun hc => ?_)
 ·have h := hif.1 hc
  refine Zg <| Zg <| Zc <| Z2 I (Zh (v := (.bool v4)) I I) I <| Ze <| Zf ?_
  have hif := Z1u h
  refine Z14 I (fun hc => ?_) (fun hc => ?_)
  ·have h := hif.1 hc
   refine Zg <| Zc <| Z2 I (Zk (v := (.int .i64 0)) I I) I <| Ze <| Zf <| Z1c <| Z1i <| Z1i ?_
   have h := Option.some.inj h
   subst h
   refine (hret _ ?_).1
   exact ⟨[(.int .i64 0)], ⟨rfl, trivial⟩, rfl, trivial⟩
  ·have h := hif.2 hc
   refine Z16 <| Zf <| Zg <| Zc <| Z2 I (Zk (v := (.int .i64 (Int.negSucc 0))) I I) I <| Ze <| Zf <| Z1c ?_
   refine Z1i ?_
   have h := Option.some.inj h
   subst h
   refine (hret _ ?_).1
   exact ⟨[(.int .i64 (Int.negSucc 0))], ⟨rfl, trivial⟩, rfl, trivial⟩
 ·have h := hif.2 hc
  refine Z16 <| Zf <| Zg <| Zg <| Zc <| Z2 I (Zh (v := (.bool v4)) I I) I <| Ze <| Zf ?_
  have hif := Z1u h
  refine Z14 I (fun hc => ?_) (fun hc => ?_)
  ·have h := hif.1 hc
   refine Zg <| Zc <| Z2 I (Zk (v := (.int .i64 1)) I I) I <| Ze <| Zf <| Z1c <| Z1i ?_
   have h := Option.some.inj h
   subst h
   refine (hret _ ?_).1
   exact ⟨[(.int .i64 1)], ⟨rfl, trivial⟩, rfl, trivial⟩
  ·have h := hif.2 hc
   refine Z16 <| Zf <| Zg <| Zg <| Zc <| Z2 I (Zh (v := (.str a0)) I I) I <| Z2 I (Zh (v := (.str a1)) I I) I <| Z2 I (st_cmpS (a := a0) (b := a1) (c := (slt a0 a1)) I I I I) I ?_
   refine Ze <| Zf ?_
   have hif := Z1u h
   refine Z14 I (fun hc => ?_) (fun hc => ?_)
   ·have h := hif.1 hc
    refine Zg <| Zc <| Z2 I (Zk (v := (.int .i64 (Int.negSucc 0))) I I) I <| Ze <| Zf <| Z1c <| Z1i ?_
    have h := Option.some.inj h
    subst h
    refine (hret _ ?_).1
    exact ⟨[(.int .i64 (Int.negSucc 0))], ⟨rfl, trivial⟩, rfl, trivial⟩
   ·have h := hif.2 hc
    refine Z16 <| Zf <| Zg <| Zg <| Zc <| Z2 I (Zh (v := (.str a0)) I I) I <| Z2 I (Zh (v := (.str a1)) I I) I <| Z2 I (st_cmpS (a := a0) (b := a1) (c := (!(slt a0 a1 || a0 == a1))) I I I I) I ?_
    refine Ze <| Zf ?_
    have hif := Z1u h
    refine Z14 I (fun hc => ?_) (fun hc => ?_)
    ·have h := hif.1 hc
     refine Zg <| Zc <| Z2 I (Zk (v := (.int .i64 1)) I I) I <| Ze <| Zf <| Z1c <| Z1i ?_
     have h := Option.some.inj h
     subst h
     refine (hret _ ?_).1
     exact ⟨[(.int .i64 1)], ⟨rfl, trivial⟩, rfl, trivial⟩
    ·have h := hif.2 hc
     refine Z16 <| Zf <| Zg <| Zc <| Z2 I (Zk (v := (.int .i64 0)) I I) I <| Ze <| Zf <| Z1c ?_
     have h := Option.some.inj h
     subst h
     refine (hret _ ?_).1
     exact ⟨[(.int .i64 0)], ⟨rfl, trivial⟩, rfl, trivial⟩
def F107 (K : Nat) (a0 : Bool) : Option (Int) :=
 if a0 = true then
  some 1
 else
  some 0
theorem F107_ok (K : Nat) (a0 : Bool) (r : Int) (h : F107 K a0 = some r) : ACall P 107 ⟨[(.bool a0)], [], (.int .i64 r), [], []⟩ := by
 refine Z1p Try.func107 Try.results107 rfl Try.ntmps107 rfl rfl rfl ?_
 intro E Q hP hN hro hret
 obtain ⟨P', nt', w0, F0, p0, S0, β0, ro0⟩ := E
 simp only at hP hN
 subst hP hN
 dsimp only [argT]
 unfold F107 at h
 refine Zg <| Zc <| Z2 I (Zk (v := (.int .i64 0)) I I) I <| Ze <| Zf <| Zg <| Zg <| Zc ?_
 refine Z2 I (Zh (v := (.bool a0)) I I) I <| Ze <| Zf ?_
 have hif := Z1u h
 refine Z14 I (fun hc => ?_) (fun hc => ?_)
 ·have h := hif.1 hc
  refine Zg <| Zc <| Z2 I (Zk (v := (.int .i64 1)) I I) I <| Ze <| Zf <| Z1c <| Z1i ?_
  have h := Option.some.inj h
  subst h
  refine (hret _ ?_).1
  exact ⟨[(.int .i64 1)], ⟨rfl, trivial⟩, rfl, trivial⟩
 ·have h := hif.2 hc
  refine Z16 <| Zf <| Zg <| Zc <| Z2 I (Zk (v := (.int .i64 0)) I I) I <| Ze <| Zf <| Z1c ?_
  have h := Option.some.inj h
  subst h
  refine (hret _ ?_).1
  exact ⟨[(.int .i64 0)], ⟨rfl, trivial⟩, rfl, trivial⟩
def Zch (K : Nat) : Option (Int) :=
 some 0
def Z84 (K : Nat) (a0 : (List Int)) (c4 : Option (Int)) : Nat → Int → Option (Int)
 | 0, _ => none
 | k2 + 1, v1 =>
  if (decide (v1 < (a0.length : Int))) = true then
   if (0 : Int) ≤ v1 ∧ v1 < a0.length then
    if ((a0.getD v1.toNat 0) != 0) = true then
     some (a0.getD v1.toNat 0)
    else
     (Z84 K a0 c4 k2) (IntKind.i64.wrap (v1 + 1))
   else none
  else
   c4
def F50 (K : Nat) (a0 : (List Int)) : Option (Int) :=
 Z84 K a0 (Zch K) K 0
theorem F50_ok (K : Nat) (a0 : (List Int)) (r : Int) (h : F50 K a0 = some r) : ACall P 50 ⟨[(.sl 1 (a0.map Z1d) false)], [], (.int .i64 r), [], []⟩ := by
 refine Z1p Try.func50 Try.results50 rfl Try.ntmps50 rfl rfl rfl ?_
 intro E Q hP hN hro hret
 obtain ⟨P', nt', w0, F0, p0, S0, β0, ro0⟩ := E
 simp only at hP hN
 subst hP hN
 dsimp only [argT]
 unfold F50 at h
 refine Zg <| Zc <| Z2 I (Zk (v := (.int .i64 0)) I I) I <| Ze <| Zf <| Zg <| Zc <| Z2 I (Zk (v := (.int .i64 0)) I I) I ?_
 refine Ze <| Zf <| Zg <| Zg <| Zc <| Z2 I (Zh (v := (.sl 1 (a0.map Z1d) false)) I I) I <| Z2 I (Z24 (l := a0) (enc := Z1d) I s87 I) I <| Z2 I (Zh (v := (.int .i64 0)) I I) I ?_
 refine Ze <| Zf <| AWp.weaken (st' := ⟨[(3, (.int .i64 0)), (6, (.sl 1 (a0.map Z1d) false)), (7, (.int .i64 (a0.length : Int))), (8, (.int .i64 0))], []⟩) ⟨rfl, rfl, rfl, rfl, trivial⟩ trivial ?_
 refine Z1l (V := Int) (X := Unit) (lp := fun k v => Z84 K a0 (Zch K) k v = some r) (sh := fun v => ⟨[(3, (.int .i64 0)), (6, (.sl 1 (a0.map Z1d) false)), (7, (.int .i64 (a0.length : Int))), (8, (.int .i64 v))], []⟩) (x := fun v => Zch K = some r) (shx := fun v => ⟨[(3, (.int .i64 0))], []⟩) (k := K) (v := 0) h ?_ ?_
 ·intro v h
  try dsimp only at h ⊢
  unfold Zch at h
  refine Zf <| Zg <| Zc <| Z2 I (Zh (v := (.int .i64 0)) I I) I <| Z2 I (Zk (v := (.int .i64 0)) I I) I <| Ze <| Zf <| Z1c ?_
  have h := Option.some.inj h
  subst h
  refine (hret _ ?_).1
  exact ⟨[(.int .i64 0)], ⟨rfl, trivial⟩, rfl, trivial⟩
 ·intro N k2 v h IH2 J2
  revert h
  revert v
  intro v1 h
  try dsimp only at h IH2 J2 ⊢
  cases k2 with
  | zero => cases h
  | succ k2 =>
   rw [Z84] at h
   refine Zg <| Zc <| Z2 I (Z1q (k := .i64) (a := v1) (b := (a0.length : Int)) (c := (decide (v1 < (a0.length : Int)))) I I I I) I <| Ze <| Zf <| Zg ?_
   have hif := Z1u h
   refine Z14 I (fun hc => ?_) (fun hc => ?_)
   ·have h := hif.1 hc
    refine Z16 <| Zf <| Zg <| AWp.block <| Zg <| Zc ?_
    have ⟨hg6, h⟩ := Zw h
    refine Z2 I (Z1r (k := .i64) (l := a0) (enc := Z1d) (z := 0) (n := v1) (cs := [(.int .i64 (a0.getD v1.toNat 0))]) (full := false) I s87 I I hg6 I) I <| Z2 I (Z2d (cs := [(.int .i64 (a0.getD v1.toNat 0))]) (v := (.int .i64 (a0.getD v1.toNat 0))) I o3 I I) I <| Z2 I (Zk (v := (.int .i64 (a0.getD v1.toNat 0))) I I) I <| Ze <| Zf <| Zg <| Zc <| Z2 I (Zh (v := (.int .i64 (a0.getD v1.toNat 0))) I I) I ?_
    refine Z2 I (Zh (v := (.int .i64 0)) I I) I <| Z2 I (Z1q (k := .i64) (a := (a0.getD v1.toNat 0)) (b := 0) (c := ((a0.getD v1.toNat 0) != 0)) I I I I) I <| Ze <| Zf ?_
    have hif := Z1u h
    refine Z14 I (fun hc => ?_) (fun hc => ?_)
    ·have h := hif.1 hc
     refine Zg <| Zc <| Z2 I (Zh (v := (.int .i64 (a0.getD v1.toNat 0))) I I) I <| Z2 I (Zk (v := (.int .i64 (a0.getD v1.toNat 0))) I I) I <| Ze <| Zf <| Z1c <| At.overR ?_
     refine Z1i ?_
     refine Z1i (At.overR ?_)
     refine Z1i ?_
     have h := Option.some.inj h
     subst h
     refine (hret _ ?_).1
     exact ⟨[(.int .i64 (a0.getD v1.toNat 0))], ⟨rfl, trivial⟩, rfl, trivial⟩
    ·have h := hif.2 hc
     refine Z16 <| At.end <| Zf <| Zc <| Z2 I (Z1h (k := .i64) (a := v1) (b := 1) (c := (IntKind.i64.wrap (v1 + 1))) I I I I) I <| Z2 I (Zh (v := (.int .i64 (IntKind.i64.wrap (v1 + 1)))) I I) I <| Ze ?_
     exact Zy (st' := ⟨[(3, (.int .i64 0)), (6, (.sl 1 (a0.map Z1d) false)), (7, (.int .i64 (a0.length : Int))), (8, (.int .i64 (IntKind.i64.wrap (v1 + 1))))], []⟩) ⟨rfl, rfl, rfl, rfl, trivial⟩ trivial (IH2 _ (IntKind.i64.wrap (v1 + 1)) (Nat.lt_succ_self _) h)
   ·have h := hif.2 hc
    refine AWp.exit <| At.thru ?_
    exact Zy (st' := ⟨[(3, (.int .i64 0))], []⟩) ⟨rfl, trivial⟩ trivial (J2 () h)
def F133 (K : Nat) (a0 : Z1m) (a1 : Z1m) : Option (Int) :=
 (F51 K a0.Kind a1.Kind).bind fun v2 =>
  (F106 K a0.Text a1.Text).bind fun v4 =>
   (F51 K a0.Int a1.Int).bind fun v6 =>
    (F50 K [v2, v4, v6]).bind fun v8 =>
     some v8
theorem F133_ok (K : Nat) (a0 : Z1m) (a1 : Z1m) (r : Int) (h : F133 K a0 a1 = some r) : ACall P 133 ⟨[(Z28 a0), (Z28 a1)], [], (.int .i64 r), [], []⟩ := by
 refine Z1p Try.func133 Try.results133 rfl Try.ntmps133 rfl rfl rfl ?_
 intro E Q hP hN hro hret
 obtain ⟨P', nt', w0, F0, p0, S0, β0, ro0⟩ := E
 simp only at hP hN
 subst hP hN
 dsimp only [argT]
 unfold F133 at h
 refine Zg <| Zc <| Z2 I (Z2j (v := (Z28 a0)) (cs := (Z28 a0).cells) I I I I I) I <| Z2 I (Z2j (v := (Z28 a1)) (cs := (Z28 a1).cells) I I I I I) I <| Z2 I (Zk (v := (.int .i64 0)) I I) I <| Ze <| Zf <| Zg ?_
 refine Z1n mixed <| Z8 0 I (Zp (m := 2) (o := 0) I f165_0 I I) <| Z8 1 I (Zv (cs := (Z28 a0).cells) (v := (.int .i64 a0.Kind)) I o3 I I I) <| Z8 2 I (Zp (m := 3) (o := 0) I f165_0 I I) <| Z8 3 I (Zv (cs := (Z28 a1).cells) (v := (.int .i64 a1.Kind)) I o3 I I I) ?_
 have ⟨v2, hv2, h⟩ := Z17 h
 refine Z8 4 I (Z15 (ar := [(.int .i64 a0.Kind), (.int .i64 a1.Kind)]) (caps := []) Try.call51 (Z4j K a0.Kind a1.Kind v2 hv2) I I ⟨rfl, rfl, trivial⟩ I) <| Z8 5 I (Zp (m := 2) (o := 0) I f165_1 I I) <| Z8 6 I (Zv (cs := (Z28 a0).cells) (v := (.str a0.Text)) I o9 I I I) <| Z8 7 I (Zp (m := 3) (o := 0) I f165_1 I I) <| Z8 8 I (Zv (cs := (Z28 a1).cells) (v := (.str a1.Text)) I o9 I I I) ?_
 have ⟨v4, hv4, h⟩ := Z17 h
 refine Z8 9 I (Z15 (ar := [(.str a0.Text), (.str a1.Text)]) (caps := []) Try.call106 (Zb8 K a0.Text a1.Text v4 hv4) I I ⟨rfl, rfl, trivial⟩ I) <| Z8 10 I (Zp (m := 2) (o := 0) I f165_2 I I) <| Z8 11 I (Zv (cs := (Z28 a0).cells) (v := (.int .i64 a0.Int)) I o3 I I I) <| Z8 12 I (Zp (m := 3) (o := 0) I f165_2 I I) <| Z8 13 I (Zv (cs := (Z28 a1).cells) (v := (.int .i64 a1.Int)) I o3 I I I) ?_
 have ⟨v6, hv6, h⟩ := Z17 h
 refine Z8 14 I (Z15 (ar := [(.int .i64 a0.Int), (.int .i64 a1.Int)]) (caps := []) Try.call51 (Z4j K a0.Int a1.Int v6 hv6) I I ⟨rfl, rfl, trivial⟩ I) <| Z8 15 I (Z1f (vs := [(.int .i64 v2), (.int .i64 v4), (.int .i64 v6)]) (enc := Z1d) (l := [v2, v4, v6]) I el87 I I ⟨rfl, rfl, rfl, trivial⟩ I Z3g I I I I) ?_
 have ⟨v8, hv8, h⟩ := Z17 h
 refine Z8 16 I (Z7q (rd := [(20, (.vec 1 (List.map Z1d [v2, v4, v6])))]) (ar := [(.vs 20)]) (caps := []) Try.call50 (F50_ok K [v2, v4, v6] v8 hv8) I I ⟨rfl, trivial⟩ (Z6c ⟨rfl, trivial⟩) I I I) <| Z8 17 I (Zk (v := (.int .i64 v8)) I I) <| AOpsD.nil (by kernel_rfl) I <| Zf <| Z1c ?_
 have h := Option.some.inj h
 subst h
 refine (hret _ ?_).1
 exact ⟨[(.int .i64 v8)], ⟨rfl, trivial⟩, rfl, trivial⟩
def F132 (K : Nat) (a0 : Z1b) (a1 : Z1b) : Option (Int) :=
 (F106 K a0.Key a1.Key).bind fun v2 =>
  (F133 K a0.Value a1.Value).bind fun v4 =>
   (F50 K [v2, v4]).bind fun v6 =>
    some v6
theorem F132_ok (K : Nat) (a0 : Z1b) (a1 : Z1b) (r : Int) (h : F132 K a0 a1 = some r) : ACall P 132 ⟨[(Zu a0), (Zu a1)], [], (.int .i64 r), [], []⟩ := by
 refine Z1p Try.func132 Try.results132 rfl Try.ntmps132 rfl rfl rfl ?_
 intro E Q hP hN hro hret
 obtain ⟨P', nt', w0, F0, p0, S0, β0, ro0⟩ := E
 simp only at hP hN
 subst hP hN
 dsimp only [argT]
 unfold F132 at h
 refine Zg <| Zc <| Z2 I (Z2j (v := (Zu a0)) (cs := (Zu a0).cells) I I I I I) I <| Z2 I (Z2j (v := (Zu a1)) (cs := (Zu a1).cells) I I I I I) I <| Z2 I (Zk (v := (.int .i64 0)) I I) I <| Ze <| Zf <| Zg ?_
 refine Z1n mixed <| Z8 0 I (Zp (m := 2) (o := 0) I f167_0 I I) <| Z8 1 I (Zv (cs := (Zu a0).cells) (v := (.str a0.Key)) I o9 I I I) <| Z8 2 I (Zp (m := 3) (o := 0) I f167_0 I I) <| Z8 3 I (Zv (cs := (Zu a1).cells) (v := (.str a1.Key)) I o9 I I I) ?_
 have ⟨v2, hv2, h⟩ := Z17 h
 refine Z8 4 I (Z15 (ar := [(.str a0.Key), (.str a1.Key)]) (caps := []) Try.call106 (Zb8 K a0.Key a1.Key v2 hv2) I I ⟨rfl, rfl, trivial⟩ I) <| Z8 5 I (Zp (m := 2) (o := 0) I f167_1 I I) <| Z8 6 I (Z19 (cs := (Zu a0).cells) (vs := (Z28 a0.Value).cells) I a165 I I I I) <| Z8 7 I (Zp (m := 3) (o := 0) I f167_1 I I) <| Z8 8 I (Z19 (cs := (Zu a1).cells) (vs := (Z28 a1.Value).cells) I a165 I I I I) ?_
 have ⟨v4, hv4, h⟩ := Z17 h
 refine Z8 9 I (Z15 (ar := [(Z28 a0.Value), (Z28 a1.Value)]) (caps := []) Try.call133 (F133_ok K a0.Value a1.Value v4 hv4) I I ⟨rfl, rfl, trivial⟩ I) <| Z8 10 I (Z1f (vs := [(.int .i64 v2), (.int .i64 v4)]) (enc := Z1d) (l := [v2, v4]) I el87 I I ⟨rfl, rfl, trivial⟩ I Z3g I I I I) ?_
 have ⟨v6, hv6, h⟩ := Z17 h
 refine Z8 11 I (Z7q (rd := [(15, (.vec 1 (List.map Z1d [v2, v4])))]) (ar := [(.vs 15)]) (caps := []) Try.call50 (F50_ok K [v2, v4] v6 hv6) I I ⟨rfl, trivial⟩ (Z6c ⟨rfl, trivial⟩) I I I) <| Z8 12 I (Zk (v := (.int .i64 v6)) I I) <| AOpsD.nil (by kernel_rfl) I <| Zf <| Z1c ?_
 have h := Option.some.inj h
 subst h
 refine (hret _ ?_).1
 exact ⟨[(.int .i64 v6)], ⟨rfl, trivial⟩, rfl, trivial⟩
def Z91 (K : Nat) (a0 : (List Z1b)) (a1 : (List Z1b)) : Option (Int) :=
 if (decide ((a0.length : Int) < (a1.length : Int))) = true then
  some (Int.negSucc 0)
 else
  some 0
def Z5f (K : Nat) (a0 : (List Z1b)) (a1 : (List Z1b)) (c4 : Option (Int)) : Nat → Int → Option (Int)
 | 0, _ => none
 | k2 + 1, v1 =>
  if (decide (v1 < (a0.length : Int))) = true then
   if (0 : Int) ≤ v1 ∧ v1 < a0.length then
    if (decide (v1 ≥ (a1.length : Int))) = true then
     some 1
    else
     if (0 : Int) ≤ v1 ∧ v1 < a1.length then
      (F132 K (a0.getD v1.toNat Z1v) (a1.getD v1.toNat Z1v)).bind fun v9 =>
       if (v9 != 0) = true then
        some v9
       else
        (Z5f K a0 a1 c4 k2) (IntKind.i64.wrap (v1 + 1))
     else none
   else none
  else
   c4
def F131 (K : Nat) (a0 : (List Z1b)) (a1 : (List Z1b)) : Option (Int) :=
 Z5f K a0 a1 (Z91 K a0 a1) K 0
theorem F131_ok (K : Nat) (a0 : (List Z1b)) (a1 : (List Z1b)) (r : Int) (h : F131 K a0 a1 = some r) : ACall P 131 ⟨[(.sl 4 (a0.map Zu) false), (.sl 4 (a1.map Zu) false), (.clo 132 [])], [], (.int .i64 r), [], []⟩ := by
 refine Z1p Try.func131 Try.results131 rfl Try.ntmps131 rfl rfl rfl ?_
 intro E Q hP hN hro hret
 obtain ⟨P', nt', w0, F0, p0, S0, β0, ro0⟩ := E
 simp only at hP hN
 subst hP hN
 dsimp only [argT]
 unfold F131 at h
 refine Zg <| Zc <| Z2 I (Zk (v := (.int .i64 0)) I I) I <| Ze <| Zf <| Zg <| Zg <| Zc ?_
 refine Z2 I (Zh (v := (.sl 4 (a0.map Zu) false)) I I) I <| Z2 I (Z24 (l := a0) (enc := Zu) I s35 I) I <| Z2 I (Zh (v := (.int .i64 0)) I I) I <| Ze <| Zf <| AWp.weaken (st' := ⟨[(0, (.sl 4 (a0.map Zu) false)), (1, (.sl 4 (a1.map Zu) false)), (2, (.clo 132 [])), (11, (.sl 4 (a0.map Zu) false)), (12, (.int .i64 (a0.length : Int))), (13, (.int .i64 0))], []⟩) ⟨rfl, rfl, rfl, rfl, rfl, rfl, trivial⟩ trivial ?_
 refine Z1l (V := Int) (X := Unit) (lp := fun k v => Z5f K a0 a1 (Z91 K a0 a1) k v = some r) (sh := fun v => ⟨[(0, (.sl 4 (a0.map Zu) false)), (1, (.sl 4 (a1.map Zu) false)), (2, (.clo 132 [])), (11, (.sl 4 (a0.map Zu) false)), (12, (.int .i64 (a0.length : Int))), (13, (.int .i64 v))], []⟩) (x := fun v => Z91 K a0 a1 = some r) (shx := fun v => ⟨[(0, (.sl 4 (a0.map Zu) false)), (1, (.sl 4 (a1.map Zu) false))], []⟩) (k := K) (v := 0) h ?_ ?_
 ·intro v h
  try dsimp only at h ⊢
  unfold Z91 at h
  refine Zf <| Zg <| Zg <| Zc <| Z2 I (Zh (v := (.sl 4 (a0.map Zu) false)) I I) I <| Z2 I (Z24 (l := a0) (enc := Zu) I s35 I) I <| Z2 I (Zh (v := (.sl 4 (a1.map Zu) false)) I I) I <| Z2 I (Z24 (l := a1) (enc := Zu) I s35 I) I ?_
  refine Z2 I (Z1q (k := .i64) (a := (a0.length : Int)) (b := (a1.length : Int)) (c := (decide ((a0.length : Int) < (a1.length : Int)))) I I I I) I <| Ze <| Zf ?_
  have hif := Z1u h
  refine Z14 I (fun hc => ?_) (fun hc => ?_)
  ·have h := hif.1 hc
   refine Zg <| Zc <| Z2 I (Zk (v := (.int .i64 (Int.negSucc 0))) I I) I <| Ze <| Zf <| Z1c <| Z1i ?_
   have h := Option.some.inj h
   subst h
   refine (hret _ ?_).1
   exact ⟨[(.int .i64 (Int.negSucc 0))], ⟨rfl, trivial⟩, rfl, trivial⟩
  ·have h := hif.2 hc
   refine Z16 <| Zf <| Zg <| Zc <| Z2 I (Zk (v := (.int .i64 0)) I I) I <| Ze <| Zf <| Z1c ?_
   have h := Option.some.inj h
   subst h
   refine (hret _ ?_).1
   exact ⟨[(.int .i64 0)], ⟨rfl, trivial⟩, rfl, trivial⟩
 ·intro N k2 v h IH2 J2
  revert h
  revert v
  intro v1 h
  try dsimp only at h IH2 J2 ⊢
  cases k2 with
  | zero => cases h
  | succ k2 =>
   rw [Z5f] at h
   refine Zg <| Zc <| Z2 I (Z1q (k := .i64) (a := v1) (b := (a0.length : Int)) (c := (decide (v1 < (a0.length : Int)))) I I I I) I <| Ze <| Zf <| Zg ?_
   have hif := Z1u h
   refine Z14 I (fun hc => ?_) (fun hc => ?_)
   ·have h := hif.1 hc
    refine Z16 <| Zf <| Zg <| AWp.block <| Zg <| Zc <| Z2 I (Zh (v := (.int .i64 v1)) I I) I ?_
    have ⟨hg6, h⟩ := Zw h
    refine Z2 I (Z1r (k := .i64) (l := a0) (enc := Zu) (z := Z1v) (n := v1) (cs := (Zu (a0.getD v1.toNat Z1v)).cells) (full := false) I s35 I I hg6 I) I <| Z2 I (Z1w (cs := (Zu (a0.getD v1.toNat Z1v)).cells) (vs := (Zu (a0.getD v1.toNat Z1v)).cells) I a167 I I I) I <| Z2 I (Z1y (cs := [(.str []), (.int .i64 0), (.str []), (.int .i64 0)]) I z167 I I I) I <| Z2 I (Zk (v := (.int .i64 v1)) I I) I <| Z2 I (Z1k (cs := [(.str []), (.int .i64 0), (.str []), (.int .i64 0)]) (vs := (Zu (a0.getD v1.toNat Z1v)).cells) (ds := (Zu (a0.getD v1.toNat Z1v)).cells) (v := (Zu (a0.getD v1.toNat Z1v))) sz167 I I I I I I I I) I <| Ze <| Zf <| Zg ?_
    refine Zg <| Zc <| Z2 I (Zh (v := (.int .i64 v1)) I I) I <| Z2 I (Zh (v := (.sl 4 (a1.map Zu) false)) I I) I <| Z2 I (Z24 (l := a1) (enc := Zu) I s35 I) I <| Z2 I (Z1q (k := .i64) (a := v1) (b := (a1.length : Int)) (c := (decide (v1 ≥ (a1.length : Int)))) I I I I) I <| Ze <| Zf ?_
    have hif := Z1u h
    refine Z14 I (fun hc => ?_) (fun hc => ?_)
    ·have h := hif.1 hc
     refine Zg <| Zc <| Z2 I (Zk (v := (.int .i64 1)) I I) I <| Ze <| Zf <| Z1c <| Z1i <| At.overR ?_
     refine Z1i ?_
     refine Z1i (At.overR ?_)
     refine Z1i ?_
     have h := Option.some.inj h
     subst h
     refine (hret _ ?_).1
     exact ⟨[(.int .i64 1)], ⟨rfl, trivial⟩, rfl, trivial⟩
    ·have h := hif.2 hc
     refine Z16 <| Zf <| Zg <| Zc <| Z2 I (Zh (v := (.sl 4 (a1.map Zu) false)) I I) I <| Z2 I (Zh (v := (.int .i64 v1)) I I) I ?_
     have ⟨hg7, h⟩ := Zw h
     refine Z2 I (Z1r (k := .i64) (l := a1) (enc := Zu) (z := Z1v) (n := v1) (cs := (Zu (a1.getD v1.toNat Z1v)).cells) (full := false) I s35 I I hg7 I) I <| Z2 I (Z1w (cs := (Zu (a1.getD v1.toNat Z1v)).cells) (vs := (Zu (a1.getD v1.toNat Z1v)).cells) I a167 I I I) I <| Z2 I (Z1y (cs := [(.str []), (.int .i64 0), (.str []), (.int .i64 0)]) I z167 I I I) I <| Z2 I (Z1k (cs := [(.str []), (.int .i64 0), (.str []), (.int .i64 0)]) (vs := (Zu (a1.getD v1.toNat Z1v)).cells) (ds := (Zu (a1.getD v1.toNat Z1v)).cells) (v := (Zu (a1.getD v1.toNat Z1v))) sz167 I I I I I I I I) I <| Ze <| Zf <| Zg <| Zc ?_
     refine Z2 I (Zh (v := (.clo 132 [])) I I) I <| Z2 I (Z19 (cs := (Zu (a0.getD v1.toNat Z1v)).cells) (vs := (Zu (a0.getD v1.toNat Z1v)).cells) I a167 I I I I) I <| Z2 I (Z19 (cs := (Zu (a1.getD v1.toNat Z1v)).cells) (vs := (Zu (a1.getD v1.toNat Z1v)).cells) I a167 I I I I) I ?_
     have ⟨v9, hv9, h⟩ := Z17 h
     refine Z2 I (Z15 (ar := [(Zu (a0.getD v1.toNat Z1v)), (Zu (a1.getD v1.toNat Z1v))]) (caps := []) Try.call132 (F132_ok K (a0.getD v1.toNat Z1v) (a1.getD v1.toNat Z1v) v9 hv9) I I ⟨rfl, rfl, trivial⟩ I) I <| Z2 I (Zk (v := (.int .i64 v9)) I I) I <| Ze <| Zf <| Zg <| Zc <| Z2 I (Zh (v := (.int .i64 v9)) I I) I <| Z2 I (Z1q (k := .i64) (a := v9) (b := 0) (c := (v9 != 0)) I I I I) I ?_
     refine Ze <| Zf ?_
     have hif := Z1u h
     refine Z14 I (fun hc => ?_) (fun hc => ?_)
     ·have h := hif.1 hc
      refine Zg <| Zc <| Z2 I (Zh (v := (.int .i64 v9)) I I) I <| Z2 I (Zk (v := (.int .i64 v9)) I I) I <| Ze <| Zf <| Z1c <| At.overR ?_
      refine Z1i ?_
      refine Z1i (At.overR ?_)
      refine Z1i ?_
      have h := Option.some.inj h
      subst h
      refine (hret _ ?_).1
      exact ⟨[(.int .i64 v9)], ⟨rfl, trivial⟩, rfl, trivial⟩
     ·have h := hif.2 hc
      refine Z16 <| At.end <| Zf <| Zc <| Z2 I (Z1h (k := .i64) (a := v1) (b := 1) (c := (IntKind.i64.wrap (v1 + 1))) I I I I) I <| Z2 I (Zh (v := (.int .i64 (IntKind.i64.wrap (v1 + 1)))) I I) I <| Ze ?_
      exact Zy (st' := ⟨[(0, (.sl 4 (a0.map Zu) false)), (1, (.sl 4 (a1.map Zu) false)), (2, (.clo 132 [])), (11, (.sl 4 (a0.map Zu) false)), (12, (.int .i64 (a0.length : Int))), (13, (.int .i64 (IntKind.i64.wrap (v1 + 1))))], []⟩) ⟨rfl, rfl, rfl, rfl, rfl, rfl, trivial⟩ trivial (IH2 _ (IntKind.i64.wrap (v1 + 1)) (Nat.lt_succ_self _) h)
   ·have h := hif.2 hc
    refine AWp.exit <| At.thru ?_
    exact Zy (st' := ⟨[(0, (.sl 4 (a0.map Zu) false)), (1, (.sl 4 (a1.map Zu) false))], []⟩) ⟨rfl, rfl, trivial⟩ trivial (J2 () h)
def F108 (K : Nat) (a0 : (List Z1b)) (a1 : (List Z1b)) : Option (Int) :=
 (F131 K a0 a1).bind fun v2 =>
  some v2
theorem F108_ok (K : Nat) (a0 : (List Z1b)) (a1 : (List Z1b)) (r : Int) (h : F108 K a0 a1 = some r) : ACall P 108 ⟨[(.sl 4 (a0.map Zu) false), (.sl 4 (a1.map Zu) false)], [], (.int .i64 r), [], []⟩ := by
 refine Z1p Try.func108 Try.results108 rfl Try.ntmps108 rfl rfl rfl ?_
 intro E Q hP hN hro hret
 obtain ⟨P', nt', w0, F0, p0, S0, β0, ro0⟩ := E
 simp only at hP hN
 subst hP hN
 dsimp only [argT]
 unfold F108 at h
 refine Zg <| Zc <| Z2 I (Zk (v := (.int .i64 0)) I I) I <| Ze <| Zf <| Zg <| Zc <| Z2 I (Zh (v := (.sl 4 (a0.map Zu) false)) I I) I ?_
 refine Z2 I (Zh (v := (.sl 4 (a1.map Zu) false)) I I) I ?_
 have ⟨v2, hv2, h⟩ := Z17 h
 refine Z2 I (Z15 (ar := [(.sl 4 (a0.map Zu) false), (.sl 4 (a1.map Zu) false), (.clo 132 [])]) (caps := []) Try.call131 (F131_ok K a0 a1 v2 hv2) I I ⟨rfl, rfl, rfl, trivial⟩ I) I <| Z2 I (Zk (v := (.int .i64 v2)) I I) I <| Ze <| Zf <| Z1c ?_
 have h := Option.some.inj h
 subst h
 refine (hret _ ?_).1
 exact ⟨[(.int .i64 v2)], ⟨rfl, trivial⟩, rfl, trivial⟩
def F52 (K : Nat) (a0 : Zq) (a1 : Zq) : Option (Int) :=
 (F51 K a0.Trace a1.Trace).bind fun v2 =>
  (F51 K a0.Id a1.Id).bind fun v4 =>
   (F50 K [v2, v4]).bind fun v6 =>
    some v6
theorem F52_ok (K : Nat) (a0 : Zq) (a1 : Zq) (r : Int) (h : F52 K a0 a1 = some r) : ACall P 52 ⟨[(Zi a0), (Zi a1)], [], (.int .i64 r), [], []⟩ := by
 refine Z1p Try.func52 Try.results52 rfl Try.ntmps52 rfl rfl rfl ?_
 intro E Q hP hN hro hret
 obtain ⟨P', nt', w0, F0, p0, S0, β0, ro0⟩ := E
 simp only at hP hN
 subst hP hN
 dsimp only [argT]
 unfold F52 at h
 refine Zg <| Zc <| Z2 I (Z2j (v := (Zi a0)) (cs := (Zi a0).cells) I I I I I) I <| Z2 I (Z2j (v := (Zi a1)) (cs := (Zi a1).cells) I I I I I) I <| Z2 I (Zk (v := (.int .i64 0)) I I) I <| Ze <| Zf <| Zg ?_
 refine Z1n mixed <| Z8 0 I (Zp (m := 2) (o := 0) I f23_0 I I) <| Z8 1 I (Zv (cs := (Zi a0).cells) (v := (.int .i64 a0.Trace)) I o3 I I I) <| Z8 2 I (Zp (m := 3) (o := 0) I f23_0 I I) <| Z8 3 I (Zv (cs := (Zi a1).cells) (v := (.int .i64 a1.Trace)) I o3 I I I) ?_
 have ⟨v2, hv2, h⟩ := Z17 h
 refine Z8 4 I (Z15 (ar := [(.int .i64 a0.Trace), (.int .i64 a1.Trace)]) (caps := []) Try.call51 (Z4j K a0.Trace a1.Trace v2 hv2) I I ⟨rfl, rfl, trivial⟩ I) <| Z8 5 I (Zp (m := 2) (o := 0) I f23_1 I I) <| Z8 6 I (Zv (cs := (Zi a0).cells) (v := (.int .i64 a0.Id)) I o3 I I I) <| Z8 7 I (Zp (m := 3) (o := 0) I f23_1 I I) <| Z8 8 I (Zv (cs := (Zi a1).cells) (v := (.int .i64 a1.Id)) I o3 I I I) ?_
 have ⟨v4, hv4, h⟩ := Z17 h
 refine Z8 9 I (Z15 (ar := [(.int .i64 a0.Id), (.int .i64 a1.Id)]) (caps := []) Try.call51 (Z4j K a0.Id a1.Id v4 hv4) I I ⟨rfl, rfl, trivial⟩ I) <| Z8 10 I (Z1f (vs := [(.int .i64 v2), (.int .i64 v4)]) (enc := Z1d) (l := [v2, v4]) I el87 I I ⟨rfl, rfl, trivial⟩ I Z3g I I I I) ?_
 have ⟨v6, hv6, h⟩ := Z17 h
 refine Z8 11 I (Z7q (rd := [(15, (.vec 1 (List.map Z1d [v2, v4])))]) (ar := [(.vs 15)]) (caps := []) Try.call50 (F50_ok K [v2, v4] v6 hv6) I I ⟨rfl, trivial⟩ (Z6c ⟨rfl, trivial⟩) I I I) <| Z8 12 I (Zk (v := (.int .i64 v6)) I I) <| AOpsD.nil (by kernel_rfl) I <| Zf <| Z1c ?_
 have h := Option.some.inj h
 subst h
 refine (hret _ ?_).1
 exact ⟨[(.int .i64 v6)], ⟨rfl, trivial⟩, rfl, trivial⟩
def Z8c (K : Nat) (a0 : (List Zq)) (a1 : (List Zq)) : Option (Int) :=
 if (decide ((a0.length : Int) < (a1.length : Int))) = true then
  some (Int.negSucc 0)
 else
  some 0
def Z60 (K : Nat) (a0 : (List Zq)) (a1 : (List Zq)) (c4 : Option (Int)) : Nat → Int → Option (Int)
 | 0, _ => none
 | k2 + 1, v1 =>
  if (decide (v1 < (a0.length : Int))) = true then
   if (0 : Int) ≤ v1 ∧ v1 < a0.length then
    if (decide (v1 ≥ (a1.length : Int))) = true then
     some 1
    else
     if (0 : Int) ≤ v1 ∧ v1 < a1.length then
      (F52 K (a0.getD v1.toNat Zr) (a1.getD v1.toNat Zr)).bind fun v9 =>
       if (v9 != 0) = true then
        some v9
       else
        (Z60 K a0 a1 c4 k2) (IntKind.i64.wrap (v1 + 1))
     else none
   else none
  else
   c4
def F109 (K : Nat) (a0 : (List Zq)) (a1 : (List Zq)) : Option (Int) :=
 Z60 K a0 a1 (Z8c K a0 a1) K 0
theorem F109_ok (K : Nat) (a0 : (List Zq)) (a1 : (List Zq)) (r : Int) (h : F109 K a0 a1 = some r) : ACall P 109 ⟨[(.sl 2 (a0.map Zi) false), (.sl 2 (a1.map Zi) false), (.clo 52 [])], [], (.int .i64 r), [], []⟩ := by
 refine Z1p Try.func109 Try.results109 rfl Try.ntmps109 rfl rfl rfl ?_
 intro E Q hP hN hro hret
 obtain ⟨P', nt', w0, F0, p0, S0, β0, ro0⟩ := E
 simp only at hP hN
 subst hP hN
 dsimp only [argT]
 unfold F109 at h
 refine Zg <| Zc <| Z2 I (Zk (v := (.int .i64 0)) I I) I <| Ze <| Zf <| Zg <| Zg <| Zc ?_
 refine Z2 I (Zh (v := (.sl 2 (a0.map Zi) false)) I I) I <| Z2 I (Z24 (l := a0) (enc := Zi) I s36 I) I <| Z2 I (Zh (v := (.int .i64 0)) I I) I <| Ze <| Zf <| AWp.weaken (st' := ⟨[(0, (.sl 2 (a0.map Zi) false)), (1, (.sl 2 (a1.map Zi) false)), (2, (.clo 52 [])), (11, (.sl 2 (a0.map Zi) false)), (12, (.int .i64 (a0.length : Int))), (13, (.int .i64 0))], []⟩) ⟨rfl, rfl, rfl, rfl, rfl, rfl, trivial⟩ trivial ?_
 refine Z1l (V := Int) (X := Unit) (lp := fun k v => Z60 K a0 a1 (Z8c K a0 a1) k v = some r) (sh := fun v => ⟨[(0, (.sl 2 (a0.map Zi) false)), (1, (.sl 2 (a1.map Zi) false)), (2, (.clo 52 [])), (11, (.sl 2 (a0.map Zi) false)), (12, (.int .i64 (a0.length : Int))), (13, (.int .i64 v))], []⟩) (x := fun v => Z8c K a0 a1 = some r) (shx := fun v => ⟨[(0, (.sl 2 (a0.map Zi) false)), (1, (.sl 2 (a1.map Zi) false))], []⟩) (k := K) (v := 0) h ?_ ?_
 ·intro v h
  try dsimp only at h ⊢
  unfold Z8c at h
  refine Zf <| Zg <| Zg <| Zc <| Z2 I (Zh (v := (.sl 2 (a0.map Zi) false)) I I) I <| Z2 I (Z24 (l := a0) (enc := Zi) I s36 I) I <| Z2 I (Zh (v := (.sl 2 (a1.map Zi) false)) I I) I <| Z2 I (Z24 (l := a1) (enc := Zi) I s36 I) I ?_
  refine Z2 I (Z1q (k := .i64) (a := (a0.length : Int)) (b := (a1.length : Int)) (c := (decide ((a0.length : Int) < (a1.length : Int)))) I I I I) I <| Ze <| Zf ?_
  have hif := Z1u h
  refine Z14 I (fun hc => ?_) (fun hc => ?_)
  ·have h := hif.1 hc
   refine Zg <| Zc <| Z2 I (Zk (v := (.int .i64 (Int.negSucc 0))) I I) I <| Ze <| Zf <| Z1c <| Z1i ?_
   have h := Option.some.inj h
   subst h
   refine (hret _ ?_).1
   exact ⟨[(.int .i64 (Int.negSucc 0))], ⟨rfl, trivial⟩, rfl, trivial⟩
  ·have h := hif.2 hc
   refine Z16 <| Zf <| Zg <| Zc <| Z2 I (Zk (v := (.int .i64 0)) I I) I <| Ze <| Zf <| Z1c ?_
   have h := Option.some.inj h
   subst h
   refine (hret _ ?_).1
   exact ⟨[(.int .i64 0)], ⟨rfl, trivial⟩, rfl, trivial⟩
 ·intro N k2 v h IH2 J2
  revert h
  revert v
  intro v1 h
  try dsimp only at h IH2 J2 ⊢
  cases k2 with
  | zero => cases h
  | succ k2 =>
   rw [Z60] at h
   refine Zg <| Zc <| Z2 I (Z1q (k := .i64) (a := v1) (b := (a0.length : Int)) (c := (decide (v1 < (a0.length : Int)))) I I I I) I <| Ze <| Zf <| Zg ?_
   have hif := Z1u h
   refine Z14 I (fun hc => ?_) (fun hc => ?_)
   ·have h := hif.1 hc
    refine Z16 <| Zf <| Zg <| AWp.block <| Zg <| Zc <| Z2 I (Zh (v := (.int .i64 v1)) I I) I ?_
    have ⟨hg6, h⟩ := Zw h
    refine Z2 I (Z1r (k := .i64) (l := a0) (enc := Zi) (z := Zr) (n := v1) (cs := (Zi (a0.getD v1.toNat Zr)).cells) (full := false) I s36 I I hg6 I) I <| Z2 I (Z1w (cs := (Zi (a0.getD v1.toNat Zr)).cells) (vs := (Zi (a0.getD v1.toNat Zr)).cells) I a23 I I I) I <| Z2 I (Z1y (cs := [(.int .i64 0), (.int .i64 0)]) I z23 I I I) I <| Z2 I (Zk (v := (.int .i64 v1)) I I) I <| Z2 I (Z1k (cs := [(.int .i64 0), (.int .i64 0)]) (vs := (Zi (a0.getD v1.toNat Zr)).cells) (ds := (Zi (a0.getD v1.toNat Zr)).cells) (v := (Zi (a0.getD v1.toNat Zr))) sz23 I I I I I I I I) I <| Ze <| Zf <| Zg ?_
    refine Zg <| Zc <| Z2 I (Zh (v := (.int .i64 v1)) I I) I <| Z2 I (Zh (v := (.sl 2 (a1.map Zi) false)) I I) I <| Z2 I (Z24 (l := a1) (enc := Zi) I s36 I) I <| Z2 I (Z1q (k := .i64) (a := v1) (b := (a1.length : Int)) (c := (decide (v1 ≥ (a1.length : Int)))) I I I I) I <| Ze <| Zf ?_
    have hif := Z1u h
    refine Z14 I (fun hc => ?_) (fun hc => ?_)
    ·have h := hif.1 hc
     refine Zg <| Zc <| Z2 I (Zk (v := (.int .i64 1)) I I) I <| Ze <| Zf <| Z1c <| Z1i <| At.overR ?_
     refine Z1i ?_
     refine Z1i (At.overR ?_)
     refine Z1i ?_
     have h := Option.some.inj h
     subst h
     refine (hret _ ?_).1
     exact ⟨[(.int .i64 1)], ⟨rfl, trivial⟩, rfl, trivial⟩
    ·have h := hif.2 hc
     refine Z16 <| Zf <| Zg <| Zc <| Z2 I (Zh (v := (.sl 2 (a1.map Zi) false)) I I) I <| Z2 I (Zh (v := (.int .i64 v1)) I I) I ?_
     have ⟨hg7, h⟩ := Zw h
     refine Z2 I (Z1r (k := .i64) (l := a1) (enc := Zi) (z := Zr) (n := v1) (cs := (Zi (a1.getD v1.toNat Zr)).cells) (full := false) I s36 I I hg7 I) I <| Z2 I (Z1w (cs := (Zi (a1.getD v1.toNat Zr)).cells) (vs := (Zi (a1.getD v1.toNat Zr)).cells) I a23 I I I) I <| Z2 I (Z1y (cs := [(.int .i64 0), (.int .i64 0)]) I z23 I I I) I <| Z2 I (Z1k (cs := [(.int .i64 0), (.int .i64 0)]) (vs := (Zi (a1.getD v1.toNat Zr)).cells) (ds := (Zi (a1.getD v1.toNat Zr)).cells) (v := (Zi (a1.getD v1.toNat Zr))) sz23 I I I I I I I I) I <| Ze <| Zf <| Zg <| Zc ?_
     refine Z2 I (Zh (v := (.clo 52 [])) I I) I <| Z2 I (Z19 (cs := (Zi (a0.getD v1.toNat Zr)).cells) (vs := (Zi (a0.getD v1.toNat Zr)).cells) I a23 I I I I) I <| Z2 I (Z19 (cs := (Zi (a1.getD v1.toNat Zr)).cells) (vs := (Zi (a1.getD v1.toNat Zr)).cells) I a23 I I I I) I ?_
     have ⟨v9, hv9, h⟩ := Z17 h
     refine Z2 I (Z15 (ar := [(Zi (a0.getD v1.toNat Zr)), (Zi (a1.getD v1.toNat Zr))]) (caps := []) Try.call52 (F52_ok K (a0.getD v1.toNat Zr) (a1.getD v1.toNat Zr) v9 hv9) I I ⟨rfl, rfl, trivial⟩ I) I <| Z2 I (Zk (v := (.int .i64 v9)) I I) I <| Ze <| Zf <| Zg <| Zc <| Z2 I (Zh (v := (.int .i64 v9)) I I) I <| Z2 I (Z1q (k := .i64) (a := v9) (b := 0) (c := (v9 != 0)) I I I I) I ?_
     refine Ze <| Zf ?_
     have hif := Z1u h
     refine Z14 I (fun hc => ?_) (fun hc => ?_)
     ·have h := hif.1 hc
      refine Zg <| Zc <| Z2 I (Zh (v := (.int .i64 v9)) I I) I <| Z2 I (Zk (v := (.int .i64 v9)) I I) I <| Ze <| Zf <| Z1c <| At.overR ?_
      refine Z1i ?_
      refine Z1i (At.overR ?_)
      refine Z1i ?_
      have h := Option.some.inj h
      subst h
      refine (hret _ ?_).1
      exact ⟨[(.int .i64 v9)], ⟨rfl, trivial⟩, rfl, trivial⟩
     ·have h := hif.2 hc
      refine Z16 <| At.end <| Zf <| Zc <| Z2 I (Z1h (k := .i64) (a := v1) (b := 1) (c := (IntKind.i64.wrap (v1 + 1))) I I I I) I <| Z2 I (Zh (v := (.int .i64 (IntKind.i64.wrap (v1 + 1)))) I I) I <| Ze ?_
      exact Zy (st' := ⟨[(0, (.sl 2 (a0.map Zi) false)), (1, (.sl 2 (a1.map Zi) false)), (2, (.clo 52 [])), (11, (.sl 2 (a0.map Zi) false)), (12, (.int .i64 (a0.length : Int))), (13, (.int .i64 (IntKind.i64.wrap (v1 + 1))))], []⟩) ⟨rfl, rfl, rfl, rfl, rfl, rfl, trivial⟩ trivial (IH2 _ (IntKind.i64.wrap (v1 + 1)) (Nat.lt_succ_self _) h)
   ·have h := hif.2 hc
    refine AWp.exit <| At.thru ?_
    exact Zy (st' := ⟨[(0, (.sl 2 (a0.map Zi) false)), (1, (.sl 2 (a1.map Zi) false))], []⟩) ⟨rfl, rfl, trivial⟩ trivial (J2 () h)
def F86 (K : Nat) (a0 : Zd) (a1 : Zd) : Option (Int) :=
 (F105 K [a0.Trace, a0.Id, a0.Revision, a0.Parent, a0.Clock, a0.Kind] [a1.Trace, a1.Id, a1.Revision, a1.Parent, a1.Clock, a1.Kind]).bind fun v2 =>
  (F106 K a0.Service a1.Service).bind fun v4 =>
   (F106 K a0.Version a1.Version).bind fun v6 =>
    (F106 K a0.Operation a1.Operation).bind fun v8 =>
     (F51 K a0.Start a1.Start).bind fun v10 =>
      (F51 K a0.End a1.End).bind fun v12 =>
       (F107 K a0.Error).bind fun v14 =>
        (F107 K a1.Error).bind fun v16 =>
         (F108 K a0.Attrs a1.Attrs).bind fun v18 =>
          (F109 K a0.Links a1.Links).bind fun v20 =>
           (F50 K [v2, v4, v6, v8, v10, v12, (IntKind.i64.wrap (v14 - v16)), v18, v20]).bind fun v22 =>
            some v22
theorem F86_ok (K : Nat) (a0 : Zd) (a1 : Zd) (r : Int) (h : F86 K a0 a1 = some r) : ACall P 86 ⟨[(Z4 a0), (Z4 a1)], [], (.int .i64 r), [], []⟩ := by
 refine Z1p Try.func86 Try.results86 rfl Try.ntmps86 rfl rfl rfl ?_
 intro E Q hP hN hro hret
 obtain ⟨P', nt', w0, F0, p0, S0, β0, ro0⟩ := E
 simp only at hP hN
 subst hP hN
 dsimp only [argT]
 unfold F86 at h
 refine Zg <| Zc <| Z2 I (Z2j (v := (Z4 a0)) (cs := (Z4 a0).cells) I I I I I) I <| Z2 I (Z2j (v := (Z4 a1)) (cs := (Z4 a1).cells) I I I I I) I <| Z2 I (Zk (v := (.int .i64 0)) I I) I <| Ze <| Zf <| Zg ?_
 refine Zc <| Z2 I (Zp (m := 2) (o := 0) I f38_0 I I) I <| Z2 I (Zv (cs := (Z4 a0).cells) (v := (.int .i64 a0.Trace)) I o3 I I I) I <| Z2 I (Zp (m := 2) (o := 0) I f38_1 I I) I <| Z2 I (Zv (cs := (Z4 a0).cells) (v := (.int .i64 a0.Id)) I o3 I I I) I <| Z2 I (Zp (m := 2) (o := 0) I f38_3 I I) I <| Z2 I (Zv (cs := (Z4 a0).cells) (v := (.int .i64 a0.Revision)) I o3 I I I) I <| Z2 I (Zp (m := 2) (o := 0) I f38_2 I I) I ?_
 refine Z2 I (Zv (cs := (Z4 a0).cells) (v := (.int .i64 a0.Parent)) I o3 I I I) I <| Z2 I (Zp (m := 2) (o := 0) I Z6y I I) I <| Z2 I (Zv (cs := (Z4 a0).cells) (v := (.int .i64 a0.Clock)) I o3 I I I) I <| Z2 I (Zp (m := 2) (o := 0) I f38_5 I I) I <| Z2 I (Zv (cs := (Z4 a0).cells) (v := (.int .i64 a0.Kind)) I o3 I I I) I <| Z2 I (Zcr (vs := [(0, (.int .i64 a0.Trace)), (1, (.int .i64 a0.Id)), (2, (.int .i64 a0.Revision)), (3, (.int .i64 a0.Parent)), (4, (.int .i64 a0.Clock)), (5, (.int .i64 a0.Kind))]) (cs := [(.int .i64 a0.Trace), (.int .i64 a0.Id), (.int .i64 a0.Revision), (.int .i64 a0.Parent), (.int .i64 a0.Clock), (.int .i64 a0.Kind)]) I ar157 ⟨rfl, rfl, rfl, rfl, rfl, rfl, rfl, rfl, rfl, rfl, rfl, rfl, trivial⟩ I) I <| Z2 I (Z1y (cs := [(.int .i64 0), (.int .i64 0), (.int .i64 0), (.int .i64 0), (.int .i64 0), (.int .i64 0)]) I z157 I I I) I <| Z2 I (Z1k (cs := [(.int .i64 0), (.int .i64 0), (.int .i64 0), (.int .i64 0), (.int .i64 0), (.int .i64 0)]) (vs := [(.int .i64 a0.Trace), (.int .i64 a0.Id), (.int .i64 a0.Revision), (.int .i64 a0.Parent), (.int .i64 a0.Clock), (.int .i64 a0.Kind)]) (ds := [(.int .i64 a0.Trace), (.int .i64 a0.Id), (.int .i64 a0.Revision), (.int .i64 a0.Parent), (.int .i64 a0.Clock), (.int .i64 a0.Kind)]) (v := (.ag [(.int .i64 a0.Trace), (.int .i64 a0.Id), (.int .i64 a0.Revision), (.int .i64 a0.Parent), (.int .i64 a0.Clock), (.int .i64 a0.Kind)])) sz157 I I I I I I I I) I ?_
 refine Ze <| Zf <| Zg <| Zc <| Z2 I (Zp (m := 3) (o := 0) I f38_0 I I) I <| Z2 I (Zv (cs := (Z4 a1).cells) (v := (.int .i64 a1.Trace)) I o3 I I I) I <| Z2 I (Zp (m := 3) (o := 0) I f38_1 I I) I <| Z2 I (Zv (cs := (Z4 a1).cells) (v := (.int .i64 a1.Id)) I o3 I I I) I ?_
 refine Z2 I (Zp (m := 3) (o := 0) I f38_3 I I) I <| Z2 I (Zv (cs := (Z4 a1).cells) (v := (.int .i64 a1.Revision)) I o3 I I I) I <| Z2 I (Zp (m := 3) (o := 0) I f38_2 I I) I <| Z2 I (Zv (cs := (Z4 a1).cells) (v := (.int .i64 a1.Parent)) I o3 I I I) I <| Z2 I (Zp (m := 3) (o := 0) I Z6y I I) I <| Z2 I (Zv (cs := (Z4 a1).cells) (v := (.int .i64 a1.Clock)) I o3 I I I) I <| Z2 I (Zp (m := 3) (o := 0) I f38_5 I I) I <| Z2 I (Zv (cs := (Z4 a1).cells) (v := (.int .i64 a1.Kind)) I o3 I I I) I ?_
 refine Z2 I (Zcr (vs := [(0, (.int .i64 a1.Trace)), (1, (.int .i64 a1.Id)), (2, (.int .i64 a1.Revision)), (3, (.int .i64 a1.Parent)), (4, (.int .i64 a1.Clock)), (5, (.int .i64 a1.Kind))]) (cs := [(.int .i64 a1.Trace), (.int .i64 a1.Id), (.int .i64 a1.Revision), (.int .i64 a1.Parent), (.int .i64 a1.Clock), (.int .i64 a1.Kind)]) I ar157 ⟨rfl, rfl, rfl, rfl, rfl, rfl, rfl, rfl, rfl, rfl, rfl, rfl, trivial⟩ I) I <| Z2 I (Z1y (cs := [(.int .i64 0), (.int .i64 0), (.int .i64 0), (.int .i64 0), (.int .i64 0), (.int .i64 0)]) I z157 I I I) I <| Z2 I (Z1k (cs := [(.int .i64 0), (.int .i64 0), (.int .i64 0), (.int .i64 0), (.int .i64 0), (.int .i64 0)]) (vs := [(.int .i64 a1.Trace), (.int .i64 a1.Id), (.int .i64 a1.Revision), (.int .i64 a1.Parent), (.int .i64 a1.Clock), (.int .i64 a1.Kind)]) (ds := [(.int .i64 a1.Trace), (.int .i64 a1.Id), (.int .i64 a1.Revision), (.int .i64 a1.Parent), (.int .i64 a1.Clock), (.int .i64 a1.Kind)]) (v := (.ag [(.int .i64 a1.Trace), (.int .i64 a1.Id), (.int .i64 a1.Revision), (.int .i64 a1.Parent), (.int .i64 a1.Clock), (.int .i64 a1.Kind)])) sz157 I I I I I I I I) I <| Ze <| Zf <| Zg <| AWp.ghost (st' := ⟨[(2, (.ptr 2 0)), (3, (.ptr 3 0)), (4, (.int .i64 0)), (5, (.ip [(.int .i64 a0.Trace), (.int .i64 a0.Id), (.int .i64 a0.Revision), (.int .i64 a0.Parent), (.int .i64 a0.Clock), (.int .i64 a0.Kind)])), (6, (.ptr 6 0))], [(2, (.box (Z4 a0).cells)), (3, (.box (Z4 a1).cells)), (6, (.box [(.int .i64 a1.Trace), (.int .i64 a1.Id), (.int .i64 a1.Revision), (.int .i64 a1.Parent), (.int .i64 a1.Clock), (.int .i64 a1.Kind)]))]⟩) (fun a w h => (Z1e ⟨[(2, (.ptr 2 0)), (3, (.ptr 3 0)), (4, (.int .i64 0)), (5, (.ip [(.int .i64 a0.Trace), (.int .i64 a0.Id), (.int .i64 a0.Revision), (.int .i64 a0.Parent), (.int .i64 a0.Clock), (.int .i64 a0.Kind)])), (6, (.ptr 6 0))], [(2, (.box (Z4 a0).cells)), (3, (.box (Z4 a1).cells)), (6, (.box [(.int .i64 a1.Trace), (.int .i64 a1.Id), (.int .i64 a1.Revision), (.int .i64 a1.Parent), (.int .i64 a1.Clock), (.int .i64 a1.Kind)]))]⟩ (Z38 (m := 5) (cs := [(.int .i64 a0.Trace), (.int .i64 a0.Id), (.int .i64 a0.Revision), (.int .i64 a0.Parent), (.int .i64 a0.Clock), (.int .i64 a0.Kind)]) I a w (Z1e ⟨[(2, (.ptr 2 0)), (3, (.ptr 3 0)), (4, (.int .i64 0)), (5, (.ptr 5 0)), (6, (.ptr 6 0))], [(5, (.box [(.int .i64 a0.Trace), (.int .i64 a0.Id), (.int .i64 a0.Revision), (.int .i64 a0.Parent), (.int .i64 a0.Clock), (.int .i64 a0.Kind)])), (2, (.box (Z4 a0).cells)), (3, (.box (Z4 a1).cells)), (6, (.box [(.int .i64 a1.Trace), (.int .i64 a1.Id), (.int .i64 a1.Revision), (.int .i64 a1.Parent), (.int .i64 a1.Clock), (.int .i64 a1.Kind)]))]⟩ h ⟨rfl, rfl, rfl, rfl, rfl, trivial⟩ ⟨rfl, rfl, rfl, rfl, trivial⟩)) ⟨rfl, rfl, rfl, rfl, rfl, trivial⟩ ⟨rfl, rfl, rfl, trivial⟩)) <| AWp.ghost (st' := ⟨[(2, (.ptr 2 0)), (3, (.ptr 3 0)), (4, (.int .i64 0)), (5, (.ip [(.int .i64 a0.Trace), (.int .i64 a0.Id), (.int .i64 a0.Revision), (.int .i64 a0.Parent), (.int .i64 a0.Clock), (.int .i64 a0.Kind)])), (6, (.ip [(.int .i64 a1.Trace), (.int .i64 a1.Id), (.int .i64 a1.Revision), (.int .i64 a1.Parent), (.int .i64 a1.Clock), (.int .i64 a1.Kind)]))], [(2, (.box (Z4 a0).cells)), (3, (.box (Z4 a1).cells))]⟩) (fun a w h => (Z1e ⟨[(2, (.ptr 2 0)), (3, (.ptr 3 0)), (4, (.int .i64 0)), (5, (.ip [(.int .i64 a0.Trace), (.int .i64 a0.Id), (.int .i64 a0.Revision), (.int .i64 a0.Parent), (.int .i64 a0.Clock), (.int .i64 a0.Kind)])), (6, (.ip [(.int .i64 a1.Trace), (.int .i64 a1.Id), (.int .i64 a1.Revision), (.int .i64 a1.Parent), (.int .i64 a1.Clock), (.int .i64 a1.Kind)]))], [(2, (.box (Z4 a0).cells)), (3, (.box (Z4 a1).cells))]⟩ (Z38 (m := 6) (cs := [(.int .i64 a1.Trace), (.int .i64 a1.Id), (.int .i64 a1.Revision), (.int .i64 a1.Parent), (.int .i64 a1.Clock), (.int .i64 a1.Kind)]) I a w (Z1e ⟨[(2, (.ptr 2 0)), (3, (.ptr 3 0)), (4, (.int .i64 0)), (5, (.ip [(.int .i64 a0.Trace), (.int .i64 a0.Id), (.int .i64 a0.Revision), (.int .i64 a0.Parent), (.int .i64 a0.Clock), (.int .i64 a0.Kind)])), (6, (.ptr 6 0))], [(6, (.box [(.int .i64 a1.Trace), (.int .i64 a1.Id), (.int .i64 a1.Revision), (.int .i64 a1.Parent), (.int .i64 a1.Clock), (.int .i64 a1.Kind)])), (2, (.box (Z4 a0).cells)), (3, (.box (Z4 a1).cells))]⟩ h ⟨rfl, rfl, rfl, rfl, rfl, trivial⟩ ⟨rfl, rfl, rfl, trivial⟩)) ⟨rfl, rfl, rfl, rfl, rfl, trivial⟩ ⟨rfl, rfl, trivial⟩)) ?_
 refine Z1n mixed <| Z8 0 I (st_sliceI (l := [a0.Trace, a0.Id, a0.Revision, a0.Parent, a0.Clock, a0.Kind]) (enc := Z1d) (cs := [(.int .i64 a0.Trace), (.int .i64 a0.Id), (.int .i64 a0.Revision), (.int .i64 a0.Parent), (.int .i64 a0.Clock), (.int .i64 a0.Kind)]) I u157 sz3 I I I I Z3g) <| Z8 1 I (st_sliceI (l := [a1.Trace, a1.Id, a1.Revision, a1.Parent, a1.Clock, a1.Kind]) (enc := Z1d) (cs := [(.int .i64 a1.Trace), (.int .i64 a1.Id), (.int .i64 a1.Revision), (.int .i64 a1.Parent), (.int .i64 a1.Clock), (.int .i64 a1.Kind)]) I u157 sz3 I I I I Z3g) ?_
 have ⟨v2, hv2, h⟩ := Z17 h
 refine Z8 2 I (Z15 (ar := [(.sl 1 ([a0.Trace, a0.Id, a0.Revision, a0.Parent, a0.Clock, a0.Kind].map Z1d) false), (.sl 1 ([a1.Trace, a1.Id, a1.Revision, a1.Parent, a1.Clock, a1.Kind].map Z1d) false)]) (caps := []) Try.call105 (F105_ok K [a0.Trace, a0.Id, a0.Revision, a0.Parent, a0.Clock, a0.Kind] [a1.Trace, a1.Id, a1.Revision, a1.Parent, a1.Clock, a1.Kind] v2 hv2) I I ⟨rfl, rfl, trivial⟩ I) <| Z8 3 I (Zp (m := 2) (o := 0) I f38_6 I I) <| Z8 4 I (Zv (cs := (Z4 a0).cells) (v := (.str a0.Service)) I o9 I I I) <| Z8 5 I (Zp (m := 3) (o := 0) I f38_6 I I) <| Z8 6 I (Zv (cs := (Z4 a1).cells) (v := (.str a1.Service)) I o9 I I I) ?_
 have ⟨v4, hv4, h⟩ := Z17 h
 refine Z8 7 I (Z15 (ar := [(.str a0.Service), (.str a1.Service)]) (caps := []) Try.call106 (Zb8 K a0.Service a1.Service v4 hv4) I I ⟨rfl, rfl, trivial⟩ I) <| Z8 8 I (Zp (m := 2) (o := 0) I f38_7 I I) <| Z8 9 I (Zv (cs := (Z4 a0).cells) (v := (.str a0.Version)) I o9 I I I) <| Z8 10 I (Zp (m := 3) (o := 0) I f38_7 I I) <| Z8 11 I (Zv (cs := (Z4 a1).cells) (v := (.str a1.Version)) I o9 I I I) ?_
 have ⟨v6, hv6, h⟩ := Z17 h
 refine Z8 12 I (Z15 (ar := [(.str a0.Version), (.str a1.Version)]) (caps := []) Try.call106 (Zb8 K a0.Version a1.Version v6 hv6) I I ⟨rfl, rfl, trivial⟩ I) <| Z8 13 I (Zp (m := 2) (o := 0) I f38_8 I I) <| Z8 14 I (Zv (cs := (Z4 a0).cells) (v := (.str a0.Operation)) I o9 I I I) <| Z8 15 I (Zp (m := 3) (o := 0) I f38_8 I I) <| Z8 16 I (Zv (cs := (Z4 a1).cells) (v := (.str a1.Operation)) I o9 I I I) ?_
 have ⟨v8, hv8, h⟩ := Z17 h
 refine Z8 17 I (Z15 (ar := [(.str a0.Operation), (.str a1.Operation)]) (caps := []) Try.call106 (Zb8 K a0.Operation a1.Operation v8 hv8) I I ⟨rfl, rfl, trivial⟩ I) <| Z8 18 I (Zp (m := 2) (o := 0) I Z9k I I) <| Z8 19 I (Zv (cs := (Z4 a0).cells) (v := (.int .i64 a0.Start)) I o3 I I I) <| Z8 20 I (Zp (m := 3) (o := 0) I Z9k I I) <| Z8 21 I (Zv (cs := (Z4 a1).cells) (v := (.int .i64 a1.Start)) I o3 I I I) ?_
 have ⟨v10, hv10, h⟩ := Z17 h
 refine Z8 22 I (Z15 (ar := [(.int .i64 a0.Start), (.int .i64 a1.Start)]) (caps := []) Try.call51 (Z4j K a0.Start a1.Start v10 hv10) I I ⟨rfl, rfl, trivial⟩ I) <| Z8 23 I (Zp (m := 2) (o := 0) I Z9e I I) <| Z8 24 I (Zv (cs := (Z4 a0).cells) (v := (.int .i64 a0.End)) I o3 I I I) <| Z8 25 I (Zp (m := 3) (o := 0) I Z9e I I) <| Z8 26 I (Zv (cs := (Z4 a1).cells) (v := (.int .i64 a1.End)) I o3 I I I) ?_
 have ⟨v12, hv12, h⟩ := Z17 h
 refine Z8 27 I (Z15 (ar := [(.int .i64 a0.End), (.int .i64 a1.End)]) (caps := []) Try.call51 (Z4j K a0.End a1.End v12 hv12) I I ⟨rfl, rfl, trivial⟩ I) <| Z8 28 I (Zp (m := 2) (o := 0) I f38_11 I I) <| Z8 29 I (Zv (cs := (Z4 a0).cells) (v := (.bool a0.Error)) I o4 I I I) ?_
 have ⟨v14, hv14, h⟩ := Z17 h
 refine Z8 30 I (Z15 (ar := [(.bool a0.Error)]) (caps := []) Try.call107 (F107_ok K a0.Error v14 hv14) I I ⟨rfl, trivial⟩ I) <| Z8 31 I (Zp (m := 3) (o := 0) I f38_11 I I) <| Z8 32 I (Zv (cs := (Z4 a1).cells) (v := (.bool a1.Error)) I o4 I I I) ?_
 have ⟨v16, hv16, h⟩ := Z17 h
 refine Z8 33 I (Z15 (ar := [(.bool a1.Error)]) (caps := []) Try.call107 (F107_ok K a1.Error v16 hv16) I I ⟨rfl, trivial⟩ I) <| Z8 34 I (Z1h (k := .i64) (a := v14) (b := v16) (c := (IntKind.i64.wrap (v14 - v16))) I I I I) <| Z8 35 I (Zp (m := 2) (o := 0) I Zc8 I I) <| Z8 36 I (Zv (cs := (Z4 a0).cells) (v := (.sl 4 (a0.Attrs.map Zu) false)) I o35 I I I) <| Z8 37 I (Zp (m := 3) (o := 0) I Zc8 I I) <| Z8 38 I (Zv (cs := (Z4 a1).cells) (v := (.sl 4 (a1.Attrs.map Zu) false)) I o35 I I I) ?_
 have ⟨v18, hv18, h⟩ := Z17 h
 refine Z8 39 I (Z15 (ar := [(.sl 4 (a0.Attrs.map Zu) false), (.sl 4 (a1.Attrs.map Zu) false)]) (caps := []) Try.call108 (F108_ok K a0.Attrs a1.Attrs v18 hv18) I I ⟨rfl, rfl, trivial⟩ I) <| Z8 40 I (Zp (m := 2) (o := 0) I Z6k I I) <| Z8 41 I (Zv (cs := (Z4 a0).cells) (v := (.sl 2 (a0.Links.map Zi) false)) I o36 I I I) <| Z8 42 I (Zp (m := 3) (o := 0) I Z6k I I) <| Z8 43 I (Zv (cs := (Z4 a1).cells) (v := (.sl 2 (a1.Links.map Zi) false)) I o36 I I I) ?_
 have ⟨v20, hv20, h⟩ := Z17 h
 refine Z8 44 I (Z15 (ar := [(.sl 2 (a0.Links.map Zi) false), (.sl 2 (a1.Links.map Zi) false), (.clo 52 [])]) (caps := []) Try.call109 (F109_ok K a0.Links a1.Links v20 hv20) I I ⟨rfl, rfl, rfl, trivial⟩ I) <| Z8 45 I (Z1f (vs := [(.int .i64 v2), (.int .i64 v4), (.int .i64 v6), (.int .i64 v8), (.int .i64 v10), (.int .i64 v12), (.int .i64 (IntKind.i64.wrap (v14 - v16))), (.int .i64 v18), (.int .i64 v20)]) (enc := Z1d) (l := [v2, v4, v6, v8, v10, v12, (IntKind.i64.wrap (v14 - v16)), v18, v20]) I el87 I I ⟨rfl, rfl, rfl, rfl, rfl, rfl, rfl, rfl, rfl, trivial⟩ I Z3g I I I I) ?_
 have ⟨v22, hv22, h⟩ := Z17 h
 refine Z8 46 I (Z7q (rd := [(78, (.vec 1 (List.map Z1d [v2, v4, v6, v8, v10, v12, (IntKind.i64.wrap (v14 - v16)), v18, v20])))]) (ar := [(.vs 78)]) (caps := []) Try.call50 (F50_ok K [v2, v4, v6, v8, v10, v12, (IntKind.i64.wrap (v14 - v16)), v18, v20] v22 hv22) I I ⟨rfl, trivial⟩ (Z6c ⟨rfl, trivial⟩) I I I) <| Z8 47 I (Zk (v := (.int .i64 v22)) I I) <| AOpsD.nil (by kernel_rfl) I <| Zf <| Z1c ?_
 have h := Option.some.inj h
 subst h
 refine (hret _ ?_).1
 exact ⟨[(.int .i64 v22)], ⟨rfl, trivial⟩, rfl, trivial⟩
def F84 (K : Nat) (a000 : (List Zd)) : Option ((List Zd)) :=
 (F102 K a000).bind fun v2 =>
  (sortF (fun a b => F86 K a b) v2).bind fun v4 =>
   some v4
theorem F84_ok (K : Nat) (a000 : (List Zd)) (r : (List Zd)) (h : F84 K a000 = some r) : ACall P 84 ⟨[(.clo 104 [(.ip [(.sl 14 (a000.map Z4) false)])]), (.clo 86 [])], [], .vs 4, [(4, .vec 14 (List.map Z4 r))], [4]⟩ := by
 refine Z1p Try.func84 Try.results84 rfl Try.ntmps84 rfl rfl rfl ?_
 intro E Q hP hN hro hret
 obtain ⟨P', nt', w0, F0, p0, S0, β0, ro0⟩ := E
 simp only at hP hN
 subst hP hN
 dsimp only [argT]
 unfold F84 at h
 refine Zg <| Zc <| Z2 I (Zk (v := (.sl 14 [] false)) I I) I <| Ze <| Zf <| Zg <| Zc <| Z2 I (Zh (v := (.clo 104 [(.ip [(.sl 14 (a000.map Z4) false)])])) I I) I ?_
 have ⟨v2, hv2, h⟩ := Z17 h
 refine Z2 I (Z65 (sz := 14) (es := (List.map Z4 v2)) (ar := [(.clo 104 [(.ip [(.sl 14 (a000.map Z4) false)])])]) (caps := []) Try.call102 ((F102_ok K a000 v2 hv2).sw 2 7) I I ⟨rfl, trivial⟩ I) I <| Z2 I (Zk (v := (.vs 7)) I I) I <| Ze <| Zf <| Zg <| Zc <| Z2 I (Zh (v := (.vs 7)) I I) I <| Z2 I (Zh (v := (.clo 86 [])) I I) I ?_
 have ⟨v4, hv4, h⟩ := Z17 h
 refine Z2 I (Z94 (d := some 10) (c := ⟨[(.vs 7), (.clo 86 [])], [(7, (.vec 14 (List.map Z4 v2)))], .tup [], [(7, .vec 14 (List.map Z4 v4))], []⟩) (ar := [(.vs 7), (.clo 86 [])]) (caps := []) (news := []) (forg := []) Try.call103 (sort_ok (n := 7) (enc := Z4) (l := v2) (caps := []) (c := (fun a b => F86 K a b)) sortC103 Try.call86 Z2f (fun _ => I) (fun a b m hm => F86_ok K a b m hm) hv4) I I ⟨rfl, rfl, trivial⟩ I ⟨rfl, trivial⟩ I) I <| Ze <| Zf <| Zg <| Zc <| Z2 I (Zh (v := (.vs 7)) I I) I <| Z2 I (Zk (v := (.vs 7)) I I) I <| Ze ?_
 refine Zf <| Z1c <| At.ghost (st' := ⟨[(4, (.vs 4))], [(4, (.vec 14 (List.map Z4 v4)))]⟩) (fun a w h => (Z1e ⟨[(4, (.vs 4))], [(4, (.vec 14 (List.map Z4 v4)))]⟩ (Z35 (a := 7) (b := 4) I I a w (Z1e ⟨[(4, (.vs 7))], [(7, (.vec 14 (List.map Z4 v4)))]⟩ h ⟨rfl, trivial⟩ ⟨rfl, trivial⟩)) ⟨rfl, trivial⟩ ⟨rfl, trivial⟩)) ?_
 have h := Option.some.inj h
 subst h
 refine (hret _ ?_).1
 exact ⟨[(.vs 4)], ⟨rfl, trivial⟩, rfl, ⟨rfl, trivial⟩⟩
def F87 (K : Nat) (a0 : Zd) (a1 : Zd) : Option (Bool) :=
 (F86 K a0 a1).bind fun v2 =>
  some (v2 == 0)
theorem F87_ok (K : Nat) (a0 : Zd) (a1 : Zd) (r : Bool) (h : F87 K a0 a1 = some r) : ACall P 87 ⟨[(Z4 a0), (Z4 a1)], [], (.bool r), [], []⟩ := by
 refine Z1p Try.func87 Try.results87 rfl Try.ntmps87 rfl rfl rfl ?_
 intro E Q hP hN hro hret
 obtain ⟨P', nt', w0, F0, p0, S0, β0, ro0⟩ := E
 simp only at hP hN
 subst hP hN
 dsimp only [argT]
 unfold F87 at h
 refine Zg <| Zc <| Z2 I (Z2j (v := (Z4 a0)) (cs := (Z4 a0).cells) I I I I I) I <| Z2 I (Z2j (v := (Z4 a1)) (cs := (Z4 a1).cells) I I I I I) I <| Z2 I (Zk (v := (.bool false)) I I) I <| Ze <| Zf <| Zg ?_
 refine Zc <| Z2 I (Z19 (cs := (Z4 a0).cells) (vs := (Z4 a0).cells) I a38 I I I I) I <| Z2 I (Z19 (cs := (Z4 a1).cells) (vs := (Z4 a1).cells) I a38 I I I I) I ?_
 have ⟨v2, hv2, h⟩ := Z17 h
 refine Z2 I (Z15 (ar := [(Z4 a0), (Z4 a1)]) (caps := []) Try.call86 (F86_ok K a0 a1 v2 hv2) I I ⟨rfl, rfl, trivial⟩ I) I <| Z2 I (Z1q (k := .i64) (a := v2) (b := 0) (c := (v2 == 0)) I I I I) I <| Z2 I (Zk (v := (.bool (v2 == 0))) I I) I <| Ze <| Zf <| Z1c ?_
 have h := Option.some.inj h
 subst h
 refine (hret _ ?_).1
 exact ⟨[(.bool (v2 == 0))], ⟨rfl, trivial⟩, rfl, trivial⟩
def F83_c3 (K : Nat) (a0 : (List Zd)) : Option ((List Zd)) :=
 some a0
def Z5q (K : Nat) (v18 : Int) (v19 : (List Zd)) : Option ((List Zd)) :=
 if (0 : Int) ≤ v18 ∧ v18 ≤ (v19.length : Int) ∧ (v19.length : Int) ≤ (v19.length : Nat) then
  if (0 + v18.toNat) + ((v19.length : Int).toNat - v18.toNat) ≤ v19.length then
   if (0 + v18.toNat) + ((v19.length : Int).toNat - v18.toNat) ≤ v19.length then
    if (0 : Int) ≤ 0 ∧ 0 ≤ v18 ∧ v18 ≤ ((v19.take (0 + v18.toNat) ++ List.replicate ((v19.length : Int).toNat - v18.toNat) Z1 ++ v19.drop ((0 + v18.toNat) + ((v19.length : Int).toNat - v18.toNat))).length : Nat) then
     if (0 + (0 : Int).toNat) + (v18.toNat - (0 : Int).toNat) ≤ (v19.take (0 + v18.toNat) ++ List.replicate ((v19.length : Int).toNat - v18.toNat) Z1 ++ v19.drop ((0 + v18.toNat) + ((v19.length : Int).toNat - v18.toNat))).length then
      some (((v19.take (0 + v18.toNat) ++ List.replicate ((v19.length : Int).toNat - v18.toNat) Z1 ++ v19.drop ((0 + v18.toNat) + ((v19.length : Int).toNat - v18.toNat))).drop (0 + (0 : Int).toNat)).take (v18.toNat - (0 : Int).toNat))
     else none
    else none
   else none
  else none
 else none
def Z8u (K : Nat) (b27 : Int → Int → (List Zd) → Option ((List Zd))) (v15 : Int) (v37 : Int) (v38 : (List Zd)) : Option ((List Zd)) :=
 b27 v37 (IntKind.i64.wrap (v15 + 1)) v38
def Z4z (K : Nat) (v1 : Int) (a0 : (List Zd)) (c21 : Int → (List Zd) → Option ((List Zd))) : Nat → Int → Int → (List Zd) → Option ((List Zd))
 | 0, _, _, _ => none
 | k17 + 1, v14, v15, v16 =>
  if (0 + v1.toNat) + ((a0.length : Int).toNat - v1.toNat) ≤ v16.length then
   if (decide (v15 < ((((a0.length : Int).toNat - v1.toNat) : Nat) : Int))) = true then
    if (0 + v1.toNat) + ((a0.length : Int).toNat - v1.toNat) ≤ v16.length then
     if (0 : Int) ≤ v15 ∧ v15 < (((a0.length : Int).toNat - v1.toNat) : Nat) then
      if ((0 + v1.toNat) + v15.toNat) < v16.length then
       if (0 + v1.toNat) + ((a0.length : Int).toNat - v1.toNat) ≤ v16.length then
        if (0 : Int) ≤ (IntKind.i64.wrap (v15 - 1)) ∧ (IntKind.i64.wrap (v15 - 1)) < (((a0.length : Int).toNat - v1.toNat) : Nat) then
         if ((0 + v1.toNat) + (IntKind.i64.wrap (v15 - 1)).toNat) < v16.length then
          (F87 K (v16.getD ((0 + v1.toNat) + v15.toNat) Z1) (v16.getD ((0 + v1.toNat) + (IntKind.i64.wrap (v15 - 1)).toNat) Z1)).bind fun v36 =>
           if (!v36) = true then
            if (0 + v1.toNat) + ((a0.length : Int).toNat - v1.toNat) ≤ v16.length then
             if (0 : Int) ≤ v15 ∧ v15 < (((a0.length : Int).toNat - v1.toNat) : Nat) then
              if ((0 + v1.toNat) + v15.toNat) < v16.length then
               if (0 : Int) ≤ v14 ∧ v14 < (v16.length : Nat) then
                if v14.toNat < v16.length then
                 Z8u K (Z4z K v1 a0 c21 k17) v15 (IntKind.i64.wrap (v14 + 1)) (v16.set v14.toNat (v16.getD ((0 + v1.toNat) + v15.toNat) Z1))
                else none
               else none
              else none
             else none
            else none
           else
            Z8u K (Z4z K v1 a0 c21 k17) v15 v14 v16
         else none
        else none
       else none
      else none
     else none
    else none
   else
    c21 v14 v16
  else none
def Za5 (K : Nat) (a0 : (List Zd)) (c4 : Option ((List Zd))) : Nat → Int → Option ((List Zd))
 | 0, _ => none
 | k2 + 1, v1 =>
  if (decide (v1 < (a0.length : Int))) = true then
   if (0 : Int) ≤ v1 ∧ v1 < (a0.length : Nat) then
    if v1.toNat < a0.length then
     if (0 : Int) ≤ (IntKind.i64.wrap (v1 - 1)) ∧ (IntKind.i64.wrap (v1 - 1)) < (a0.length : Nat) then
      if (IntKind.i64.wrap (v1 - 1)).toNat < a0.length then
       (F87 K (a0.getD v1.toNat Z1) (a0.getD (IntKind.i64.wrap (v1 - 1)).toNat Z1)).bind fun v11 =>
        if v11 = true then
         if (0 : Int) ≤ v1 ∧ v1 ≤ (a0.length : Int) ∧ (a0.length : Int) ≤ (a0.length : Nat) then
          if (0 + v1.toNat) + ((a0.length : Int).toNat - v1.toNat) ≤ a0.length then
           Z4z K v1 a0 (Z5q K) K v1 1 a0
          else none
         else none
        else
         (Za5 K a0 c4 k2) (IntKind.i64.wrap (v1 + 1))
      else none
     else none
    else none
   else none
  else
   c4
def F83 (K : Nat) (a0 : (List Zd)) : Option ((List Zd)) :=
 if (decide ((a0.length : Int) < 2)) = true then
  some a0
 else
  Za5 K a0 (F83_c3 K a0) K 1
theorem F83_ok (K : Nat) (a0 : (List Zd)) (r : (List Zd)) (h : F83 K a0 = some r) : ACall P 83 ⟨[(.vs 0), (.clo 87 [])], [(0, .vec 14 (List.map Z4 a0))], .vs 0, [(0, .vec 14 (List.map Z4 r))], [0]⟩ := by
 refine Z1p Try.func83 Try.results83 rfl Try.ntmps83 rfl rfl rfl ?_
 intro E Q hP hN hro hret
 obtain ⟨P', nt', w0, F0, p0, S0, β0, ro0⟩ := E
 simp only at hP hN
 subst hP hN
 dsimp only [argT]
 unfold F83 at h
 refine Zg <| Zc <| Z2 I (Zk (v := (.sl 14 [] false)) I I) I <| Ze <| Zf <| Zg <| Zg <| Zc ?_
 refine Z2 I (Zh (v := (.vs 0)) I I) I <| Z2 I (Z3l (l := a0) (enc := Z4) I u33 I I) I <| Z2 I (Z1q (k := .i64) (a := (a0.length : Int)) (b := 2) (c := (decide ((a0.length : Int) < 2))) I I I I) I <| Ze <| Zf ?_
 have hif := Z1u h
 refine Z14 I (fun hc => ?_) (fun hc => ?_)
 ·have h := hif.1 hc
  refine Zg <| Zc <| Z2 I (Zh (v := (.vs 0)) I I) I <| Z2 I (Zk (v := (.vs 0)) I I) I <| Ze <| Zf <| Z1c <| Z1i ?_
  have h := Option.some.inj h
  subst h
  refine (hret _ ?_).1
  exact ⟨[(.vs 0)], ⟨rfl, trivial⟩, rfl, ⟨rfl, trivial⟩⟩
 ·have h := hif.2 hc
  refine Z16 <| Zf <| Zg <| Zg <| Zc <| Z2 I (Zk (v := (.int .i64 1)) I I) I <| Ze <| Zf ?_
  refine AWp.weaken (st' := ⟨[(0, (.vs 0)), (1, (.clo 87 [])), (5, (.int .i64 1))], [(0, (.vec 14 (List.map Z4 a0)))]⟩) ⟨rfl, rfl, rfl, trivial⟩ ⟨rfl, trivial⟩ ?_
  refine Z1l (V := Int) (X := Unit) (lp := fun k v => Za5 K a0 (F83_c3 K a0) k v = some r) (sh := fun v => ⟨[(0, (.vs 0)), (1, (.clo 87 [])), (5, (.int .i64 v))], [(0, (.vec 14 (List.map Z4 a0)))]⟩) (x := fun v => F83_c3 K a0 = some r) (shx := fun v => ⟨[(0, (.vs 0))], [(0, (.vec 14 (List.map Z4 a0)))]⟩) (k := K) (v := 1) h ?_ ?_
  ·intro v h
   try dsimp only at h ⊢
   unfold F83_c3 at h
   refine Zf <| Zg <| Zc <| Z2 I (Zh (v := (.vs 0)) I I) I <| Z2 I (Zk (v := (.vs 0)) I I) I <| Ze <| Zf <| Z1c ?_
   have h := Option.some.inj h
   subst h
   refine (hret _ ?_).1
   exact ⟨[(.vs 0)], ⟨rfl, trivial⟩, rfl, ⟨rfl, trivial⟩⟩
  ·intro N k2 v h IH2 J2
   revert h
   revert v
   intro v1 h
   try dsimp only at h IH2 J2 ⊢
   cases k2 with
   | zero => cases h
   | succ k2 =>
    rw [Za5] at h
    refine Zg <| Zg <| Zc <| Z2 I (Zh (v := (.int .i64 v1)) I I) I <| Z2 I (Zh (v := (.vs 0)) I I) I <| Z2 I (Z3l (l := a0) (enc := Z4) I u33 I I) I <| Z2 I (Z1q (k := .i64) (a := v1) (b := (a0.length : Int)) (c := (decide (v1 < (a0.length : Int)))) I I I I) I <| Ze ?_
    refine Zf ?_
    have hif := Z1u h
    refine Z14 I (fun hc => ?_) (fun hc => ?_)
    ·have h := hif.1 hc
     refine Z16 <| Zf <| Zg <| AWp.block <| Zg <| Z1n mixed <| Z8 0 I (Zh (v := (.clo 87 [])) I I) <| Z8 1 I (Zh (v := (.vs 0)) I I) ?_
     refine Z8 2 I (Zh (v := (.int .i64 v1)) I I) ?_
     have ⟨hg6, h⟩ := Zw h
     refine Z8 3 I (Z23 (k := .i64) (v := (.vs 0)) (n := 0) (off := 0) (len := a0.length) (es := (List.map Z4 a0)) (j := v1) (m := v1.toNat) I s33 I I (Z20 _ _ _) I hg6 (Nat.zero_add _)) ?_
     have ⟨hg7, h⟩ := Zw h
     refine Z8 4 I (Z2r (l := a0) (enc := Z4) (z := Z1) (vs := (Z4 (a0.getD v1.toNat Z1)).cells) I a38 I I hg7 I I) <| Z8 5 I (Zh (v := (.vs 0)) I I) <| Z8 6 I (Zh (v := (.int .i64 v1)) I I) <| Z8 7 I (Z1h (k := .i64) (a := v1) (b := 1) (c := (IntKind.i64.wrap (v1 - 1))) I I I I) ?_
     have ⟨hg8, h⟩ := Zw h
     refine Z8 8 I (Z23 (k := .i64) (v := (.vs 0)) (n := 0) (off := 0) (len := a0.length) (es := (List.map Z4 a0)) (j := (IntKind.i64.wrap (v1 - 1))) (m := (IntKind.i64.wrap (v1 - 1)).toNat) I s33 I I (Z20 _ _ _) I hg8 (Nat.zero_add _)) ?_
     have ⟨hg9, h⟩ := Zw h
     refine Z8 9 I (Z2r (l := a0) (enc := Z4) (z := Z1) (vs := (Z4 (a0.getD (IntKind.i64.wrap (v1 - 1)).toNat Z1)).cells) I a38 I I hg9 I I) ?_
     have ⟨v11, hv11, h⟩ := Z17 h
     refine Z8 10 I (Z15 (ar := [(Z4 (a0.getD v1.toNat Z1)), (Z4 (a0.getD (IntKind.i64.wrap (v1 - 1)).toNat Z1))]) (caps := []) Try.call87 (F87_ok K (a0.getD v1.toNat Z1) (a0.getD (IntKind.i64.wrap (v1 - 1)).toNat Z1) v11 hv11) I I ⟨rfl, rfl, trivial⟩ I) <| AOpsD.nil (by kernel_rfl) I <| Zf ?_
     have hif := Z1u h
     refine Z14 I (fun hc => ?_) (fun hc => ?_)
     ·have h := hif.1 hc
      refine Zg <| Zc <| Z2 I (Zh (v := (.vs 0)) I I) I <| Z2 I (Zh (v := (.int .i64 v1)) I I) I ?_
      have ⟨hg12, h⟩ := Zw h
      have ⟨hg13, h⟩ := Zw h
      refine Z2 I (Z36 (v := (.vs 0)) (n := 0) (off := 0) (len := a0.length) (l := a0) (enc := Z4) (kl := .i64) (lo := v1) I s33 I I (Z20 _ _ _) I hg12 I) I <| Z2 I (Zk (v := (.vsub 0 (0 + v1.toNat) ((a0.length : Int).toNat - v1.toNat) false)) I I) I <| Ze <| Zf <| Zg <| Zg <| Zc <| Z2 I (Zk (v := (.int .i64 1)) I I) I ?_
      refine Ze <| Zf <| AWp.weaken (st' := ⟨[(0, (.vs 0)), (1, (.clo 87 [])), (5, (.int .i64 v1)), (6, (.vsub 0 (0 + v1.toNat) ((a0.length : Int).toNat - v1.toNat) false)), (7, (.int .i64 1))], [(0, (.vec 14 (List.map Z4 a0)))]⟩) ⟨rfl, rfl, rfl, rfl, rfl, trivial⟩ ⟨rfl, trivial⟩ ?_
      refine Z1l (V := Int × Int × (List Zd)) (X := Int × (List Zd)) (lp := fun k v => Z4z K v1 a0 (Z5q K) k v.1 v.2.1 v.2.2 = some r) (sh := fun v => ⟨[(0, (.vs 0)), (1, (.clo 87 [])), (5, (.int .i64 v.1)), (6, (.vsub 0 (0 + v1.toNat) ((a0.length : Int).toNat - v1.toNat) false)), (7, (.int .i64 v.2.1))], [(0, (.vec 14 (List.map Z4 v.2.2)))]⟩) (x := fun v => Z5q K v.1 v.2 = some r) (shx := fun v => ⟨[(0, (.vs 0)), (5, (.int .i64 v.1))], [(0, (.vec 14 (List.map Z4 v.2)))]⟩) (k := K) (v := (v1, 1, a0)) h ?_ ?_
      ·intro v h
       obtain ⟨v18, v19⟩ := v
       try dsimp only at h ⊢
       unfold Z5q at h
       refine Zf <| Zg <| Zc <| Z2 I (Zh (v := (.vs 0)) I I) I <| Z2 I (Zh (v := (.int .i64 v18)) I I) I ?_
       have ⟨hg22, h⟩ := Zw h
       have ⟨hg23, h⟩ := Zw h
       refine Z2 I (Z36 (v := (.vs 0)) (n := 0) (off := 0) (len := v19.length) (l := v19) (enc := Z4) (kl := .i64) (lo := v18) I s33 I I (Z20 _ _ _) I hg22 I) I ?_
       have ⟨hg24, h⟩ := Zw h
       refine Z2 I (st_clear (v := (.vsub 0 (0 + v18.toNat) ((v19.length : Int).toNat - v18.toNat) false)) (n := 0) (off := (0 + v18.toNat)) (len := ((v19.length : Int).toNat - v18.toNat)) (l := v19) (enc := Z4) el33 ze38 I I I (Z3k hg24) Z2f) I <| Ze <| Zf <| Zg <| Zc <| Z2 I (Zh (v := (.vs 0)) I I) I <| Z2 I (Zh (v := (.int .i64 v18)) I I) I ?_
       have ⟨hg25, h⟩ := Zw h
       have ⟨hg26, h⟩ := Zw h
       refine Z2 I (Z4x (v := (.vs 0)) (n := 0) (off := 0) (len := (v19.take (0 + v18.toNat) ++ List.replicate ((v19.length : Int).toNat - v18.toNat) Z1 ++ v19.drop ((0 + v18.toNat) + ((v19.length : Int).toNat - v18.toNat))).length) (l := (v19.take (0 + v18.toNat) ++ List.replicate ((v19.length : Int).toNat - v18.toNat) Z1 ++ v19.drop ((0 + v18.toNat) + ((v19.length : Int).toNat - v18.toNat)))) (enc := Z4) (kh := .i64) (hi := v18) I s33 I I (Z20 _ _ _) I hg25 I) I <| Z2 I (Zk (v := (.vsub 0 (0 + (0 : Int).toNat) (v18.toNat - (0 : Int).toNat) false)) I I) I <| Ze <| Zf <| Z1c <| At.overR <| Z1i ?_
       refine Z1i (At.overR ?_)
       refine Z1i <| At.ghost (st' := ⟨[(4, (.vs 0))], [(0, (.vec 14 (List.map Z4 (((v19.take (0 + v18.toNat) ++ List.replicate ((v19.length : Int).toNat - v18.toNat) Z1 ++ v19.drop ((0 + v18.toNat) + ((v19.length : Int).toNat - v18.toNat))).drop (0 + (0 : Int).toNat)).take (v18.toNat - (0 : Int).toNat)))))]⟩) (fun a w h => (Z1e ⟨[(4, (.vs 0))], [(0, (.vec 14 (List.map Z4 (((v19.take (0 + v18.toNat) ++ List.replicate ((v19.length : Int).toNat - v18.toNat) Z1 ++ v19.drop ((0 + v18.toNat) + ((v19.length : Int).toNat - v18.toNat))).drop (0 + (0 : Int).toNat)).take (v18.toNat - (0 : Int).toNat)))))]⟩ (Z9t (k := 4) (m := 0) (sz := 14) (off := (0 + (0 : Int).toNat)) (len := (v18.toNat - (0 : Int).toNat)) (enc := Z4) (l := (v19.take (0 + v18.toNat) ++ List.replicate ((v19.length : Int).toNat - v18.toNat) Z1 ++ v19.drop ((0 + v18.toNat) + ((v19.length : Int).toNat - v18.toNat)))) I hg26 a w (Z1e ⟨[(4, (.vsub 0 (0 + (0 : Int).toNat) (v18.toNat - (0 : Int).toNat) false))], [(0, (.vec 14 (List.map Z4 (v19.take (0 + v18.toNat) ++ List.replicate ((v19.length : Int).toNat - v18.toNat) Z1 ++ v19.drop ((0 + v18.toNat) + ((v19.length : Int).toNat - v18.toNat))))))]⟩ h ⟨rfl, trivial⟩ ⟨rfl, trivial⟩)) ⟨rfl, trivial⟩ ⟨rfl, trivial⟩)) ?_
       have h := Option.some.inj h
       subst h
       refine (hret _ ?_).1
       exact ⟨[(.vs 0)], ⟨rfl, trivial⟩, rfl, ⟨rfl, trivial⟩⟩
      ·intro N k17 v h IH17 J17
       obtain ⟨v14, v15, v16⟩ := v
       try dsimp only at h IH17 J17 ⊢
       cases k17 with
       | zero => cases h
       | succ k17 =>
        rw [Z4z] at h
        refine Zg <| Zg <| Zc <| Z2 I (Zh (v := (.int .i64 v15)) I I) I <| Z2 I (Zh (v := (.vsub 0 (0 + v1.toNat) ((a0.length : Int).toNat - v1.toNat) false)) I I) I ?_
        have ⟨hg28, h⟩ := Zw h
        refine Z2 I (stx_lenVS (v := (.vsub 0 (0 + v1.toNat) ((a0.length : Int).toNat - v1.toNat) false)) (n := 0) (off := (0 + v1.toNat)) (len := ((a0.length : Int).toNat - v1.toNat)) (l := v16) (enc := Z4) I u33 I I (Z3k hg28)) I <| Z2 I (Z1q (k := .i64) (a := v15) (b := ((((a0.length : Int).toNat - v1.toNat) : Nat) : Int)) (c := (decide (v15 < ((((a0.length : Int).toNat - v1.toNat) : Nat) : Int)))) I I I I) I <| Ze <| Zf ?_
        have hif := Z1u h
        refine Z14 I (fun hc => ?_) (fun hc => ?_)
        ·have h := hif.1 hc
         refine Z16 <| Zf <| Zg <| AWp.block <| Zg <| Z1n mixed <| Z8 0 I (Zh (v := (.clo 87 [])) I I) <| Z8 1 I (Zh (v := (.vsub 0 (0 + v1.toNat) ((a0.length : Int).toNat - v1.toNat) false)) I I) ?_
         refine Z8 2 I (Zh (v := (.int .i64 v15)) I I) ?_
         have ⟨hg29, h⟩ := Zw h
         have ⟨hg30, h⟩ := Zw h
         refine Z8 3 I (Z23 (k := .i64) (v := (.vsub 0 (0 + v1.toNat) ((a0.length : Int).toNat - v1.toNat) false)) (n := 0) (off := (0 + v1.toNat)) (len := ((a0.length : Int).toNat - v1.toNat)) (es := (List.map Z4 v16)) (j := v15) (m := ((0 + v1.toNat) + v15.toNat)) I s33 I I (Z3k hg29) I hg30 (I)) ?_
         have ⟨hg31, h⟩ := Zw h
         refine Z8 4 I (Z2r (l := v16) (enc := Z4) (z := Z1) (vs := (Z4 (v16.getD ((0 + v1.toNat) + v15.toNat) Z1)).cells) I a38 I I hg31 I I) <| Z8 5 I (Zh (v := (.vsub 0 (0 + v1.toNat) ((a0.length : Int).toNat - v1.toNat) false)) I I) <| Z8 6 I (Zh (v := (.int .i64 v15)) I I) <| Z8 7 I (Z1h (k := .i64) (a := v15) (b := 1) (c := (IntKind.i64.wrap (v15 - 1))) I I I I) ?_
         have ⟨hg32, h⟩ := Zw h
         have ⟨hg33, h⟩ := Zw h
         refine Z8 8 I (Z23 (k := .i64) (v := (.vsub 0 (0 + v1.toNat) ((a0.length : Int).toNat - v1.toNat) false)) (n := 0) (off := (0 + v1.toNat)) (len := ((a0.length : Int).toNat - v1.toNat)) (es := (List.map Z4 v16)) (j := (IntKind.i64.wrap (v15 - 1))) (m := ((0 + v1.toNat) + (IntKind.i64.wrap (v15 - 1)).toNat)) I s33 I I (Z3k hg32) I hg33 (I)) ?_
         have ⟨hg34, h⟩ := Zw h
         refine Z8 9 I (Z2r (l := v16) (enc := Z4) (z := Z1) (vs := (Z4 (v16.getD ((0 + v1.toNat) + (IntKind.i64.wrap (v15 - 1)).toNat) Z1)).cells) I a38 I I hg34 I I) ?_
         have ⟨v36, hv36, h⟩ := Z17 h
         refine Z8 10 I (Z15 (ar := [(Z4 (v16.getD ((0 + v1.toNat) + v15.toNat) Z1)), (Z4 (v16.getD ((0 + v1.toNat) + (IntKind.i64.wrap (v15 - 1)).toNat) Z1))]) (caps := []) Try.call87 (F87_ok K (v16.getD ((0 + v1.toNat) + v15.toNat) Z1) (v16.getD ((0 + v1.toNat) + (IntKind.i64.wrap (v15 - 1)).toNat) Z1) v36 hv36) I I ⟨rfl, rfl, trivial⟩ I) <| Z8 11 I (Z7z (b := v36) I I) <| AOpsD.nil (by kernel_rfl) I <| Zf ?_
         refine AWp.join (V := Int × (List Zd)) (lp := fun v => Z8u K (Z4z K v1 a0 (Z5q K) k17) v15 v.1 v.2 = some r) (sh := fun v => ⟨[(0, (.vs 0)), (1, (.clo 87 [])), (5, (.int .i64 v.1)), (6, (.vsub 0 (0 + v1.toNat) ((a0.length : Int).toNat - v1.toNat) false)), (7, (.int .i64 v15))], [(0, (.vec 14 (List.map Z4 v.2)))]⟩) ?_ ?_
         ·intro v h
          obtain ⟨v37, v38⟩ := v
          try dsimp only at h ⊢
          unfold Z8u at h
          refine At.end <| Zf <| Zc <| Z2 I (Zh (v := (.int .i64 v15)) I I) I <| Z2 I (Z1h (k := .i64) (a := v15) (b := 1) (c := (IntKind.i64.wrap (v15 + 1))) I I I I) I <| Z2 I (Zk (v := (.int .i64 (IntKind.i64.wrap (v15 + 1)))) I I) I <| Ze ?_
          exact Zy (st' := ⟨[(0, (.vs 0)), (1, (.clo 87 [])), (5, (.int .i64 v37)), (6, (.vsub 0 (0 + v1.toNat) ((a0.length : Int).toNat - v1.toNat) false)), (7, (.int .i64 (IntKind.i64.wrap (v15 + 1))))], [(0, (.vec 14 (List.map Z4 v38)))]⟩) ⟨rfl, rfl, rfl, rfl, rfl, trivial⟩ ⟨rfl, trivial⟩ (IH17 _ (v37, (IntKind.i64.wrap (v15 + 1)), v38) (Nat.lt_succ_self _) h)
         ·intro J39
          have hif := Z1u h
          refine Z14 I (fun hc => ?_) (fun hc => ?_)
          ·have h := hif.1 hc
           refine Zg <| Zc <| Z2 I (Zh (v := (.vs 0)) I I) I <| Z2 I (Zh (v := (.int .i64 v14)) I I) I <| Z2 I (Zh (v := (.vsub 0 (0 + v1.toNat) ((a0.length : Int).toNat - v1.toNat) false)) I I) I <| Z2 I (Zh (v := (.int .i64 v15)) I I) I ?_
           have ⟨hg40, h⟩ := Zw h
           have ⟨hg41, h⟩ := Zw h
           refine Z2 I (Z23 (k := .i64) (v := (.vsub 0 (0 + v1.toNat) ((a0.length : Int).toNat - v1.toNat) false)) (n := 0) (off := (0 + v1.toNat)) (len := ((a0.length : Int).toNat - v1.toNat)) (es := (List.map Z4 v16)) (j := v15) (m := ((0 + v1.toNat) + v15.toNat)) I s33 I I (Z3k hg40) I hg41 (I)) I ?_
           have ⟨hg42, h⟩ := Zw h
           refine Z2 I (Z2r (l := v16) (enc := Z4) (z := Z1) (vs := (Z4 (v16.getD ((0 + v1.toNat) + v15.toNat) Z1)).cells) I a38 I I hg42 I I) I ?_
           have ⟨hg43, h⟩ := Zw h
           refine Z2 I (Z23 (k := .i64) (v := (.vs 0)) (n := 0) (off := 0) (len := v16.length) (es := (List.map Z4 v16)) (j := v14) (m := v14.toNat) I s33 I I (Z20 _ _ _) I hg43 (Nat.zero_add _)) I ?_
           have ⟨hg44, h⟩ := Zw h
           refine Z2 I (Z86 (l := v16) (enc := Z4) (z := Z1) (a := (v16.getD ((0 + v1.toNat) + v15.toNat) Z1)) (v := (Z4 (v16.getD ((0 + v1.toNat) + v15.toNat) Z1))) Zcl I I hg44 I Z2f I I I I) I <| Ze <| Zf <| Zc <| Z2 I (Zh (v := (.int .i64 v14)) I I) I <| Z2 I (Z1h (k := .i64) (a := v14) (b := 1) (c := (IntKind.i64.wrap (v14 + 1))) I I I I) I <| Z2 I (Zk (v := (.int .i64 (IntKind.i64.wrap (v14 + 1)))) I I) I <| Ze ?_
           exact Zy (st' := ⟨[(0, (.vs 0)), (1, (.clo 87 [])), (5, (.int .i64 (IntKind.i64.wrap (v14 + 1)))), (6, (.vsub 0 (0 + v1.toNat) ((a0.length : Int).toNat - v1.toNat) false)), (7, (.int .i64 v15))], [(0, (.vec 14 (List.map Z4 (v16.set v14.toNat (v16.getD ((0 + v1.toNat) + v15.toNat) Z1)))))]⟩) ⟨rfl, rfl, rfl, rfl, rfl, trivial⟩ ⟨rfl, trivial⟩ (J39 ((IntKind.i64.wrap (v14 + 1)), (v16.set v14.toNat (v16.getD ((0 + v1.toNat) + v15.toNat) Z1))) h)
          ·have h := hif.2 hc
           refine Z16 ?_
           exact Zy (st' := ⟨[(0, (.vs 0)), (1, (.clo 87 [])), (5, (.int .i64 v14)), (6, (.vsub 0 (0 + v1.toNat) ((a0.length : Int).toNat - v1.toNat) false)), (7, (.int .i64 v15))], [(0, (.vec 14 (List.map Z4 v16)))]⟩) ⟨rfl, rfl, rfl, rfl, rfl, trivial⟩ ⟨rfl, trivial⟩ (J39 (v14, v16) h)
        ·have h := hif.2 hc
         refine AWp.exit <| At.thru ?_
         exact Zy (st' := ⟨[(0, (.vs 0)), (5, (.int .i64 v14))], [(0, (.vec 14 (List.map Z4 v16)))]⟩) ⟨rfl, rfl, trivial⟩ ⟨rfl, trivial⟩ (J17 (v14, v16) h)
     ·have h := hif.2 hc
      refine Z16 <| At.end <| Zf <| Zc <| Z2 I (Zh (v := (.int .i64 v1)) I I) I <| Z2 I (Z1h (k := .i64) (a := v1) (b := 1) (c := (IntKind.i64.wrap (v1 + 1))) I I I I) I <| Z2 I (Zk (v := (.int .i64 (IntKind.i64.wrap (v1 + 1)))) I I) I <| Ze ?_
      exact Zy (st' := ⟨[(0, (.vs 0)), (1, (.clo 87 [])), (5, (.int .i64 (IntKind.i64.wrap (v1 + 1))))], [(0, (.vec 14 (List.map Z4 a0)))]⟩) ⟨rfl, rfl, rfl, trivial⟩ ⟨rfl, trivial⟩ (IH2 _ (IntKind.i64.wrap (v1 + 1)) (Nat.lt_succ_self _) h)
    ·have h := hif.2 hc
     refine AWp.exit <| At.thru ?_
     exact Zy (st' := ⟨[(0, (.vs 0))], [(0, (.vec 14 (List.map Z4 a0)))]⟩) ⟨rfl, trivial⟩ ⟨rfl, trivial⟩ (J2 () h)
def F72 (K : Nat) (a0 : (List Zd)) : Option ((List Zd)) :=
 (F85 K a0).bind fun v2 =>
  (F84 K v2).bind fun v4 =>
   (F83 K v4).bind fun v6 =>
    some v6
theorem F72_ok (K : Nat) (a0 : (List Zd)) (r : (List Zd)) (h : F72 K a0 = some r) : ACall P 72 ⟨[(.sl 14 (a0.map Z4) false)], [], (.sl 14 (r.map Z4) false), [], []⟩ := by
 refine Z1p Try.func72 Try.results72 rfl Try.ntmps72 rfl rfl rfl ?_
 intro E Q hP hN hro hret
 obtain ⟨P', nt', w0, F0, p0, S0, β0, ro0⟩ := E
 simp only at hP hN
 subst hP hN
 dsimp only [argT]
 unfold F72 at h
 refine Zg <| Zc <| Z2 I (Zk (v := (.sl 14 [] false)) I I) I <| Ze <| Zf <| Zg <| Zc <| Z2 I (Zh (v := (.sl 14 (a0.map Z4) false)) I I) I ?_
 have ⟨v2, hv2, h⟩ := Z17 h
 refine Z2 I (Z15 (ar := [(.sl 14 (a0.map Z4) false)]) (caps := []) Try.call85 (F85_ok K a0 v2 hv2) I I ⟨rfl, trivial⟩ I) I ?_
 have ⟨v4, hv4, h⟩ := Z17 h
 refine Z2 I (Z65 (sz := 14) (es := (List.map Z4 v4)) (ar := [(.clo 104 [(.ip [(.sl 14 (v2.map Z4) false)])]), (.clo 86 [])]) (caps := []) Try.call84 ((F84_ok K v2 v4 hv4).sw 4 5) I I ⟨rfl, rfl, trivial⟩ I) I ?_
 have ⟨v6, hv6, h⟩ := Z17 h
 refine Z2 I (Z94 (d := some 6) (c := ⟨[(.vs 5), (.clo 87 [])] ++ [], [(5, (.vec 14 (List.map Z4 v4)))], .vs 5, [(5, .vec 14 (List.map Z4 v6))], [5]⟩) (ar := [(.vs 5), (.clo 87 [])]) (caps := []) (news := []) (forg := [5]) Try.call83 ((F83_ok K v4 v6 hv6).sw 0 5) I I ⟨rfl, rfl, trivial⟩ I ⟨rfl, trivial⟩ I) I <| Z2 I (Zk (v := (.vs 5)) I I) I <| Ze <| Zf <| Z1c <| At.ghost (st' := ⟨[(2, (.sl 14 (v6.map Z4) false))], []⟩) (fun a w h => (Z1e ⟨[(2, (.sl 14 (v6.map Z4) false))], []⟩ (Z29 (m := 5) (sz := 14) (es := (List.map Z4 v6)) a w (Z1e ⟨[(2, (.vs 5))], [(5, (.vec 14 (List.map Z4 v6)))]⟩ h ⟨rfl, trivial⟩ ⟨rfl, trivial⟩)) ⟨rfl, trivial⟩ trivial)) ?_
 have h := Option.some.inj h
 subst h
 refine (hret _ ?_).1
 exact ⟨[(.sl 14 (v6.map Z4) false)], ⟨rfl, trivial⟩, rfl, trivial⟩
def F58 (K : Nat) (a0 : Zd) : Option (Zq) :=
 some (⟨a0.Trace, a0.Id⟩ : Zq)
theorem F58_ok (K : Nat) (a0 : Zd) (r : Zq) (h : F58 K a0 = some r) : ACall P 58 ⟨[(Z4 a0)], [], (Zi r), [], []⟩ := by
 refine Z1p Try.func58 Try.results58 rfl Try.ntmps58 rfl rfl rfl ?_
 intro E Q hP hN hro hret
 obtain ⟨P', nt', w0, F0, p0, S0, β0, ro0⟩ := E
 simp only at hP hN
 subst hP hN
 dsimp only [argT]
 unfold F58 at h
 refine Zg <| Zc <| Z2 I (Z2j (v := (Z4 a0)) (cs := (Z4 a0).cells) I I I I I) I <| Z2 I (Z1y (cs := [(.int .i64 0), (.int .i64 0)]) I z23 I I I) I <| Ze <| Zf <| Zg <| Zc ?_
 refine Z2 I (Zp (m := 1) (o := 0) I f38_0 I I) I <| Z2 I (Zv (cs := (Z4 a0).cells) (v := (.int .i64 a0.Trace)) I o3 I I I) I <| Z2 I (Zp (m := 1) (o := 0) I f38_1 I I) I <| Z2 I (Zv (cs := (Z4 a0).cells) (v := (.int .i64 a0.Id)) I o3 I I I) I <| Z2 I (Z25 (vs := [(0, (.int .i64 a0.Trace)), (1, (.int .i64 a0.Id))]) (cs := [(.int .i64 a0.Trace), (.int .i64 a0.Id)]) I st23 ⟨rfl, rfl, rfl, rfl, trivial⟩ I) I <| Z2 I (Z1k (cs := [(.int .i64 0), (.int .i64 0)]) (vs := [(.int .i64 a0.Trace), (.int .i64 a0.Id)]) (ds := [(.int .i64 a0.Trace), (.int .i64 a0.Id)]) (v := (.ag [(.int .i64 a0.Trace), (.int .i64 a0.Id)])) sz23 I I I I I I I I) I <| Ze <| Zf ?_
 refine Z1c ?_
 have h := Option.some.inj h
 subst h
 refine (hret _ ?_).1
 exact ⟨[(.ag [(.int .i64 a0.Trace), (.int .i64 a0.Id)])], ⟨⟨2, _, rfl, rfl, .inr ⟨_, a23, rfl, rfl⟩⟩, trivial⟩, rfl, trivial⟩
def F74 (K : Nat) (a0 : Int) (a1 : (List Zd)) : Option (Bool) :=
 if ((IntKind.i64.wrap (a0 + 1)) == (a1.length : Int)) = true then
  some true
 else
  if (0 : Int) ≤ (IntKind.i64.wrap (a0 + 1)) ∧ (IntKind.i64.wrap (a0 + 1)) < a1.length then
   (F58 K (a1.getD (IntKind.i64.wrap (a0 + 1)).toNat Z1)).bind fun v3 =>
    if (0 : Int) ≤ a0 ∧ a0 < a1.length then
     (F58 K (a1.getD a0.toNat Z1)).bind fun v6 =>
      some (!((v3.Trace == v6.Trace) && ((v3.Id == v6.Id) && true)))
    else none
  else none
theorem F74_ok (K : Nat) (a0 : Int) (a1 : (List Zd)) (r : Bool) (h : F74 K a0 a1 = some r) : ACall P 74 ⟨[(.int .i64 a0), (.ip [(.sl 14 (a1.map Z4) false)])], [], (.bool r), [], []⟩ := by
 refine Z1p Try.func74 Try.results74 rfl Try.ntmps74 rfl rfl rfl ?_
 intro E Q hP hN hro hret
 obtain ⟨P', nt', w0, F0, p0, S0, β0, ro0⟩ := E
 simp only at hP hN
 subst hP hN
 dsimp only [argT]
 unfold F74 at h
 refine Zg <| Zc <| Z2 I (Zk (v := (.bool false)) I I) I <| Ze <| Zf <| Zg <| Z1n mixed <| Z8 0 I (Zh (v := (.int .i64 a0)) I I) ?_
 refine Z8 1 I (Z1h (k := .i64) (a := a0) (b := 1) (c := (IntKind.i64.wrap (a0 + 1))) I I I I) <| Z8 2 I (Z2d (cs := [(.sl 14 (a1.map Z4) false)]) (v := (.sl 14 (a1.map Z4) false)) I o33 I I) <| Z8 3 I (Z24 (l := a1) (enc := Z4) I s33 I) <| Z8 4 I (Z1q (k := .i64) (a := (IntKind.i64.wrap (a0 + 1))) (b := (a1.length : Int)) (c := ((IntKind.i64.wrap (a0 + 1)) == (a1.length : Int))) I I I I) <| Z8 5 I (Zh (v := (.bool ((IntKind.i64.wrap (a0 + 1)) == (a1.length : Int)))) I I) ?_
 have hif := Z1u h
 refine AOpsD.split (fun hc => ?_) (fun hc => ?_)
 ·have h := hif.1 hc
  refine Zx 6 I I I I I I I <| Zx 7 I I I I I I I <| Zx 8 I I I I I I I <| Zx 9 I I I I I I I <| Zx 10 I I I I I I I <| Zx 11 I I I I I I I <| Zx 12 I I I I I I I <| Zx 13 I I I I I I I ?_
  refine Zx 14 I I I I I I I <| Zx 15 I I I I I I I <| Zx 16 I I I I I I I <| Zx 17 I I I I I I I <| Z8 18 I (Z27 (v := (.bool true)) I I I) <| Z8 19 I (Zk (v := (.bool true)) I I) <| AOpsD.nil (by kernel_rfl) I <| Zf ?_
  refine Z1c ?_
  have h := Option.some.inj h
  subst h
  refine (hret _ ?_).1
  exact ⟨[(.bool true)], ⟨rfl, trivial⟩, rfl, trivial⟩
 ·have h := hif.2 hc
  refine Zz 6 I I I I (Z2d (cs := [(.sl 14 (a1.map Z4) false)]) (v := (.sl 14 (a1.map Z4) false)) I o33 I I) <| Zz 7 I I I I (Zh (v := (.int .i64 a0)) I I) <| Zz 8 I I I I (Z1h (k := .i64) (a := a0) (b := 1) (c := (IntKind.i64.wrap (a0 + 1))) I I I I) ?_
  have ⟨hg1, h⟩ := Zw h
  refine Zz 9 I I I I (Z1r (k := .i64) (l := a1) (enc := Z4) (z := Z1) (n := (IntKind.i64.wrap (a0 + 1))) (cs := (Z4 (a1.getD (IntKind.i64.wrap (a0 + 1)).toNat Z1)).cells) (full := false) I s33 I I hg1 I) <| Zz 10 I I I I (Z1w (cs := (Z4 (a1.getD (IntKind.i64.wrap (a0 + 1)).toNat Z1)).cells) (vs := (Z4 (a1.getD (IntKind.i64.wrap (a0 + 1)).toNat Z1)).cells) I a38 I I I) ?_
  have ⟨v3, hv3, h⟩ := Z17 h
  refine Zz 11 I I I I (Z15 (ar := [(Z4 (a1.getD (IntKind.i64.wrap (a0 + 1)).toNat Z1))]) (caps := []) Try.call58 (F58_ok K (a1.getD (IntKind.i64.wrap (a0 + 1)).toNat Z1) v3 hv3) I I ⟨rfl, trivial⟩ I) <| Zz 12 I I I I (Z2d (cs := [(.sl 14 (a1.map Z4) false)]) (v := (.sl 14 (a1.map Z4) false)) I o33 I I) <| Zz 13 I I I I (Zh (v := (.int .i64 a0)) I I) ?_
  have ⟨hg4, h⟩ := Zw h
  refine Zz 14 I I I I (Z1r (k := .i64) (l := a1) (enc := Z4) (z := Z1) (n := a0) (cs := (Z4 (a1.getD a0.toNat Z1)).cells) (full := false) I s33 I I hg4 I) <| Zz 15 I I I I (Z1w (cs := (Z4 (a1.getD a0.toNat Z1)).cells) (vs := (Z4 (a1.getD a0.toNat Z1)).cells) I a38 I I I) ?_
  have ⟨v6, hv6, h⟩ := Z17 h
  refine Zz 16 I I I I (Z15 (ar := [(Z4 (a1.getD a0.toNat Z1))]) (caps := []) Try.call58 (F58_ok K (a1.getD a0.toNat Z1) v6 hv6) I I ⟨rfl, trivial⟩ I) <| Zz 17 I I I I (Z5g (xs := (Zi v3).cells) (ys := (Zi v6).cells) (b := ((v3.Trace == v6.Trace) && ((v3.Id == v6.Id) && true))) (c := (!((v3.Trace == v6.Trace) && ((v3.Id == v6.Id) && true)))) I eq23 I I I I) <| Z8 18 I (Z1t (v := (.bool (!((v3.Trace == v6.Trace) && ((v3.Id == v6.Id) && true))))) I I I) <| Z8 19 I (Zk (v := (.bool (!((v3.Trace == v6.Trace) && ((v3.Id == v6.Id) && true))))) I I) <| AOpsD.nil (by kernel_rfl) I <| Zf <| Z1c ?_
  have h := Option.some.inj h
  subst h
  refine (hret _ ?_).1
  exact ⟨[(.bool (!((v3.Trace == v6.Trace) && ((v3.Id == v6.Id) && true))))], ⟨rfl, trivial⟩, rfl, trivial⟩
def F110 (K : Nat) (a0 : (List Z1b)) : Option ((List Z1b)) :=
 if ([] : List Z1b).length + a0.length ≤ 1073741824 then
  some a0
 else none
theorem F110_ok (K : Nat) (a0 : (List Z1b)) (r : (List Z1b)) (h : F110 K a0 = some r) : ACall P 110 ⟨[(.sl 4 (a0.map Zu) false)], [], (.sl 4 (r.map Zu) false), [], []⟩ := by
 refine Z1p Try.func110 Try.results110 rfl Try.ntmps110 rfl rfl rfl ?_
 intro E Q hP hN hro hret
 obtain ⟨P', nt', w0, F0, p0, S0, β0, ro0⟩ := E
 simp only at hP hN
 subst hP hN
 dsimp only [argT]
 unfold F110 at h
 refine Zg <| Zc <| Z2 I (Zk (v := (.sl 4 [] true)) I I) I <| Ze <| Zf <| Zg <| Zg <| Zc ?_
 refine Z2 I (Zh (v := (.sl 4 (a0.map Zu) false)) I I) I ?_
 refine AOps.consNil (enc := Zu) (es := a0) (full := false) I u35 I (fun x1 hbx1 => ?_)
 refine Ze <| Zf ?_
 refine Z14 I (fun hc => ?_) (fun hc => ?_)
 ·have hz := hbx1 hc
  have h : (some []) = some r := by simp only [hz] at h ⊢; simpa using h
  refine Zg <| Zc <| Z2 I (Zk (v := (.sl 4 [] true)) I I) I <| Ze <| Zf <| Z1c <| Z1i <| At.ghost (st' := ⟨[(2, (.sl 4 [] false))], []⟩) (fun a w h => (Z1e ⟨[(2, (.sl 4 [] false))], []⟩ (Zal a w (Z1e ⟨[(2, (.sl 4 [] true))], []⟩ h ⟨rfl, trivial⟩ trivial)) ⟨rfl, trivial⟩ trivial)) ?_
  have h := Option.some.inj h
  subst h
  refine (hret _ ?_).1
  exact ⟨[(.sl 4 [] false)], ⟨rfl, trivial⟩, rfl, trivial⟩
 ·refine Z16 <| Zf <| Zg <| Zc <| Z2 I (Z1f (vs := []) (enc := Zu) (l := ([] : List Z1b)) I el35 I I trivial I Z58 I I I I) I <| Z2 I (Zh (v := (.sl 4 (a0.map Zu) false)) I I) I ?_
  have ⟨hg2, h⟩ := Zw h
  refine Z2 I (Z2c (m := 5) (enc := Zu) (l := ([] : List Z1b)) (l' := a0) (src := (.sl 4 (a0.map Zu) false)) (rd := []) I I el35 I u35 I I I ⟨rfl, rfl, rfl⟩ noReads Z58 hg2) I <| Z2 I (Zk (v := (.vs 5)) I I) I <| Ze <| Zf <| Z1c <| At.ghost (st' := ⟨[(2, (.sl 4 (a0.map Zu) false))], []⟩) (fun a w h => (Z1e ⟨[(2, (.sl 4 (a0.map Zu) false))], []⟩ (Z29 (m := 5) (sz := 4) (es := (List.map Zu a0)) a w (Z1e ⟨[(2, (.vs 5))], [(5, (.vec 4 (List.map Zu a0)))]⟩ h ⟨rfl, trivial⟩ ⟨rfl, trivial⟩)) ⟨rfl, trivial⟩ trivial)) ?_
  have h := Option.some.inj h
  subst h
  refine (hret _ ?_).1
  exact ⟨[(.sl 4 (a0.map Zu) false)], ⟨rfl, trivial⟩, rfl, trivial⟩
def F111 (K : Nat) (a0 : (List Zq)) : Option ((List Zq)) :=
 if ([] : List Zq).length + a0.length ≤ 1073741824 then
  some a0
 else none
theorem F111_ok (K : Nat) (a0 : (List Zq)) (r : (List Zq)) (h : F111 K a0 = some r) : ACall P 111 ⟨[(.sl 2 (a0.map Zi) false)], [], (.sl 2 (r.map Zi) false), [], []⟩ := by
 refine Z1p Try.func111 Try.results111 rfl Try.ntmps111 rfl rfl rfl ?_
 intro E Q hP hN hro hret
 obtain ⟨P', nt', w0, F0, p0, S0, β0, ro0⟩ := E
 simp only at hP hN
 subst hP hN
 dsimp only [argT]
 unfold F111 at h
 refine Zg <| Zc <| Z2 I (Zk (v := (.sl 2 [] true)) I I) I <| Ze <| Zf <| Zg <| Zg <| Zc ?_
 refine Z2 I (Zh (v := (.sl 2 (a0.map Zi) false)) I I) I ?_
 refine AOps.consNil (enc := Zi) (es := a0) (full := false) I u36 I (fun x1 hbx1 => ?_)
 refine Ze <| Zf ?_
 refine Z14 I (fun hc => ?_) (fun hc => ?_)
 ·have hz := hbx1 hc
  have h : (some []) = some r := by simp only [hz] at h ⊢; simpa using h
  refine Zg <| Zc <| Z2 I (Zk (v := (.sl 2 [] true)) I I) I <| Ze <| Zf <| Z1c <| Z1i <| At.ghost (st' := ⟨[(2, (.sl 2 [] false))], []⟩) (fun a w h => (Z1e ⟨[(2, (.sl 2 [] false))], []⟩ (Zal a w (Z1e ⟨[(2, (.sl 2 [] true))], []⟩ h ⟨rfl, trivial⟩ trivial)) ⟨rfl, trivial⟩ trivial)) ?_
  have h := Option.some.inj h
  subst h
  refine (hret _ ?_).1
  exact ⟨[(.sl 2 [] false)], ⟨rfl, trivial⟩, rfl, trivial⟩
 ·refine Z16 <| Zf <| Zg <| Zc <| Z2 I (Z1f (vs := []) (enc := Zi) (l := ([] : List Zq)) I el36 I I trivial I Z5o I I I I) I <| Z2 I (Zh (v := (.sl 2 (a0.map Zi) false)) I I) I ?_
  have ⟨hg2, h⟩ := Zw h
  refine Z2 I (Z2c (m := 5) (enc := Zi) (l := ([] : List Zq)) (l' := a0) (src := (.sl 2 (a0.map Zi) false)) (rd := []) I I el36 I u36 I I I ⟨rfl, rfl, rfl⟩ noReads Z5o hg2) I <| Z2 I (Zk (v := (.vs 5)) I I) I <| Ze <| Zf <| Z1c <| At.ghost (st' := ⟨[(2, (.sl 2 (a0.map Zi) false))], []⟩) (fun a w h => (Z1e ⟨[(2, (.sl 2 (a0.map Zi) false))], []⟩ (Z29 (m := 5) (sz := 2) (es := (List.map Zi a0)) a w (Z1e ⟨[(2, (.vs 5))], [(5, (.vec 2 (List.map Zi a0)))]⟩ h ⟨rfl, trivial⟩ ⟨rfl, trivial⟩)) ⟨rfl, trivial⟩ trivial)) ?_
  have h := Option.some.inj h
  subst h
  refine (hret _ ?_).1
  exact ⟨[(.sl 2 (a0.map Zi) false)], ⟨rfl, trivial⟩, rfl, trivial⟩
def F88 (K : Nat) (a0 : Zd) : Option (Zd) :=
 (F110 K a0.Attrs).bind fun v2 =>
  (F111 K a0.Links).bind fun v4 =>
   some (⟨a0.Trace, a0.Id, a0.Parent, a0.Revision, a0.Clock, a0.Kind, a0.Service, a0.Version, a0.Operation, a0.Start, a0.End, a0.Error, v2, v4⟩ : Zd)
theorem F88_ok (K : Nat) (a0 : Zd) (r : Zd) (h : F88 K a0 = some r) : ACall P 88 ⟨[(Z4 a0)], [], (Z4 r), [], []⟩ := by
 refine Z1p Try.func88 Try.results88 rfl Try.ntmps88 rfl rfl rfl ?_
 intro E Q hP hN hro hret
 obtain ⟨P', nt', w0, F0, p0, S0, β0, ro0⟩ := E
 simp only at hP hN
 subst hP hN
 dsimp only [argT]
 unfold F88 at h
 refine Zg <| Zc <| Z2 I (Z2j (v := (Z4 a0)) (cs := (Z4 a0).cells) I I I I I) I <| Z2 I (Z1y (cs := [(.int .i64 0), (.int .i64 0), (.int .i64 0), (.int .i64 0), (.int .i64 0), (.int .i64 0), (.str []), (.str []), (.str []), (.int .i64 0), (.int .i64 0), (.bool false), (.sl 4 [] false), (.sl 2 [] false)]) I z38 I I I) I <| Ze <| Zf <| Zg <| Z1n mixed ?_
 refine Z8 0 I (Zp (m := 1) (o := 0) I Zc8 I I) <| Z8 1 I (Zv (cs := (Z4 a0).cells) (v := (.sl 4 (a0.Attrs.map Zu) false)) I o35 I I I) ?_
 have ⟨v2, hv2, h⟩ := Z17 h
 refine Z8 2 I (Z15 (ar := [(.sl 4 (a0.Attrs.map Zu) false)]) (caps := []) Try.call110 (F110_ok K a0.Attrs v2 hv2) I I ⟨rfl, trivial⟩ I) <| Z8 3 I (Zp (m := 1) (o := 0) I Z6k I I) <| Z8 4 I (Zv (cs := (Z4 a0).cells) (v := (.sl 2 (a0.Links.map Zi) false)) I o36 I I I) ?_
 have ⟨v4, hv4, h⟩ := Z17 h
 refine Z8 5 I (Z15 (ar := [(.sl 2 (a0.Links.map Zi) false)]) (caps := []) Try.call111 (F111_ok K a0.Links v4 hv4) I I ⟨rfl, trivial⟩ I) <| Z8 6 I (Zp (m := 1) (o := 0) I Zc8 I I) <| Z8 7 I (Z1k (cs := (Z4 a0).cells) (vs := [(.sl 4 (v2.map Zu) false)]) (ds := [(.int .i64 a0.Trace), (.int .i64 a0.Id), (.int .i64 a0.Parent), (.int .i64 a0.Revision), (.int .i64 a0.Clock), (.int .i64 a0.Kind), (.str a0.Service), (.str a0.Version), (.str a0.Operation), (.int .i64 a0.Start), (.int .i64 a0.End), (.bool a0.Error), (.sl 4 (v2.map Zu) false), (.sl 2 (a0.Links.map Zi) false)]) (v := (.sl 4 (v2.map Zu) false)) sz35 I I I I I I I I) <| Z8 8 I (Zp (m := 1) (o := 0) I Z6k I I) <| Z8 9 I (Z1k (cs := [(.int .i64 a0.Trace), (.int .i64 a0.Id), (.int .i64 a0.Parent), (.int .i64 a0.Revision), (.int .i64 a0.Clock), (.int .i64 a0.Kind), (.str a0.Service), (.str a0.Version), (.str a0.Operation), (.int .i64 a0.Start), (.int .i64 a0.End), (.bool a0.Error), (.sl 4 (v2.map Zu) false), (.sl 2 (a0.Links.map Zi) false)]) (vs := [(.sl 2 (v4.map Zi) false)]) (ds := [(.int .i64 a0.Trace), (.int .i64 a0.Id), (.int .i64 a0.Parent), (.int .i64 a0.Revision), (.int .i64 a0.Clock), (.int .i64 a0.Kind), (.str a0.Service), (.str a0.Version), (.str a0.Operation), (.int .i64 a0.Start), (.int .i64 a0.End), (.bool a0.Error), (.sl 4 (v2.map Zu) false), (.sl 2 (v4.map Zi) false)]) (v := (.sl 2 (v4.map Zi) false)) sz36 I I I I I I I I) <| AOpsD.nil (by kernel_rfl) I <| Zf <| Zg ?_
 refine Zc <| Z2 I (Z19 (cs := [(.int .i64 a0.Trace), (.int .i64 a0.Id), (.int .i64 a0.Parent), (.int .i64 a0.Revision), (.int .i64 a0.Clock), (.int .i64 a0.Kind), (.str a0.Service), (.str a0.Version), (.str a0.Operation), (.int .i64 a0.Start), (.int .i64 a0.End), (.bool a0.Error), (.sl 4 (v2.map Zu) false), (.sl 2 (v4.map Zi) false)]) (vs := [(.int .i64 a0.Trace), (.int .i64 a0.Id), (.int .i64 a0.Parent), (.int .i64 a0.Revision), (.int .i64 a0.Clock), (.int .i64 a0.Kind), (.str a0.Service), (.str a0.Version), (.str a0.Operation), (.int .i64 a0.Start), (.int .i64 a0.End), (.bool a0.Error), (.sl 4 (v2.map Zu) false), (.sl 2 (v4.map Zi) false)]) I a38 I I I I) I <| Z2 I (Z1k (cs := [(.int .i64 0), (.int .i64 0), (.int .i64 0), (.int .i64 0), (.int .i64 0), (.int .i64 0), (.str []), (.str []), (.str []), (.int .i64 0), (.int .i64 0), (.bool false), (.sl 4 [] false), (.sl 2 [] false)]) (vs := [(.int .i64 a0.Trace), (.int .i64 a0.Id), (.int .i64 a0.Parent), (.int .i64 a0.Revision), (.int .i64 a0.Clock), (.int .i64 a0.Kind), (.str a0.Service), (.str a0.Version), (.str a0.Operation), (.int .i64 a0.Start), (.int .i64 a0.End), (.bool a0.Error), (.sl 4 (v2.map Zu) false), (.sl 2 (v4.map Zi) false)]) (ds := [(.int .i64 a0.Trace), (.int .i64 a0.Id), (.int .i64 a0.Parent), (.int .i64 a0.Revision), (.int .i64 a0.Clock), (.int .i64 a0.Kind), (.str a0.Service), (.str a0.Version), (.str a0.Operation), (.int .i64 a0.Start), (.int .i64 a0.End), (.bool a0.Error), (.sl 4 (v2.map Zu) false), (.sl 2 (v4.map Zi) false)]) (v := (.ag [(.int .i64 a0.Trace), (.int .i64 a0.Id), (.int .i64 a0.Parent), (.int .i64 a0.Revision), (.int .i64 a0.Clock), (.int .i64 a0.Kind), (.str a0.Service), (.str a0.Version), (.str a0.Operation), (.int .i64 a0.Start), (.int .i64 a0.End), (.bool a0.Error), (.sl 4 (v2.map Zu) false), (.sl 2 (v4.map Zi) false)])) Zcl I I I I I I I I) I <| Ze <| Zf <| Z1c ?_
 have h := Option.some.inj h
 subst h
 refine (hret _ ?_).1
 exact ⟨[(.ag [(.int .i64 a0.Trace), (.int .i64 a0.Id), (.int .i64 a0.Parent), (.int .i64 a0.Revision), (.int .i64 a0.Clock), (.int .i64 a0.Kind), (.str a0.Service), (.str a0.Version), (.str a0.Operation), (.int .i64 a0.Start), (.int .i64 a0.End), (.bool a0.Error), (.sl 4 (v2.map Zu) false), (.sl 2 (v4.map Zi) false)])], ⟨⟨2, _, rfl, rfl, .inr ⟨_, a38, rfl, rfl⟩⟩, trivial⟩, rfl, trivial⟩
def Zb6 (K : Nat) (v4 : (List Zd)) : Option ((List Zd)) :=
 some v4
def Z8s (K : Nat) (b7 : Int → (List Zd) → Option ((List Zd))) (v1 : Int) (v11 : (List Zd)) : Option ((List Zd)) :=
 b7 (IntKind.i64.wrap (v1 + 1)) v11
def Z89 (K : Nat) (a0 : (List Zd)) (a100 : (List Zd)) (c6 : (List Zd) → Option ((List Zd))) : Nat → Int → (List Zd) → Option ((List Zd))
 | 0, _, _ => none
 | k3 + 1, v1, v2 =>
  if (decide (v1 < (a0.length : Int))) = true then
   if (0 : Int) ≤ v1 ∧ v1 < a0.length then
    (F74 K v1 a100).bind fun v10 =>
     if v10 = true then
      (F88 K (a0.getD v1.toNat Z1)).bind fun v14 =>
       if v2.length + [v14].length ≤ 1073741824 then
        Z8s K (Z89 K a0 a100 c6 k3) v1 (v2 ++ [v14])
       else none
     else
      Z8s K (Z89 K a0 a100 c6 k3) v1 v2
   else none
  else
   c6 v2
def F73 (K : Nat) (a0 : (List Zd)) (a100 : (List Zd)) : Option ((List Zd)) :=
 Z89 K a0 a100 (Zb6 K) K 0 []
theorem F73_ok (K : Nat) (a0 : (List Zd)) (a100 : (List Zd)) (r : (List Zd)) (h : F73 K a0 a100 = some r) : ACall P 73 ⟨[(.sl 14 (a0.map Z4) false), (.clo 74 [(.ip [(.sl 14 (a100.map Z4) false)])])], [], (.sl 14 (r.map Z4) false), [], []⟩ := by
 refine Z1p Try.func73 Try.results73 rfl Try.ntmps73 rfl rfl rfl ?_
 intro E Q hP hN hro hret
 obtain ⟨P', nt', w0, F0, p0, S0, β0, ro0⟩ := E
 simp only at hP hN
 subst hP hN
 dsimp only [argT]
 unfold F73 at h
 refine Zg <| Zc <| Z2 I (Zk (v := (.sl 14 [] false)) I I) I <| Ze <| Zf <| Zg <| Zc <| Z2 I (Zk (v := (.sl 14 [] true)) I I) I ?_
 refine Ze <| Zf <| Zg <| Zg <| Zc <| Z2 I (Zh (v := (.sl 14 (a0.map Z4) false)) I I) I <| Z2 I (Z24 (l := a0) (enc := Z4) I s33 I) I <| Z2 I (Zh (v := (.int .i64 0)) I I) I ?_
 refine Ze <| Zf <| AWp.ghost (st' := ⟨[(1, (.clo 74 [(.ip [(.sl 14 (a100.map Z4) false)])])), (5, (.vs 5)), (8, (.sl 14 (a0.map Z4) false)), (9, (.int .i64 (a0.length : Int))), (10, (.int .i64 0))], [(5, (.vec 14 (List.map Z4 ([] : List Zd))))]⟩) (fun a w h => (Z1e ⟨[(1, (.clo 74 [(.ip [(.sl 14 (a100.map Z4) false)])])), (5, (.vs 5)), (8, (.sl 14 (a0.map Z4) false)), (9, (.int .i64 (a0.length : Int))), (10, (.int .i64 0))], [(5, (.vec 14 (List.map Z4 ([] : List Zd))))]⟩ (Z2w (k := 5) (m := 5) (sz := 14) I I a w (Z1e ⟨[(5, (.sl 14 [] true)), (1, (.clo 74 [(.ip [(.sl 14 (a100.map Z4) false)])])), (8, (.sl 14 (a0.map Z4) false)), (9, (.int .i64 (a0.length : Int))), (10, (.int .i64 0))], []⟩ h ⟨rfl, rfl, rfl, rfl, rfl, trivial⟩ trivial)) ⟨rfl, rfl, rfl, rfl, rfl, trivial⟩ ⟨rfl, trivial⟩)) <| AWp.weaken (st' := ⟨[(1, (.clo 74 [(.ip [(.sl 14 (a100.map Z4) false)])])), (5, (.vs 5)), (8, (.sl 14 (a0.map Z4) false)), (9, (.int .i64 (a0.length : Int))), (10, (.int .i64 0))], [(5, (.vec 14 (List.map Z4 [])))]⟩) ⟨rfl, rfl, rfl, rfl, rfl, trivial⟩ ⟨rfl, trivial⟩ ?_
 refine Z1l (V := Int × (List Zd)) (X := (List Zd)) (lp := fun k v => Z89 K a0 a100 (Zb6 K) k v.1 v.2 = some r) (sh := fun v => ⟨[(1, (.clo 74 [(.ip [(.sl 14 (a100.map Z4) false)])])), (5, (.vs 5)), (8, (.sl 14 (a0.map Z4) false)), (9, (.int .i64 (a0.length : Int))), (10, (.int .i64 v.1))], [(5, (.vec 14 (List.map Z4 v.2)))]⟩) (x := fun v => Zb6 K v = some r) (shx := fun v => ⟨[(5, (.vs 5))], [(5, (.vec 14 (List.map Z4 v)))]⟩) (k := K) (v := (0, [])) h ?_ ?_
 ·intro v h
  revert h
  revert v
  intro v4 h
  try dsimp only at h ⊢
  unfold Zb6 at h
  refine Zf <| Zg <| Zc <| Z2 I (Zh (v := (.vs 5)) I I) I <| Z2 I (Zk (v := (.vs 5)) I I) I <| Ze <| Zf <| Z1c ?_
  refine At.ghost (st' := ⟨[(4, (.sl 14 (v4.map Z4) false))], []⟩) (fun a w h => (Z1e ⟨[(4, (.sl 14 (v4.map Z4) false))], []⟩ (Z29 (m := 5) (sz := 14) (es := (List.map Z4 v4)) a w (Z1e ⟨[(4, (.vs 5))], [(5, (.vec 14 (List.map Z4 v4)))]⟩ h ⟨rfl, trivial⟩ ⟨rfl, trivial⟩)) ⟨rfl, trivial⟩ trivial)) ?_
  have h := Option.some.inj h
  subst h
  refine (hret _ ?_).1
  exact ⟨[(.sl 14 (v4.map Z4) false)], ⟨rfl, trivial⟩, rfl, trivial⟩
 ·intro N k3 v h IH3 J3
  obtain ⟨v1, v2⟩ := v
  try dsimp only at h IH3 J3 ⊢
  cases k3 with
  | zero => cases h
  | succ k3 =>
   rw [Z89] at h
   refine Zg <| Zc <| Z2 I (Z1q (k := .i64) (a := v1) (b := (a0.length : Int)) (c := (decide (v1 < (a0.length : Int)))) I I I I) I <| Ze <| Zf <| Zg ?_
   have hif := Z1u h
   refine Z14 I (fun hc => ?_) (fun hc => ?_)
   ·have h := hif.1 hc
    refine Z16 <| Zf <| Zg <| AWp.block <| Zg <| Zc <| Z2 I (Zh (v := (.int .i64 v1)) I I) I ?_
    have ⟨hg8, h⟩ := Zw h
    refine Z2 I (Z1r (k := .i64) (l := a0) (enc := Z4) (z := Z1) (n := v1) (cs := (Z4 (a0.getD v1.toNat Z1)).cells) (full := false) I s33 I I hg8 I) I <| Z2 I (Z1w (cs := (Z4 (a0.getD v1.toNat Z1)).cells) (vs := (Z4 (a0.getD v1.toNat Z1)).cells) I a38 I I I) I <| Z2 I (Z1y (cs := [(.int .i64 0), (.int .i64 0), (.int .i64 0), (.int .i64 0), (.int .i64 0), (.int .i64 0), (.str []), (.str []), (.str []), (.int .i64 0), (.int .i64 0), (.bool false), (.sl 4 [] false), (.sl 2 [] false)]) I z38 I I I) I <| Z2 I (Zk (v := (.int .i64 v1)) I I) I <| Z2 I (Z1k (cs := [(.int .i64 0), (.int .i64 0), (.int .i64 0), (.int .i64 0), (.int .i64 0), (.int .i64 0), (.str []), (.str []), (.str []), (.int .i64 0), (.int .i64 0), (.bool false), (.sl 4 [] false), (.sl 2 [] false)]) (vs := (Z4 (a0.getD v1.toNat Z1)).cells) (ds := (Z4 (a0.getD v1.toNat Z1)).cells) (v := (Z4 (a0.getD v1.toNat Z1))) Zcl I I I I I I I I) I <| Ze <| Zf <| Zg ?_
    refine Zc <| Z2 I (Zh (v := (.clo 74 [(.ip [(.sl 14 (a100.map Z4) false)])])) I I) I <| Z2 I (Zh (v := (.int .i64 v1)) I I) I ?_
    have ⟨v10, hv10, h⟩ := Z17 h
    refine Z2 I (Z15 (ar := [(.int .i64 v1)]) (caps := [(.ip [(.sl 14 (a100.map Z4) false)])]) Try.call74 (F74_ok K v1 a100 v10 hv10) I I ⟨rfl, trivial⟩ I) I <| Ze <| Zf ?_
    refine AWp.join (V := (List Zd)) (lp := fun v => Z8s K (Z89 K a0 a100 (Zb6 K) k3) v1 v = some r) (sh := fun v => ⟨[(1, (.clo 74 [(.ip [(.sl 14 (a100.map Z4) false)])])), (5, (.vs 5)), (8, (.sl 14 (a0.map Z4) false)), (9, (.int .i64 (a0.length : Int))), (10, (.int .i64 v1))], [(5, (.vec 14 (List.map Z4 v)))]⟩) ?_ ?_
    ·intro v h
     revert h
     revert v
     intro v11 h
     try dsimp only at h ⊢
     unfold Z8s at h
     refine At.end <| Zf <| Zc <| Z2 I (Z1h (k := .i64) (a := v1) (b := 1) (c := (IntKind.i64.wrap (v1 + 1))) I I I I) I <| Z2 I (Zh (v := (.int .i64 (IntKind.i64.wrap (v1 + 1)))) I I) I <| Ze ?_
     exact Zy (st' := ⟨[(1, (.clo 74 [(.ip [(.sl 14 (a100.map Z4) false)])])), (5, (.vs 5)), (8, (.sl 14 (a0.map Z4) false)), (9, (.int .i64 (a0.length : Int))), (10, (.int .i64 (IntKind.i64.wrap (v1 + 1))))], [(5, (.vec 14 (List.map Z4 v11)))]⟩) ⟨rfl, rfl, rfl, rfl, rfl, trivial⟩ ⟨rfl, trivial⟩ (IH3 _ ((IntKind.i64.wrap (v1 + 1)), v11) (Nat.lt_succ_self _) h)
    ·intro J12
     have hif := Z1u h
     refine Z14 I (fun hc => ?_) (fun hc => ?_)
     ·have h := hif.1 hc
      refine Zc <| Z2 I (Zh (v := (.vs 5)) I I) I <| Z2 I (Z19 (cs := (Z4 (a0.getD v1.toNat Z1)).cells) (vs := (Z4 (a0.getD v1.toNat Z1)).cells) I a38 I I I I) I ?_
      have ⟨v14, hv14, h⟩ := Z17 h
      refine Z2 I (Z15 (ar := [(Z4 (a0.getD v1.toNat Z1))]) (caps := []) Try.call88 (F88_ok K (a0.getD v1.toNat Z1) v14 hv14) I I ⟨rfl, trivial⟩ I) I <| Z2 I (Z1f (vs := [(Z4 v14)]) (enc := Z4) (l := [v14]) I el33 I I ⟨rfl, trivial⟩ I Z2f I I I I) I ?_
      have ⟨hg15, h⟩ := Zw h
      refine Z2 I (Z2c (m := 5) (enc := Z4) (l := v2) (l' := [v14]) (src := (.vs 21)) (rd := [(21, (.vec 14 (List.map Z4 [v14])))]) I I el33 I u33 I I I I (oneRead I) Z2f hg15) I <| Z2 I (Zk (v := (.vs 5)) I I) I <| Ze ?_
      exact Zy (st' := ⟨[(1, (.clo 74 [(.ip [(.sl 14 (a100.map Z4) false)])])), (5, (.vs 5)), (8, (.sl 14 (a0.map Z4) false)), (9, (.int .i64 (a0.length : Int))), (10, (.int .i64 v1))], [(5, (.vec 14 (List.map Z4 (v2 ++ [v14]))))]⟩) ⟨rfl, rfl, rfl, rfl, rfl, trivial⟩ ⟨rfl, trivial⟩ (J12 (v2 ++ [v14]) h)
     ·have h := hif.2 hc
      refine Z16 ?_
      exact Zy (st' := ⟨[(1, (.clo 74 [(.ip [(.sl 14 (a100.map Z4) false)])])), (5, (.vs 5)), (8, (.sl 14 (a0.map Z4) false)), (9, (.int .i64 (a0.length : Int))), (10, (.int .i64 v1))], [(5, (.vec 14 (List.map Z4 v2)))]⟩) ⟨rfl, rfl, rfl, rfl, rfl, trivial⟩ ⟨rfl, trivial⟩ (J12 v2 h)
   ·have h := hif.2 hc
    refine AWp.exit <| At.thru ?_
    exact Zy (st' := ⟨[(5, (.vs 5))], [(5, (.vec 14 (List.map Z4 v2)))]⟩) ⟨rfl, trivial⟩ ⟨rfl, trivial⟩ (J3 v2 h)
def F44 (K : Nat) (a0 : (List Zd)) : Option ((List Zd)) :=
 (F72 K a0).bind fun v2 =>
  (F73 K v2 v2).bind fun v4 =>
   some v4
theorem F44_ok (K : Nat) (a0 : (List Zd)) (r : (List Zd)) (h : F44 K a0 = some r) : ACall P 44 ⟨[(.sl 14 (a0.map Z4) false)], [], (.sl 14 (r.map Z4) false), [], []⟩ := by
 refine Z1p Try.func44 Try.results44 rfl Try.ntmps44 rfl rfl rfl ?_
 intro E Q hP hN hro hret
 obtain ⟨P', nt', w0, F0, p0, S0, β0, ro0⟩ := E
 simp only at hP hN
 subst hP hN
 dsimp only [argT]
 unfold F44 at h
 refine Zg <| Zc <| Z2 I (Zk (v := (.sl 14 [] false)) I I) I <| Ze <| Zf <| Zg <| Zc <| Z2 I (Zh (v := (.sl 14 (a0.map Z4) false)) I I) I ?_
 have ⟨v2, hv2, h⟩ := Z17 h
 refine Z2 I (Z15 (ar := [(.sl 14 (a0.map Z4) false)]) (caps := []) Try.call72 (F72_ok K a0 v2 hv2) I I ⟨rfl, trivial⟩ I) I <| Z2 I (Z1y (cs := [(.sl 14 [] true)]) I z33f I I I) I <| Z2 I (Z1k (cs := [(.sl 14 [] true)]) (vs := [(.sl 14 (v2.map Z4) false)]) (ds := [(.sl 14 (v2.map Z4) false)]) (v := (.sl 14 (v2.map Z4) false)) sz33 I I I I I I I I) I <| Ze <| Zf <| Zg <| Zc <| Z2 I (Zv (cs := [(.sl 14 (v2.map Z4) false)]) (v := (.sl 14 (v2.map Z4) false)) I o33 I I I) I ?_
 refine Z2 I (Z9h (vs := [(.ptr 3 0)]) I ⟨rfl, trivial⟩) I <| AOps.ghost (st' := ⟨[(2, (.sl 14 [] false)), (6, (.sl 14 (v2.map Z4) false)), (7, (.clo 74 [(.ip [(.sl 14 (v2.map Z4) false)])]))], []⟩) (fun a w h => (Z1e ⟨[(2, (.sl 14 [] false)), (6, (.sl 14 (v2.map Z4) false)), (7, (.clo 74 [(.ip [(.sl 14 (v2.map Z4) false)])]))], []⟩ (Z38 (m := 3) (cs := [(.sl 14 (v2.map Z4) false)]) I a w (Z1e ⟨[(2, (.sl 14 [] false)), (6, (.sl 14 (v2.map Z4) false)), (7, (.clo 74 [(.ptr 3 0)]))], [(3, (.box [(.sl 14 (v2.map Z4) false)]))]⟩ h ⟨rfl, rfl, rfl, trivial⟩ ⟨rfl, trivial⟩)) ⟨rfl, rfl, rfl, trivial⟩ trivial)) ?_
 have ⟨v4, hv4, h⟩ := Z17 h
 refine Z2 I (Z15 (ar := [(.sl 14 (v2.map Z4) false), (.clo 74 [(.ip [(.sl 14 (v2.map Z4) false)])])]) (caps := []) Try.call73 (F73_ok K v2 v2 v4 hv4) I I ⟨rfl, rfl, trivial⟩ I) I <| Z2 I (Zk (v := (.sl 14 (v4.map Z4) false)) I I) I <| Ze <| Zf <| Z1c ?_
 have h := Option.some.inj h
 subst h
 refine (hret _ ?_).1
 exact ⟨[(.sl 14 (v4.map Z4) false)], ⟨rfl, trivial⟩, rfl, trivial⟩
def F55 (K : Nat) (a0 : (List Z9)) : Option ((List Z9)) :=
 if ([] : List Z9).length + a0.length ≤ 1073741824 then
  some a0
 else none
theorem F55_ok (K : Nat) (a0 : (List Z9)) (r : (List Z9)) (h : F55 K a0 = some r) : ACall P 55 ⟨[(.sl 10 (a0.map Z7) false)], [], .vs 2, [(2, .vec 10 (List.map Z7 r))], [2]⟩ := by
 refine Z1p Try.func55 Try.results55 rfl Try.ntmps55 rfl rfl rfl ?_
 intro E Q hP hN hro hret
 obtain ⟨P', nt', w0, F0, p0, S0, β0, ro0⟩ := E
 simp only at hP hN
 subst hP hN
 dsimp only [argT]
 unfold F55 at h
 refine Zg <| Zc <| Z2 I (Zk (v := (.sl 10 [] true)) I I) I <| Ze <| Zf <| Zg <| Zg <| Zc ?_
 refine Z2 I (Zh (v := (.sl 10 (a0.map Z7) false)) I I) I ?_
 refine AOps.consNil (enc := Z7) (es := a0) (full := false) I u29 I (fun x1 hbx1 => ?_)
 refine Ze <| Zf ?_
 refine Z14 I (fun hc => ?_) (fun hc => ?_)
 ·have hz := hbx1 hc
  have h : (some []) = some r := by simp only [hz] at h ⊢; simpa using h
  refine Zg <| Zc <| Z2 I (Zk (v := (.sl 10 [] true)) I I) I <| Ze <| Zf <| Z1c <| Z1i <| At.ghost (st' := ⟨[(2, (.vs 2))], [(2, (.vec 10 (List.map Z7 ([] : List Z9))))]⟩) (fun a w h => (Z1e ⟨[(2, (.vs 2))], [(2, (.vec 10 (List.map Z7 ([] : List Z9))))]⟩ (Z2w (k := 2) (m := 2) (sz := 10) I I a w (Z1e ⟨[(2, (.sl 10 [] true))], []⟩ h ⟨rfl, trivial⟩ trivial)) ⟨rfl, trivial⟩ ⟨rfl, trivial⟩)) ?_
  have h := Option.some.inj h
  subst h
  refine (hret _ ?_).1
  exact ⟨[(.vs 2)], ⟨rfl, trivial⟩, rfl, ⟨rfl, trivial⟩⟩
 ·refine Z16 <| Zf <| Zg <| Zc <| Z2 I (Z1f (vs := []) (enc := Z7) (l := ([] : List Z9)) I Z9j I I trivial I Z1j I I I I) I <| Z2 I (Zh (v := (.sl 10 (a0.map Z7) false)) I I) I ?_
  have ⟨hg2, h⟩ := Zw h
  refine Z2 I (Z2c (m := 5) (enc := Z7) (l := ([] : List Z9)) (l' := a0) (src := (.sl 10 (a0.map Z7) false)) (rd := []) I I Z9j I u29 I I I ⟨rfl, rfl, rfl⟩ noReads Z1j hg2) I <| Z2 I (Zk (v := (.vs 5)) I I) I <| Ze <| Zf <| Z1c <| At.ghost (st' := ⟨[(2, (.vs 2))], [(2, (.vec 10 (List.map Z7 a0)))]⟩) (fun a w h => (Z1e ⟨[(2, (.vs 2))], [(2, (.vec 10 (List.map Z7 a0)))]⟩ (Z35 (a := 5) (b := 2) I I a w (Z1e ⟨[(2, (.vs 5))], [(5, (.vec 10 (List.map Z7 a0)))]⟩ h ⟨rfl, trivial⟩ ⟨rfl, trivial⟩)) ⟨rfl, trivial⟩ ⟨rfl, trivial⟩)) ?_
  have h := Option.some.inj h
  subst h
  refine (hret _ ?_).1
  exact ⟨[(.vs 2)], ⟨rfl, trivial⟩, rfl, ⟨rfl, trivial⟩⟩
def F15 (K : Nat) (a0 : Z9) (a1 : Z9) : Option (Int) :=
 (F51 K a0.Kind a1.Kind).bind fun v2 =>
  (F52 K a0.A a1.A).bind fun v4 =>
   (F52 K a0.B a1.B).bind fun v6 =>
    (F51 K a0.From a1.From).bind fun v8 =>
     (F51 K a0.To a1.To).bind fun v10 =>
      (F51 K a0.Sent a1.Sent).bind fun v12 =>
       (F51 K a0.Received a1.Received).bind fun v14 =>
        (F51 K a0.Least a1.Least).bind fun v16 =>
         (F50 K [v2, v4, v6, v8, v10, v12, v14, v16]).bind fun v18 =>
          some v18
theorem F15_ok (K : Nat) (a0 : Z9) (a1 : Z9) (r : Int) (h : F15 K a0 a1 = some r) : ACall P 15 ⟨[(Z7 a0), (Z7 a1)], [], (.int .i64 r), [], []⟩ := by
 refine Z1p Try.func15 Try.results15 rfl Try.ntmps15 rfl rfl rfl ?_
 intro E Q hP hN hro hret
 obtain ⟨P', nt', w0, F0, p0, S0, β0, ro0⟩ := E
 simp only at hP hN
 subst hP hN
 dsimp only [argT]
 unfold F15 at h
 refine Zg <| Zc <| Z2 I (Z2j (v := (Z7 a0)) (cs := (Z7 a0).cells) I I I I I) I <| Z2 I (Z2j (v := (Z7 a1)) (cs := (Z7 a1).cells) I I I I I) I <| Z2 I (Zk (v := (.int .i64 0)) I I) I <| Ze <| Zf <| Zg ?_
 refine Z1n mixed <| Z8 0 I (Zp (m := 2) (o := 0) I f25_0 I I) <| Z8 1 I (Zv (cs := (Z7 a0).cells) (v := (.int .i64 a0.Kind)) I o3 I I I) <| Z8 2 I (Zp (m := 3) (o := 0) I f25_0 I I) <| Z8 3 I (Zv (cs := (Z7 a1).cells) (v := (.int .i64 a1.Kind)) I o3 I I I) ?_
 have ⟨v2, hv2, h⟩ := Z17 h
 refine Z8 4 I (Z15 (ar := [(.int .i64 a0.Kind), (.int .i64 a1.Kind)]) (caps := []) Try.call51 (Z4j K a0.Kind a1.Kind v2 hv2) I I ⟨rfl, rfl, trivial⟩ I) <| Z8 5 I (Zp (m := 2) (o := 0) I f25_1 I I) <| Z8 6 I (Z19 (cs := (Z7 a0).cells) (vs := (Zi a0.A).cells) I a23 I I I I) <| Z8 7 I (Zp (m := 3) (o := 0) I f25_1 I I) <| Z8 8 I (Z19 (cs := (Z7 a1).cells) (vs := (Zi a1.A).cells) I a23 I I I I) ?_
 have ⟨v4, hv4, h⟩ := Z17 h
 refine Z8 9 I (Z15 (ar := [(Zi a0.A), (Zi a1.A)]) (caps := []) Try.call52 (F52_ok K a0.A a1.A v4 hv4) I I ⟨rfl, rfl, trivial⟩ I) <| Z8 10 I (Zp (m := 2) (o := 0) I f25_2 I I) <| Z8 11 I (Z19 (cs := (Z7 a0).cells) (vs := (Zi a0.B).cells) I a23 I I I I) <| Z8 12 I (Zp (m := 3) (o := 0) I f25_2 I I) <| Z8 13 I (Z19 (cs := (Z7 a1).cells) (vs := (Zi a1.B).cells) I a23 I I I I) ?_
 have ⟨v6, hv6, h⟩ := Z17 h
 refine Z8 14 I (Z15 (ar := [(Zi a0.B), (Zi a1.B)]) (caps := []) Try.call52 (F52_ok K a0.B a1.B v6 hv6) I I ⟨rfl, rfl, trivial⟩ I) <| Z8 15 I (Zp (m := 2) (o := 0) I f25_3 I I) <| Z8 16 I (Zv (cs := (Z7 a0).cells) (v := (.int .i64 a0.From)) I o3 I I I) <| Z8 17 I (Zp (m := 3) (o := 0) I f25_3 I I) <| Z8 18 I (Zv (cs := (Z7 a1).cells) (v := (.int .i64 a1.From)) I o3 I I I) ?_
 have ⟨v8, hv8, h⟩ := Z17 h
 refine Z8 19 I (Z15 (ar := [(.int .i64 a0.From), (.int .i64 a1.From)]) (caps := []) Try.call51 (Z4j K a0.From a1.From v8 hv8) I I ⟨rfl, rfl, trivial⟩ I) <| Z8 20 I (Zp (m := 2) (o := 0) I f25_4 I I) <| Z8 21 I (Zv (cs := (Z7 a0).cells) (v := (.int .i64 a0.To)) I o3 I I I) <| Z8 22 I (Zp (m := 3) (o := 0) I f25_4 I I) <| Z8 23 I (Zv (cs := (Z7 a1).cells) (v := (.int .i64 a1.To)) I o3 I I I) ?_
 have ⟨v10, hv10, h⟩ := Z17 h
 refine Z8 24 I (Z15 (ar := [(.int .i64 a0.To), (.int .i64 a1.To)]) (caps := []) Try.call51 (Z4j K a0.To a1.To v10 hv10) I I ⟨rfl, rfl, trivial⟩ I) <| Z8 25 I (Zp (m := 2) (o := 0) I f25_5 I I) <| Z8 26 I (Zv (cs := (Z7 a0).cells) (v := (.int .i64 a0.Sent)) I o3 I I I) <| Z8 27 I (Zp (m := 3) (o := 0) I f25_5 I I) <| Z8 28 I (Zv (cs := (Z7 a1).cells) (v := (.int .i64 a1.Sent)) I o3 I I I) ?_
 have ⟨v12, hv12, h⟩ := Z17 h
 refine Z8 29 I (Z15 (ar := [(.int .i64 a0.Sent), (.int .i64 a1.Sent)]) (caps := []) Try.call51 (Z4j K a0.Sent a1.Sent v12 hv12) I I ⟨rfl, rfl, trivial⟩ I) <| Z8 30 I (Zp (m := 2) (o := 0) I f25_6 I I) <| Z8 31 I (Zv (cs := (Z7 a0).cells) (v := (.int .i64 a0.Received)) I o3 I I I) <| Z8 32 I (Zp (m := 3) (o := 0) I f25_6 I I) <| Z8 33 I (Zv (cs := (Z7 a1).cells) (v := (.int .i64 a1.Received)) I o3 I I I) ?_
 have ⟨v14, hv14, h⟩ := Z17 h
 refine Z8 34 I (Z15 (ar := [(.int .i64 a0.Received), (.int .i64 a1.Received)]) (caps := []) Try.call51 (Z4j K a0.Received a1.Received v14 hv14) I I ⟨rfl, rfl, trivial⟩ I) <| Z8 35 I (Zp (m := 2) (o := 0) I f25_7 I I) <| Z8 36 I (Zv (cs := (Z7 a0).cells) (v := (.int .i64 a0.Least)) I o3 I I I) <| Z8 37 I (Zp (m := 3) (o := 0) I f25_7 I I) <| Z8 38 I (Zv (cs := (Z7 a1).cells) (v := (.int .i64 a1.Least)) I o3 I I I) ?_
 have ⟨v16, hv16, h⟩ := Z17 h
 refine Z8 39 I (Z15 (ar := [(.int .i64 a0.Least), (.int .i64 a1.Least)]) (caps := []) Try.call51 (Z4j K a0.Least a1.Least v16 hv16) I I ⟨rfl, rfl, trivial⟩ I) <| Z8 40 I (Z1f (vs := [(.int .i64 v2), (.int .i64 v4), (.int .i64 v6), (.int .i64 v8), (.int .i64 v10), (.int .i64 v12), (.int .i64 v14), (.int .i64 v16)]) (enc := Z1d) (l := [v2, v4, v6, v8, v10, v12, v14, v16]) I el87 I I ⟨rfl, rfl, rfl, rfl, rfl, rfl, rfl, rfl, trivial⟩ I Z3g I I I I) ?_
 have ⟨v18, hv18, h⟩ := Z17 h
 refine Z8 41 I (Z7q (rd := [(45, (.vec 1 (List.map Z1d [v2, v4, v6, v8, v10, v12, v14, v16])))]) (ar := [(.vs 45)]) (caps := []) Try.call50 (F50_ok K [v2, v4, v6, v8, v10, v12, v14, v16] v18 hv18) I I ⟨rfl, trivial⟩ (Z6c ⟨rfl, trivial⟩) I I I) <| Z8 42 I (Zk (v := (.int .i64 v18)) I I) <| AOpsD.nil (by kernel_rfl) I <| Zf <| Z1c ?_
 have h := Option.some.inj h
 subst h
 refine (hret _ ?_).1
 exact ⟨[(.int .i64 v18)], ⟨rfl, trivial⟩, rfl, trivial⟩
def F57_c3 (K : Nat) (a0 : (List Z9)) : Option ((List Z9)) :=
 some a0
def Z5s (K : Nat) (v16 : Int) (v17 : (List Z9)) : Option ((List Z9)) :=
 if (0 : Int) ≤ v16 ∧ v16 ≤ (v17.length : Int) ∧ (v17.length : Int) ≤ (v17.length : Nat) then
  if (0 + v16.toNat) + ((v17.length : Int).toNat - v16.toNat) ≤ v17.length then
   if (0 + v16.toNat) + ((v17.length : Int).toNat - v16.toNat) ≤ v17.length then
    if (0 : Int) ≤ 0 ∧ 0 ≤ v16 ∧ v16 ≤ ((v17.take (0 + v16.toNat) ++ List.replicate ((v17.length : Int).toNat - v16.toNat) Z5 ++ v17.drop ((0 + v16.toNat) + ((v17.length : Int).toNat - v16.toNat))).length : Nat) then
     if (0 + (0 : Int).toNat) + (v16.toNat - (0 : Int).toNat) ≤ (v17.take (0 + v16.toNat) ++ List.replicate ((v17.length : Int).toNat - v16.toNat) Z5 ++ v17.drop ((0 + v16.toNat) + ((v17.length : Int).toNat - v16.toNat))).length then
      some (((v17.take (0 + v16.toNat) ++ List.replicate ((v17.length : Int).toNat - v16.toNat) Z5 ++ v17.drop ((0 + v16.toNat) + ((v17.length : Int).toNat - v16.toNat))).drop (0 + (0 : Int).toNat)).take (v16.toNat - (0 : Int).toNat))
     else none
    else none
   else none
  else none
 else none
def Z8o (K : Nat) (b25 : Int → Int → (List Z9) → Option ((List Z9))) (v13 : Int) (v33 : Int) (v34 : (List Z9)) : Option ((List Z9)) :=
 b25 v33 (IntKind.i64.wrap (v13 + 1)) v34
def Z5a (K : Nat) (v1 : Int) (a0 : (List Z9)) (c19 : Int → (List Z9) → Option ((List Z9))) : Nat → Int → Int → (List Z9) → Option ((List Z9))
 | 0, _, _, _ => none
 | k15 + 1, v12, v13, v14 =>
  if (0 + v1.toNat) + ((a0.length : Int).toNat - v1.toNat) ≤ v14.length then
   if (decide (v13 < ((((a0.length : Int).toNat - v1.toNat) : Nat) : Int))) = true then
    if (0 + v1.toNat) + ((a0.length : Int).toNat - v1.toNat) ≤ v14.length then
     if (0 : Int) ≤ v13 ∧ v13 < (((a0.length : Int).toNat - v1.toNat) : Nat) then
      if ((0 + v1.toNat) + v13.toNat) < v14.length then
       if (0 + v1.toNat) + ((a0.length : Int).toNat - v1.toNat) ≤ v14.length then
        if (0 : Int) ≤ (IntKind.i64.wrap (v13 - 1)) ∧ (IntKind.i64.wrap (v13 - 1)) < (((a0.length : Int).toNat - v1.toNat) : Nat) then
         if ((0 + v1.toNat) + (IntKind.i64.wrap (v13 - 1)).toNat) < v14.length then
          if (!(((v14.getD ((0 + v1.toNat) + v13.toNat) Z5).Kind == (v14.getD ((0 + v1.toNat) + (IntKind.i64.wrap (v13 - 1)).toNat) Z5).Kind) && (((v14.getD ((0 + v1.toNat) + v13.toNat) Z5).A.Trace == (v14.getD ((0 + v1.toNat) + (IntKind.i64.wrap (v13 - 1)).toNat) Z5).A.Trace) && (((v14.getD ((0 + v1.toNat) + v13.toNat) Z5).A.Id == (v14.getD ((0 + v1.toNat) + (IntKind.i64.wrap (v13 - 1)).toNat) Z5).A.Id) && (((v14.getD ((0 + v1.toNat) + v13.toNat) Z5).B.Trace == (v14.getD ((0 + v1.toNat) + (IntKind.i64.wrap (v13 - 1)).toNat) Z5).B.Trace) && (((v14.getD ((0 + v1.toNat) + v13.toNat) Z5).B.Id == (v14.getD ((0 + v1.toNat) + (IntKind.i64.wrap (v13 - 1)).toNat) Z5).B.Id) && (((v14.getD ((0 + v1.toNat) + v13.toNat) Z5).From == (v14.getD ((0 + v1.toNat) + (IntKind.i64.wrap (v13 - 1)).toNat) Z5).From) && (((v14.getD ((0 + v1.toNat) + v13.toNat) Z5).To == (v14.getD ((0 + v1.toNat) + (IntKind.i64.wrap (v13 - 1)).toNat) Z5).To) && (((v14.getD ((0 + v1.toNat) + v13.toNat) Z5).Sent == (v14.getD ((0 + v1.toNat) + (IntKind.i64.wrap (v13 - 1)).toNat) Z5).Sent) && (((v14.getD ((0 + v1.toNat) + v13.toNat) Z5).Received == (v14.getD ((0 + v1.toNat) + (IntKind.i64.wrap (v13 - 1)).toNat) Z5).Received) && (((v14.getD ((0 + v1.toNat) + v13.toNat) Z5).Least == (v14.getD ((0 + v1.toNat) + (IntKind.i64.wrap (v13 - 1)).toNat) Z5).Least) && true))))))))))) = true then
           if (0 + v1.toNat) + ((a0.length : Int).toNat - v1.toNat) ≤ v14.length then
            if (0 : Int) ≤ v13 ∧ v13 < (((a0.length : Int).toNat - v1.toNat) : Nat) then
             if ((0 + v1.toNat) + v13.toNat) < v14.length then
              if (0 : Int) ≤ v12 ∧ v12 < (v14.length : Nat) then
               if v12.toNat < v14.length then
                Z8o K (Z5a K v1 a0 c19 k15) v13 (IntKind.i64.wrap (v12 + 1)) (v14.set v12.toNat (v14.getD ((0 + v1.toNat) + v13.toNat) Z5))
               else none
              else none
             else none
            else none
           else none
          else
           Z8o K (Z5a K v1 a0 c19 k15) v13 v12 v14
         else none
        else none
       else none
      else none
     else none
    else none
   else
    c19 v12 v14
  else none
def Za2 (K : Nat) (a0 : (List Z9)) (c4 : Option ((List Z9))) : Nat → Int → Option ((List Z9))
 | 0, _ => none
 | k2 + 1, v1 =>
  if (decide (v1 < (a0.length : Int))) = true then
   if (0 : Int) ≤ v1 ∧ v1 < (a0.length : Nat) then
    if v1.toNat < a0.length then
     if (0 : Int) ≤ (IntKind.i64.wrap (v1 - 1)) ∧ (IntKind.i64.wrap (v1 - 1)) < (a0.length : Nat) then
      if (IntKind.i64.wrap (v1 - 1)).toNat < a0.length then
       if (((a0.getD v1.toNat Z5).Kind == (a0.getD (IntKind.i64.wrap (v1 - 1)).toNat Z5).Kind) && (((a0.getD v1.toNat Z5).A.Trace == (a0.getD (IntKind.i64.wrap (v1 - 1)).toNat Z5).A.Trace) && (((a0.getD v1.toNat Z5).A.Id == (a0.getD (IntKind.i64.wrap (v1 - 1)).toNat Z5).A.Id) && (((a0.getD v1.toNat Z5).B.Trace == (a0.getD (IntKind.i64.wrap (v1 - 1)).toNat Z5).B.Trace) && (((a0.getD v1.toNat Z5).B.Id == (a0.getD (IntKind.i64.wrap (v1 - 1)).toNat Z5).B.Id) && (((a0.getD v1.toNat Z5).From == (a0.getD (IntKind.i64.wrap (v1 - 1)).toNat Z5).From) && (((a0.getD v1.toNat Z5).To == (a0.getD (IntKind.i64.wrap (v1 - 1)).toNat Z5).To) && (((a0.getD v1.toNat Z5).Sent == (a0.getD (IntKind.i64.wrap (v1 - 1)).toNat Z5).Sent) && (((a0.getD v1.toNat Z5).Received == (a0.getD (IntKind.i64.wrap (v1 - 1)).toNat Z5).Received) && (((a0.getD v1.toNat Z5).Least == (a0.getD (IntKind.i64.wrap (v1 - 1)).toNat Z5).Least) && true)))))))))) = true then
        if (0 : Int) ≤ v1 ∧ v1 ≤ (a0.length : Int) ∧ (a0.length : Int) ≤ (a0.length : Nat) then
         if (0 + v1.toNat) + ((a0.length : Int).toNat - v1.toNat) ≤ a0.length then
          Z5a K v1 a0 (Z5s K) K v1 1 a0
         else none
        else none
       else
        (Za2 K a0 c4 k2) (IntKind.i64.wrap (v1 + 1))
      else none
     else none
    else none
   else none
  else
   c4
def F57 (K : Nat) (a0 : (List Z9)) : Option ((List Z9)) :=
 if (decide ((a0.length : Int) < 2)) = true then
  some a0
 else
  Za2 K a0 (F57_c3 K a0) K 1
theorem F57_ok (K : Nat) (a0 : (List Z9)) (r : (List Z9)) (h : F57 K a0 = some r) : ACall P 57 ⟨[(.vs 0)], [(0, .vec 10 (List.map Z7 a0))], .vs 0, [(0, .vec 10 (List.map Z7 r))], [0]⟩ := by
 refine Z1p Try.func57 Try.results57 rfl Try.ntmps57 rfl rfl rfl ?_
 intro E Q hP hN hro hret
 obtain ⟨P', nt', w0, F0, p0, S0, β0, ro0⟩ := E
 simp only at hP hN
 subst hP hN
 dsimp only [argT]
 unfold F57 at h
 refine Zg <| Zc <| Z2 I (Zk (v := (.sl 10 [] false)) I I) I <| Ze <| Zf <| Zg <| Zg <| Zc ?_
 refine Z2 I (Zh (v := (.vs 0)) I I) I <| Z2 I (Z3l (l := a0) (enc := Z7) I u29 I I) I <| Z2 I (Z1q (k := .i64) (a := (a0.length : Int)) (b := 2) (c := (decide ((a0.length : Int) < 2))) I I I I) I <| Ze <| Zf ?_
 have hif := Z1u h
 refine Z14 I (fun hc => ?_) (fun hc => ?_)
 ·have h := hif.1 hc
  refine Zg <| Zc <| Z2 I (Zh (v := (.vs 0)) I I) I <| Z2 I (Zk (v := (.vs 0)) I I) I <| Ze <| Zf <| Z1c <| Z1i ?_
  have h := Option.some.inj h
  subst h
  refine (hret _ ?_).1
  exact ⟨[(.vs 0)], ⟨rfl, trivial⟩, rfl, ⟨rfl, trivial⟩⟩
 ·have h := hif.2 hc
  refine Z16 <| Zf <| Zg <| Zg <| Zc <| Z2 I (Zk (v := (.int .i64 1)) I I) I <| Ze <| Zf ?_
  refine AWp.weaken (st' := ⟨[(0, (.vs 0)), (3, (.int .i64 1))], [(0, (.vec 10 (List.map Z7 a0)))]⟩) ⟨rfl, rfl, trivial⟩ ⟨rfl, trivial⟩ ?_
  refine Z1l (V := Int) (X := Unit) (lp := fun k v => Za2 K a0 (F57_c3 K a0) k v = some r) (sh := fun v => ⟨[(0, (.vs 0)), (3, (.int .i64 v))], [(0, (.vec 10 (List.map Z7 a0)))]⟩) (x := fun v => F57_c3 K a0 = some r) (shx := fun v => ⟨[(0, (.vs 0))], [(0, (.vec 10 (List.map Z7 a0)))]⟩) (k := K) (v := 1) h ?_ ?_
  ·intro v h
   try dsimp only at h ⊢
   unfold F57_c3 at h
   refine Zf <| Zg <| Zc <| Z2 I (Zh (v := (.vs 0)) I I) I <| Z2 I (Zk (v := (.vs 0)) I I) I <| Ze <| Zf <| Z1c ?_
   have h := Option.some.inj h
   subst h
   refine (hret _ ?_).1
   exact ⟨[(.vs 0)], ⟨rfl, trivial⟩, rfl, ⟨rfl, trivial⟩⟩
  ·intro N k2 v h IH2 J2
   revert h
   revert v
   intro v1 h
   try dsimp only at h IH2 J2 ⊢
   cases k2 with
   | zero => cases h
   | succ k2 =>
    rw [Za2] at h
    refine Zg <| Zg <| Zc <| Z2 I (Zh (v := (.int .i64 v1)) I I) I <| Z2 I (Zh (v := (.vs 0)) I I) I <| Z2 I (Z3l (l := a0) (enc := Z7) I u29 I I) I <| Z2 I (Z1q (k := .i64) (a := v1) (b := (a0.length : Int)) (c := (decide (v1 < (a0.length : Int)))) I I I I) I <| Ze ?_
    refine Zf ?_
    have hif := Z1u h
    refine Z14 I (fun hc => ?_) (fun hc => ?_)
    ·have h := hif.1 hc
     refine Z16 <| Zf <| Zg <| AWp.block <| Zg <| Z1n mixed <| Z8 0 I (Zh (v := (.vs 0)) I I) <| Z8 1 I (Zh (v := (.int .i64 v1)) I I) ?_
     have ⟨hg6, h⟩ := Zw h
     refine Z8 2 I (Z23 (k := .i64) (v := (.vs 0)) (n := 0) (off := 0) (len := a0.length) (es := (List.map Z7 a0)) (j := v1) (m := v1.toNat) I s29 I I (Z20 _ _ _) I hg6 (Nat.zero_add _)) ?_
     have ⟨hg7, h⟩ := Zw h
     refine Z8 3 I (Z2r (l := a0) (enc := Z7) (z := Z5) (vs := (Z7 (a0.getD v1.toNat Z5)).cells) I a25 I I hg7 I I) <| Z8 4 I (Zh (v := (.vs 0)) I I) <| Z8 5 I (Zh (v := (.int .i64 v1)) I I) <| Z8 6 I (Z1h (k := .i64) (a := v1) (b := 1) (c := (IntKind.i64.wrap (v1 - 1))) I I I I) ?_
     have ⟨hg8, h⟩ := Zw h
     refine Z8 7 I (Z23 (k := .i64) (v := (.vs 0)) (n := 0) (off := 0) (len := a0.length) (es := (List.map Z7 a0)) (j := (IntKind.i64.wrap (v1 - 1))) (m := (IntKind.i64.wrap (v1 - 1)).toNat) I s29 I I (Z20 _ _ _) I hg8 (Nat.zero_add _)) ?_
     have ⟨hg9, h⟩ := Zw h
     refine Z8 8 I (Z2r (l := a0) (enc := Z7) (z := Z5) (vs := (Z7 (a0.getD (IntKind.i64.wrap (v1 - 1)).toNat Z5)).cells) I a25 I I hg9 I I) <| Z8 9 I (Z5g (xs := (Z7 (a0.getD v1.toNat Z5)).cells) (ys := (Z7 (a0.getD (IntKind.i64.wrap (v1 - 1)).toNat Z5)).cells) (b := (((a0.getD v1.toNat Z5).Kind == (a0.getD (IntKind.i64.wrap (v1 - 1)).toNat Z5).Kind) && (((a0.getD v1.toNat Z5).A.Trace == (a0.getD (IntKind.i64.wrap (v1 - 1)).toNat Z5).A.Trace) && (((a0.getD v1.toNat Z5).A.Id == (a0.getD (IntKind.i64.wrap (v1 - 1)).toNat Z5).A.Id) && (((a0.getD v1.toNat Z5).B.Trace == (a0.getD (IntKind.i64.wrap (v1 - 1)).toNat Z5).B.Trace) && (((a0.getD v1.toNat Z5).B.Id == (a0.getD (IntKind.i64.wrap (v1 - 1)).toNat Z5).B.Id) && (((a0.getD v1.toNat Z5).From == (a0.getD (IntKind.i64.wrap (v1 - 1)).toNat Z5).From) && (((a0.getD v1.toNat Z5).To == (a0.getD (IntKind.i64.wrap (v1 - 1)).toNat Z5).To) && (((a0.getD v1.toNat Z5).Sent == (a0.getD (IntKind.i64.wrap (v1 - 1)).toNat Z5).Sent) && (((a0.getD v1.toNat Z5).Received == (a0.getD (IntKind.i64.wrap (v1 - 1)).toNat Z5).Received) && (((a0.getD v1.toNat Z5).Least == (a0.getD (IntKind.i64.wrap (v1 - 1)).toNat Z5).Least) && true))))))))))) (c := (((a0.getD v1.toNat Z5).Kind == (a0.getD (IntKind.i64.wrap (v1 - 1)).toNat Z5).Kind) && (((a0.getD v1.toNat Z5).A.Trace == (a0.getD (IntKind.i64.wrap (v1 - 1)).toNat Z5).A.Trace) && (((a0.getD v1.toNat Z5).A.Id == (a0.getD (IntKind.i64.wrap (v1 - 1)).toNat Z5).A.Id) && (((a0.getD v1.toNat Z5).B.Trace == (a0.getD (IntKind.i64.wrap (v1 - 1)).toNat Z5).B.Trace) && (((a0.getD v1.toNat Z5).B.Id == (a0.getD (IntKind.i64.wrap (v1 - 1)).toNat Z5).B.Id) && (((a0.getD v1.toNat Z5).From == (a0.getD (IntKind.i64.wrap (v1 - 1)).toNat Z5).From) && (((a0.getD v1.toNat Z5).To == (a0.getD (IntKind.i64.wrap (v1 - 1)).toNat Z5).To) && (((a0.getD v1.toNat Z5).Sent == (a0.getD (IntKind.i64.wrap (v1 - 1)).toNat Z5).Sent) && (((a0.getD v1.toNat Z5).Received == (a0.getD (IntKind.i64.wrap (v1 - 1)).toNat Z5).Received) && (((a0.getD v1.toNat Z5).Least == (a0.getD (IntKind.i64.wrap (v1 - 1)).toNat Z5).Least) && true))))))))))) I eq25 I I I I) <| AOpsD.nil (by kernel_rfl) I <| Zf ?_
     have hif := Z1u h
     refine Z14 I (fun hc => ?_) (fun hc => ?_)
     ·have h := hif.1 hc
      refine Zg <| Zc <| Z2 I (Zh (v := (.vs 0)) I I) I <| Z2 I (Zh (v := (.int .i64 v1)) I I) I ?_
      have ⟨hg10, h⟩ := Zw h
      have ⟨hg11, h⟩ := Zw h
      refine Z2 I (Z36 (v := (.vs 0)) (n := 0) (off := 0) (len := a0.length) (l := a0) (enc := Z7) (kl := .i64) (lo := v1) I s29 I I (Z20 _ _ _) I hg10 I) I <| Z2 I (Zk (v := (.vsub 0 (0 + v1.toNat) ((a0.length : Int).toNat - v1.toNat) false)) I I) I <| Ze <| Zf <| Zg <| Zg <| Zc <| Z2 I (Zk (v := (.int .i64 1)) I I) I ?_
      refine Ze <| Zf <| AWp.weaken (st' := ⟨[(0, (.vs 0)), (3, (.int .i64 v1)), (4, (.vsub 0 (0 + v1.toNat) ((a0.length : Int).toNat - v1.toNat) false)), (5, (.int .i64 1))], [(0, (.vec 10 (List.map Z7 a0)))]⟩) ⟨rfl, rfl, rfl, rfl, trivial⟩ ⟨rfl, trivial⟩ ?_
      refine Z1l (V := Int × Int × (List Z9)) (X := Int × (List Z9)) (lp := fun k v => Z5a K v1 a0 (Z5s K) k v.1 v.2.1 v.2.2 = some r) (sh := fun v => ⟨[(0, (.vs 0)), (3, (.int .i64 v.1)), (4, (.vsub 0 (0 + v1.toNat) ((a0.length : Int).toNat - v1.toNat) false)), (5, (.int .i64 v.2.1))], [(0, (.vec 10 (List.map Z7 v.2.2)))]⟩) (x := fun v => Z5s K v.1 v.2 = some r) (shx := fun v => ⟨[(0, (.vs 0)), (3, (.int .i64 v.1))], [(0, (.vec 10 (List.map Z7 v.2)))]⟩) (k := K) (v := (v1, 1, a0)) h ?_ ?_
      ·intro v h
       obtain ⟨v16, v17⟩ := v
       try dsimp only at h ⊢
       unfold Z5s at h
       refine Zf <| Zg <| Zc <| Z2 I (Zh (v := (.vs 0)) I I) I <| Z2 I (Zh (v := (.int .i64 v16)) I I) I ?_
       have ⟨hg20, h⟩ := Zw h
       have ⟨hg21, h⟩ := Zw h
       refine Z2 I (Z36 (v := (.vs 0)) (n := 0) (off := 0) (len := v17.length) (l := v17) (enc := Z7) (kl := .i64) (lo := v16) I s29 I I (Z20 _ _ _) I hg20 I) I ?_
       have ⟨hg22, h⟩ := Zw h
       refine Z2 I (st_clear (v := (.vsub 0 (0 + v16.toNat) ((v17.length : Int).toNat - v16.toNat) false)) (n := 0) (off := (0 + v16.toNat)) (len := ((v17.length : Int).toNat - v16.toNat)) (l := v17) (enc := Z7) Z9j ze25 I I I (Z3k hg22) Z1j) I <| Ze <| Zf <| Zg <| Zc <| Z2 I (Zh (v := (.vs 0)) I I) I <| Z2 I (Zh (v := (.int .i64 v16)) I I) I ?_
       have ⟨hg23, h⟩ := Zw h
       have ⟨hg24, h⟩ := Zw h
       refine Z2 I (Z4x (v := (.vs 0)) (n := 0) (off := 0) (len := (v17.take (0 + v16.toNat) ++ List.replicate ((v17.length : Int).toNat - v16.toNat) Z5 ++ v17.drop ((0 + v16.toNat) + ((v17.length : Int).toNat - v16.toNat))).length) (l := (v17.take (0 + v16.toNat) ++ List.replicate ((v17.length : Int).toNat - v16.toNat) Z5 ++ v17.drop ((0 + v16.toNat) + ((v17.length : Int).toNat - v16.toNat)))) (enc := Z7) (kh := .i64) (hi := v16) I s29 I I (Z20 _ _ _) I hg23 I) I <| Z2 I (Zk (v := (.vsub 0 (0 + (0 : Int).toNat) (v16.toNat - (0 : Int).toNat) false)) I I) I <| Ze <| Zf <| Z1c <| At.overR <| Z1i ?_
       refine Z1i (At.overR ?_)
       refine Z1i <| At.ghost (st' := ⟨[(2, (.vs 0))], [(0, (.vec 10 (List.map Z7 (((v17.take (0 + v16.toNat) ++ List.replicate ((v17.length : Int).toNat - v16.toNat) Z5 ++ v17.drop ((0 + v16.toNat) + ((v17.length : Int).toNat - v16.toNat))).drop (0 + (0 : Int).toNat)).take (v16.toNat - (0 : Int).toNat)))))]⟩) (fun a w h => (Z1e ⟨[(2, (.vs 0))], [(0, (.vec 10 (List.map Z7 (((v17.take (0 + v16.toNat) ++ List.replicate ((v17.length : Int).toNat - v16.toNat) Z5 ++ v17.drop ((0 + v16.toNat) + ((v17.length : Int).toNat - v16.toNat))).drop (0 + (0 : Int).toNat)).take (v16.toNat - (0 : Int).toNat)))))]⟩ (Z9t (k := 2) (m := 0) (sz := 10) (off := (0 + (0 : Int).toNat)) (len := (v16.toNat - (0 : Int).toNat)) (enc := Z7) (l := (v17.take (0 + v16.toNat) ++ List.replicate ((v17.length : Int).toNat - v16.toNat) Z5 ++ v17.drop ((0 + v16.toNat) + ((v17.length : Int).toNat - v16.toNat)))) I hg24 a w (Z1e ⟨[(2, (.vsub 0 (0 + (0 : Int).toNat) (v16.toNat - (0 : Int).toNat) false))], [(0, (.vec 10 (List.map Z7 (v17.take (0 + v16.toNat) ++ List.replicate ((v17.length : Int).toNat - v16.toNat) Z5 ++ v17.drop ((0 + v16.toNat) + ((v17.length : Int).toNat - v16.toNat))))))]⟩ h ⟨rfl, trivial⟩ ⟨rfl, trivial⟩)) ⟨rfl, trivial⟩ ⟨rfl, trivial⟩)) ?_
       have h := Option.some.inj h
       subst h
       refine (hret _ ?_).1
       exact ⟨[(.vs 0)], ⟨rfl, trivial⟩, rfl, ⟨rfl, trivial⟩⟩
      ·intro N k15 v h IH15 J15
       obtain ⟨v12, v13, v14⟩ := v
       try dsimp only at h IH15 J15 ⊢
       cases k15 with
       | zero => cases h
       | succ k15 =>
        rw [Z5a] at h
        refine Zg <| Zg <| Zc <| Z2 I (Zh (v := (.int .i64 v13)) I I) I <| Z2 I (Zh (v := (.vsub 0 (0 + v1.toNat) ((a0.length : Int).toNat - v1.toNat) false)) I I) I ?_
        have ⟨hg26, h⟩ := Zw h
        refine Z2 I (stx_lenVS (v := (.vsub 0 (0 + v1.toNat) ((a0.length : Int).toNat - v1.toNat) false)) (n := 0) (off := (0 + v1.toNat)) (len := ((a0.length : Int).toNat - v1.toNat)) (l := v14) (enc := Z7) I u29 I I (Z3k hg26)) I <| Z2 I (Z1q (k := .i64) (a := v13) (b := ((((a0.length : Int).toNat - v1.toNat) : Nat) : Int)) (c := (decide (v13 < ((((a0.length : Int).toNat - v1.toNat) : Nat) : Int)))) I I I I) I <| Ze <| Zf ?_
        have hif := Z1u h
        refine Z14 I (fun hc => ?_) (fun hc => ?_)
        ·have h := hif.1 hc
         refine Z16 <| Zf <| Zg <| AWp.block <| Zg <| Z1n mixed <| Z8 0 I (Zh (v := (.vsub 0 (0 + v1.toNat) ((a0.length : Int).toNat - v1.toNat) false)) I I) <| Z8 1 I (Zh (v := (.int .i64 v13)) I I) ?_
         have ⟨hg27, h⟩ := Zw h
         have ⟨hg28, h⟩ := Zw h
         refine Z8 2 I (Z23 (k := .i64) (v := (.vsub 0 (0 + v1.toNat) ((a0.length : Int).toNat - v1.toNat) false)) (n := 0) (off := (0 + v1.toNat)) (len := ((a0.length : Int).toNat - v1.toNat)) (es := (List.map Z7 v14)) (j := v13) (m := ((0 + v1.toNat) + v13.toNat)) I s29 I I (Z3k hg27) I hg28 (I)) ?_
         have ⟨hg29, h⟩ := Zw h
         refine Z8 3 I (Z2r (l := v14) (enc := Z7) (z := Z5) (vs := (Z7 (v14.getD ((0 + v1.toNat) + v13.toNat) Z5)).cells) I a25 I I hg29 I I) <| Z8 4 I (Zh (v := (.vsub 0 (0 + v1.toNat) ((a0.length : Int).toNat - v1.toNat) false)) I I) <| Z8 5 I (Zh (v := (.int .i64 v13)) I I) <| Z8 6 I (Z1h (k := .i64) (a := v13) (b := 1) (c := (IntKind.i64.wrap (v13 - 1))) I I I I) ?_
         have ⟨hg30, h⟩ := Zw h
         have ⟨hg31, h⟩ := Zw h
         refine Z8 7 I (Z23 (k := .i64) (v := (.vsub 0 (0 + v1.toNat) ((a0.length : Int).toNat - v1.toNat) false)) (n := 0) (off := (0 + v1.toNat)) (len := ((a0.length : Int).toNat - v1.toNat)) (es := (List.map Z7 v14)) (j := (IntKind.i64.wrap (v13 - 1))) (m := ((0 + v1.toNat) + (IntKind.i64.wrap (v13 - 1)).toNat)) I s29 I I (Z3k hg30) I hg31 (I)) ?_
         have ⟨hg32, h⟩ := Zw h
         refine Z8 8 I (Z2r (l := v14) (enc := Z7) (z := Z5) (vs := (Z7 (v14.getD ((0 + v1.toNat) + (IntKind.i64.wrap (v13 - 1)).toNat) Z5)).cells) I a25 I I hg32 I I) <| Z8 9 I (Z5g (xs := (Z7 (v14.getD ((0 + v1.toNat) + v13.toNat) Z5)).cells) (ys := (Z7 (v14.getD ((0 + v1.toNat) + (IntKind.i64.wrap (v13 - 1)).toNat) Z5)).cells) (b := (((v14.getD ((0 + v1.toNat) + v13.toNat) Z5).Kind == (v14.getD ((0 + v1.toNat) + (IntKind.i64.wrap (v13 - 1)).toNat) Z5).Kind) && (((v14.getD ((0 + v1.toNat) + v13.toNat) Z5).A.Trace == (v14.getD ((0 + v1.toNat) + (IntKind.i64.wrap (v13 - 1)).toNat) Z5).A.Trace) && (((v14.getD ((0 + v1.toNat) + v13.toNat) Z5).A.Id == (v14.getD ((0 + v1.toNat) + (IntKind.i64.wrap (v13 - 1)).toNat) Z5).A.Id) && (((v14.getD ((0 + v1.toNat) + v13.toNat) Z5).B.Trace == (v14.getD ((0 + v1.toNat) + (IntKind.i64.wrap (v13 - 1)).toNat) Z5).B.Trace) && (((v14.getD ((0 + v1.toNat) + v13.toNat) Z5).B.Id == (v14.getD ((0 + v1.toNat) + (IntKind.i64.wrap (v13 - 1)).toNat) Z5).B.Id) && (((v14.getD ((0 + v1.toNat) + v13.toNat) Z5).From == (v14.getD ((0 + v1.toNat) + (IntKind.i64.wrap (v13 - 1)).toNat) Z5).From) && (((v14.getD ((0 + v1.toNat) + v13.toNat) Z5).To == (v14.getD ((0 + v1.toNat) + (IntKind.i64.wrap (v13 - 1)).toNat) Z5).To) && (((v14.getD ((0 + v1.toNat) + v13.toNat) Z5).Sent == (v14.getD ((0 + v1.toNat) + (IntKind.i64.wrap (v13 - 1)).toNat) Z5).Sent) && (((v14.getD ((0 + v1.toNat) + v13.toNat) Z5).Received == (v14.getD ((0 + v1.toNat) + (IntKind.i64.wrap (v13 - 1)).toNat) Z5).Received) && (((v14.getD ((0 + v1.toNat) + v13.toNat) Z5).Least == (v14.getD ((0 + v1.toNat) + (IntKind.i64.wrap (v13 - 1)).toNat) Z5).Least) && true))))))))))) (c := (!(((v14.getD ((0 + v1.toNat) + v13.toNat) Z5).Kind == (v14.getD ((0 + v1.toNat) + (IntKind.i64.wrap (v13 - 1)).toNat) Z5).Kind) && (((v14.getD ((0 + v1.toNat) + v13.toNat) Z5).A.Trace == (v14.getD ((0 + v1.toNat) + (IntKind.i64.wrap (v13 - 1)).toNat) Z5).A.Trace) && (((v14.getD ((0 + v1.toNat) + v13.toNat) Z5).A.Id == (v14.getD ((0 + v1.toNat) + (IntKind.i64.wrap (v13 - 1)).toNat) Z5).A.Id) && (((v14.getD ((0 + v1.toNat) + v13.toNat) Z5).B.Trace == (v14.getD ((0 + v1.toNat) + (IntKind.i64.wrap (v13 - 1)).toNat) Z5).B.Trace) && (((v14.getD ((0 + v1.toNat) + v13.toNat) Z5).B.Id == (v14.getD ((0 + v1.toNat) + (IntKind.i64.wrap (v13 - 1)).toNat) Z5).B.Id) && (((v14.getD ((0 + v1.toNat) + v13.toNat) Z5).From == (v14.getD ((0 + v1.toNat) + (IntKind.i64.wrap (v13 - 1)).toNat) Z5).From) && (((v14.getD ((0 + v1.toNat) + v13.toNat) Z5).To == (v14.getD ((0 + v1.toNat) + (IntKind.i64.wrap (v13 - 1)).toNat) Z5).To) && (((v14.getD ((0 + v1.toNat) + v13.toNat) Z5).Sent == (v14.getD ((0 + v1.toNat) + (IntKind.i64.wrap (v13 - 1)).toNat) Z5).Sent) && (((v14.getD ((0 + v1.toNat) + v13.toNat) Z5).Received == (v14.getD ((0 + v1.toNat) + (IntKind.i64.wrap (v13 - 1)).toNat) Z5).Received) && (((v14.getD ((0 + v1.toNat) + v13.toNat) Z5).Least == (v14.getD ((0 + v1.toNat) + (IntKind.i64.wrap (v13 - 1)).toNat) Z5).Least) && true)))))))))))) I eq25 I I I I) <| AOpsD.nil (by kernel_rfl) I <| Zf ?_
         refine AWp.join (V := Int × (List Z9)) (lp := fun v => Z8o K (Z5a K v1 a0 (Z5s K) k15) v13 v.1 v.2 = some r) (sh := fun v => ⟨[(0, (.vs 0)), (3, (.int .i64 v.1)), (4, (.vsub 0 (0 + v1.toNat) ((a0.length : Int).toNat - v1.toNat) false)), (5, (.int .i64 v13))], [(0, (.vec 10 (List.map Z7 v.2)))]⟩) ?_ ?_
         ·intro v h
          obtain ⟨v33, v34⟩ := v
          try dsimp only at h ⊢
          unfold Z8o at h
          refine At.end <| Zf <| Zc <| Z2 I (Zh (v := (.int .i64 v13)) I I) I <| Z2 I (Z1h (k := .i64) (a := v13) (b := 1) (c := (IntKind.i64.wrap (v13 + 1))) I I I I) I <| Z2 I (Zk (v := (.int .i64 (IntKind.i64.wrap (v13 + 1)))) I I) I <| Ze ?_
          exact Zy (st' := ⟨[(0, (.vs 0)), (3, (.int .i64 v33)), (4, (.vsub 0 (0 + v1.toNat) ((a0.length : Int).toNat - v1.toNat) false)), (5, (.int .i64 (IntKind.i64.wrap (v13 + 1))))], [(0, (.vec 10 (List.map Z7 v34)))]⟩) ⟨rfl, rfl, rfl, rfl, trivial⟩ ⟨rfl, trivial⟩ (IH15 _ (v33, (IntKind.i64.wrap (v13 + 1)), v34) (Nat.lt_succ_self _) h)
         ·intro J35
          have hif := Z1u h
          refine Z14 I (fun hc => ?_) (fun hc => ?_)
          ·have h := hif.1 hc
           refine Zg <| Zc <| Z2 I (Zh (v := (.vs 0)) I I) I <| Z2 I (Zh (v := (.int .i64 v12)) I I) I <| Z2 I (Zh (v := (.vsub 0 (0 + v1.toNat) ((a0.length : Int).toNat - v1.toNat) false)) I I) I <| Z2 I (Zh (v := (.int .i64 v13)) I I) I ?_
           have ⟨hg36, h⟩ := Zw h
           have ⟨hg37, h⟩ := Zw h
           refine Z2 I (Z23 (k := .i64) (v := (.vsub 0 (0 + v1.toNat) ((a0.length : Int).toNat - v1.toNat) false)) (n := 0) (off := (0 + v1.toNat)) (len := ((a0.length : Int).toNat - v1.toNat)) (es := (List.map Z7 v14)) (j := v13) (m := ((0 + v1.toNat) + v13.toNat)) I s29 I I (Z3k hg36) I hg37 (I)) I ?_
           have ⟨hg38, h⟩ := Zw h
           refine Z2 I (Z2r (l := v14) (enc := Z7) (z := Z5) (vs := (Z7 (v14.getD ((0 + v1.toNat) + v13.toNat) Z5)).cells) I a25 I I hg38 I I) I ?_
           have ⟨hg39, h⟩ := Zw h
           refine Z2 I (Z23 (k := .i64) (v := (.vs 0)) (n := 0) (off := 0) (len := v14.length) (es := (List.map Z7 v14)) (j := v12) (m := v12.toNat) I s29 I I (Z20 _ _ _) I hg39 (Nat.zero_add _)) I ?_
           have ⟨hg40, h⟩ := Zw h
           refine Z2 I (Z86 (l := v14) (enc := Z7) (z := Z5) (a := (v14.getD ((0 + v1.toNat) + v13.toNat) Z5)) (v := (Z7 (v14.getD ((0 + v1.toNat) + v13.toNat) Z5))) sz25 I I hg40 I Z1j I I I I) I <| Ze <| Zf <| Zc <| Z2 I (Zh (v := (.int .i64 v12)) I I) I <| Z2 I (Z1h (k := .i64) (a := v12) (b := 1) (c := (IntKind.i64.wrap (v12 + 1))) I I I I) I <| Z2 I (Zk (v := (.int .i64 (IntKind.i64.wrap (v12 + 1)))) I I) I <| Ze ?_
           exact Zy (st' := ⟨[(0, (.vs 0)), (3, (.int .i64 (IntKind.i64.wrap (v12 + 1)))), (4, (.vsub 0 (0 + v1.toNat) ((a0.length : Int).toNat - v1.toNat) false)), (5, (.int .i64 v13))], [(0, (.vec 10 (List.map Z7 (v14.set v12.toNat (v14.getD ((0 + v1.toNat) + v13.toNat) Z5)))))]⟩) ⟨rfl, rfl, rfl, rfl, trivial⟩ ⟨rfl, trivial⟩ (J35 ((IntKind.i64.wrap (v12 + 1)), (v14.set v12.toNat (v14.getD ((0 + v1.toNat) + v13.toNat) Z5))) h)
          ·have h := hif.2 hc
           refine Z16 ?_
           exact Zy (st' := ⟨[(0, (.vs 0)), (3, (.int .i64 v12)), (4, (.vsub 0 (0 + v1.toNat) ((a0.length : Int).toNat - v1.toNat) false)), (5, (.int .i64 v13))], [(0, (.vec 10 (List.map Z7 v14)))]⟩) ⟨rfl, rfl, rfl, rfl, trivial⟩ ⟨rfl, trivial⟩ (J35 (v12, v14) h)
        ·have h := hif.2 hc
         refine AWp.exit <| At.thru ?_
         exact Zy (st' := ⟨[(0, (.vs 0)), (3, (.int .i64 v12))], [(0, (.vec 10 (List.map Z7 v14)))]⟩) ⟨rfl, rfl, trivial⟩ ⟨rfl, trivial⟩ (J15 (v12, v14) h)
     ·have h := hif.2 hc
      refine Z16 <| At.end <| Zf <| Zc <| Z2 I (Zh (v := (.int .i64 v1)) I I) I <| Z2 I (Z1h (k := .i64) (a := v1) (b := 1) (c := (IntKind.i64.wrap (v1 + 1))) I I I I) I <| Z2 I (Zk (v := (.int .i64 (IntKind.i64.wrap (v1 + 1)))) I I) I <| Ze ?_
      exact Zy (st' := ⟨[(0, (.vs 0)), (3, (.int .i64 (IntKind.i64.wrap (v1 + 1))))], [(0, (.vec 10 (List.map Z7 a0)))]⟩) ⟨rfl, rfl, trivial⟩ ⟨rfl, trivial⟩ (IH2 _ (IntKind.i64.wrap (v1 + 1)) (Nat.lt_succ_self _) h)
    ·have h := hif.2 hc
     refine AWp.exit <| At.thru ?_
     exact Zy (st' := ⟨[(0, (.vs 0))], [(0, (.vec 10 (List.map Z7 a0)))]⟩) ⟨rfl, trivial⟩ ⟨rfl, trivial⟩ (J2 () h)
def F19 (K : Nat) (a0 : (List Z9)) : Option ((List Z9)) :=
 (F55 K a0).bind fun v2 =>
  (sortF (fun a b => F15 K a b) v2).bind fun v4 =>
   (F57 K v4).bind fun v6 =>
    some v6
theorem F19_ok (K : Nat) (a0 : (List Z9)) (r : (List Z9)) (h : F19 K a0 = some r) : ACall P 19 ⟨[(.sl 10 (a0.map Z7) false)], [], (.sl 10 (r.map Z7) false), [], []⟩ := by
 refine Z1p Try.func19 Try.results19 rfl Try.ntmps19 rfl rfl rfl ?_
 intro E Q hP hN hro hret
 obtain ⟨P', nt', w0, F0, p0, S0, β0, ro0⟩ := E
 simp only at hP hN
 subst hP hN
 dsimp only [argT]
 unfold F19 at h
 refine Zg <| Zc <| Z2 I (Zk (v := (.sl 10 [] false)) I I) I <| Ze <| Zf <| Zg <| Zc <| Z2 I (Zh (v := (.sl 10 (a0.map Z7) false)) I I) I ?_
 have ⟨v2, hv2, h⟩ := Z17 h
 refine Z2 I (Z65 (sz := 10) (es := (List.map Z7 v2)) (ar := [(.sl 10 (a0.map Z7) false)]) (caps := []) Try.call55 ((F55_ok K a0 v2 hv2).sw 2 5) I I ⟨rfl, trivial⟩ I) I <| Z2 I (Zk (v := (.vs 5)) I I) I <| Ze <| Zf <| Zg <| Zc <| Z2 I (Zh (v := (.vs 5)) I I) I ?_
 have ⟨v4, hv4, h⟩ := Z17 h
 refine Z2 I (Z94 (d := some 7) (c := ⟨[(.vs 5), (.clo 15 [])], [(5, (.vec 10 (List.map Z7 v2)))], .tup [], [(5, .vec 10 (List.map Z7 v4))], []⟩) (ar := [(.vs 5), (.clo 15 [])]) (caps := []) (news := []) (forg := []) Try.call56 (sort_ok (n := 5) (enc := Z7) (l := v2) (caps := []) (c := (fun a b => F15 K a b)) sortC56 Try.call15 Z1j (fun _ => I) (fun a b m hm => F15_ok K a b m hm) hv4) I I ⟨rfl, rfl, trivial⟩ I ⟨rfl, trivial⟩ I) I <| Ze <| Zf <| Zg <| Zc <| Z2 I (Zh (v := (.vs 5)) I I) I ?_
 have ⟨v6, hv6, h⟩ := Z17 h
 refine Z2 I (Z94 (d := some 9) (c := ⟨[(.vs 5)] ++ [], [(5, (.vec 10 (List.map Z7 v4)))], .vs 5, [(5, .vec 10 (List.map Z7 v6))], [5]⟩) (ar := [(.vs 5)]) (caps := []) (news := []) (forg := [5]) Try.call57 ((F57_ok K v4 v6 hv6).sw 0 5) I I ⟨rfl, trivial⟩ I ⟨rfl, trivial⟩ I) I <| Z2 I (Zk (v := (.vs 5)) I I) I <| Ze <| Zf <| Z1c <| At.ghost (st' := ⟨[(2, (.sl 10 (v6.map Z7) false))], []⟩) (fun a w h => (Z1e ⟨[(2, (.sl 10 (v6.map Z7) false))], []⟩ (Z29 (m := 5) (sz := 10) (es := (List.map Z7 v6)) a w (Z1e ⟨[(2, (.vs 5))], [(5, (.vec 10 (List.map Z7 v6)))]⟩ h ⟨rfl, trivial⟩ ⟨rfl, trivial⟩)) ⟨rfl, trivial⟩ trivial)) ?_
 have h := Option.some.inj h
 subst h
 refine (hret _ ?_).1
 exact ⟨[(.sl 10 (v6.map Z7) false)], ⟨rfl, trivial⟩, rfl, trivial⟩
end Go.AM.MsgC
