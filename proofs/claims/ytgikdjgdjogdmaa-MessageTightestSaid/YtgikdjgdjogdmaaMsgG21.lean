/- What these functions compute, each with its walk: F64, F63, F65, F67, F66, F40, F41, F11. -/
import Derived.Test.YtgikdjgdjogdmaaMsgT
import Derived.Test.YtgikdjgdjogdmaaMsgG0
import Derived.Test.YtgikdjgdjogdmaaMsgG1
import Derived.Test.YtgikdjgdjogdmaaMsgG2
import Derived.Test.YtgikdjgdjogdmaaMsgG4
import Derived.Test.YtgikdjgdjogdmaaMsgG6
import Derived.Test.YtgikdjgdjogdmaaMsgG9
import Derived.Test.YtgikdjgdjogdmaaMsgG10
import Derived.Test.YtgikdjgdjogdmaaMsgG12
namespace Go.AM.Msg
open Go Go.AM Go.Proofs
set_option maxRecDepth 100000
set_option maxHeartbeats 2000000
def F64 (K : Nat) (a0 : Z8) : Option (Bool) :=
 if (a0.From != a0.To) = true then
  some true
 else
  (F27 K a0).bind fun v2 =>
   some (decide (v2 < 0))
theorem F64_ok (K : Nat) (a0 : Z8) (r : Bool) (h : F64 K a0 = some r) : ACall P 64 ⟨[(Z3 a0)], [], (.bool r), [], []⟩ := by
 refine Z1q Try.func64 Try.results64 rfl Try.ntmps64 rfl rfl rfl ?_
 intro E Q hP hN hro hret
 obtain ⟨P', nt', w0, F0, p0, S0, β0, ro0⟩ := E
 simp only at hP hN
 subst hP hN
 dsimp only [argT]
 unfold F64 at h
 refine Zf <| Zb <| Z2 I (st_box (v := (Z3 a0)) (cs := (Z3 a0).cells) I I I I I) I <| Z2 I (Zi (v := (.bool false)) I I) I <| Zd <| Ze <| Zf <| Zb ?_
 refine Z2 I (Zr (m := 1) (o := 0) I f25_3 I I) I <| Z2 I (Zz (cs := (Z3 a0).cells) (v := (.int .i64 a0.From)) I o3 I I I) I <| Z2 I (Zr (m := 1) (o := 0) I f25_4 I I) I <| Z2 I (Zz (cs := (Z3 a0).cells) (v := (.int .i64 a0.To)) I o3 I I I) I <| Z2 I (Z1k (k := .i64) (a := a0.From) (b := a0.To) (c := (a0.From != a0.To)) I I I I) I <| Z2 I (Zh (v := (.bool (a0.From != a0.To))) I I) I ?_
 have hif := Z1u h
 refine AOps.split (fun hc => ?_) (fun hc => ?_)
 ·have h := hif.1 hc
  refine Zt I I I I I I I <| Zt I I I I I I I <| Zt I I I I I I I <| Z2 I (st_pickT (v := (.bool true)) I I I) I <| Z2 I (Zi (v := (.bool true)) I I) I <| Zd <| Ze <| Z1d ?_
  have h := Option.some.inj h
  subst h
  refine (hret _ ?_).1
  exact ⟨[(.bool true)], ⟨rfl, trivial⟩, rfl, trivial⟩
 ·have h := hif.2 hc
  refine Z11 I I I I (Z18 (cs := (Z3 a0).cells) (vs := (Z3 a0).cells) I a25 I I I I) I ?_
  have ⟨v2, hv2, h⟩ := Z16 h
  refine Z11 I I I I (Z15 (ar := [(Z3 a0)]) (caps := []) Try.call27 (F27_ok K a0 v2 hv2) I I ⟨rfl, trivial⟩ I) I <| Z11 I I I I (Z1k (k := .i64) (a := v2) (b := 0) (c := (decide (v2 < 0))) I I I I) I <| Z2 I (Z1r (v := (.bool (decide (v2 < 0)))) I I I) I <| Z2 I (Zi (v := (.bool (decide (v2 < 0)))) I I) I <| Zd <| Ze <| Z1d ?_
  have h := Option.some.inj h
  subst h
  refine (hret _ ?_).1
  exact ⟨[(.bool (decide (v2 < 0)))], ⟨rfl, trivial⟩, rfl, trivial⟩
def F63_c5 (K : Nat) (v4 : (List Z8)) : Option ((List Z8)) :=
 some v4
def F63_j12 (K : Nat) (b7 : Int → (List Z8) → Option ((List Z8))) (v1 : Int) (v11 : (List Z8)) : Option ((List Z8)) :=
 b7 (IntKind.i64.wrap (v1 + 1)) v11
def F63_l3 (K : Nat) (a0 : (List Z8)) (c6 : (List Z8) → Option ((List Z8))) : Nat → Int → (List Z8) → Option ((List Z8))
 | 0, _, _ => none
 | k3 + 1, v1, v2 =>
  if (decide (v1 < (a0.length : Int))) = true then
   if (0 : Int) ≤ v1 ∧ v1 < a0.length then
    (F64 K (a0.getD v1.toNat Z4)).bind fun v10 =>
     if v10 = true then
      if v2.length + [(a0.getD v1.toNat Z4)].length ≤ 1073741824 then
       F63_j12 K (F63_l3 K a0 c6 k3) v1 (v2 ++ [(a0.getD v1.toNat Z4)])
      else none
     else
      F63_j12 K (F63_l3 K a0 c6 k3) v1 v2
   else none
  else
   c6 v2
def F63 (K : Nat) (a0 : (List Z8)) : Option ((List Z8)) :=
 F63_l3 K a0 (F63_c5 K) K 0 []
theorem F63_ok (K : Nat) (a0 : (List Z8)) (r : (List Z8)) (h : F63 K a0 = some r) : ACall P 63 ⟨[(.sl 10 (a0.map Z3) false), (.clo 64 [])], [], .vs 4, [(4, .vec 10 (List.map Z3 r))], [4]⟩ := by
 refine Z1q Try.func63 Try.results63 rfl Try.ntmps63 rfl rfl rfl ?_
 intro E Q hP hN hro hret
 obtain ⟨P', nt', w0, F0, p0, S0, β0, ro0⟩ := E
 simp only at hP hN
 subst hP hN
 dsimp only [argT]
 unfold F63 at h
 refine Zf <| Zb <| Z2 I (Zi (v := (.sl 10 [] false)) I I) I <| Zd <| Ze <| Zf <| Zb <| Z2 I (Zi (v := (.sl 10 [] true)) I I) I ?_
 refine Zd <| Ze <| Zf <| Zf <| Zb <| Z2 I (Zh (v := (.sl 10 (a0.map Z3) false)) I I) I <| Z2 I (stx_len (l := a0) (enc := Z3) I s29 I) I <| Z2 I (Zh (v := (.int .i64 0)) I I) I ?_
 refine Zd <| Ze <| AWp.ghost (st' := ⟨[(1, (.clo 64 [])), (5, (.vs 5)), (8, (.sl 10 (a0.map Z3) false)), (9, (.int .i64 (a0.length : Int))), (10, (.int .i64 0))], [(5, (.vec 10 (List.map Z3 ([] : List Z8))))]⟩) (fun a w h => (Z19 ⟨[(1, (.clo 64 [])), (5, (.vs 5)), (8, (.sl 10 (a0.map Z3) false)), (9, (.int .i64 (a0.length : Int))), (10, (.int .i64 0))], [(5, (.vec 10 (List.map Z3 ([] : List Z8))))]⟩ (ghost_own (k := 5) (m := 5) (sz := 10) I I a w (Z19 ⟨[(5, (.sl 10 [] true)), (1, (.clo 64 [])), (8, (.sl 10 (a0.map Z3) false)), (9, (.int .i64 (a0.length : Int))), (10, (.int .i64 0))], []⟩ h ⟨rfl, rfl, rfl, rfl, rfl, trivial⟩ trivial)) ⟨rfl, rfl, rfl, rfl, rfl, trivial⟩ ⟨rfl, trivial⟩)) <| Z1s (st' := ⟨[(1, (.clo 64 [])), (5, (.vs 5)), (8, (.sl 10 (a0.map Z3) false)), (9, (.int .i64 (a0.length : Int))), (10, (.int .i64 0))], [(5, (.vec 10 (List.map Z3 [])))]⟩) ⟨rfl, rfl, rfl, rfl, rfl, trivial⟩ ⟨rfl, trivial⟩ ?_
 refine Z1h (V := Int × (List Z8)) (X := (List Z8)) (lp := fun k v => F63_l3 K a0 (F63_c5 K) k v.1 v.2 = some r) (sh := fun v => ⟨[(1, (.clo 64 [])), (5, (.vs 5)), (8, (.sl 10 (a0.map Z3) false)), (9, (.int .i64 (a0.length : Int))), (10, (.int .i64 v.1))], [(5, (.vec 10 (List.map Z3 v.2)))]⟩) (x := fun v => F63_c5 K v = some r) (shx := fun v => ⟨[(5, (.vs 5))], [(5, (.vec 10 (List.map Z3 v)))]⟩) (k := K) (v := (0, [])) h ?_ ?_
 ·intro v h
  revert h
  revert v
  intro v4 h
  try dsimp only at h ⊢
  unfold F63_c5 at h
  refine Ze <| Zf <| Zb <| Z2 I (Zh (v := (.vs 5)) I I) I <| Z2 I (Zi (v := (.vs 5)) I I) I <| Zd <| Ze <| Z1d ?_
  refine At.ghost (st' := ⟨[(4, (.vs 4))], [(4, (.vec 10 (List.map Z3 v4)))]⟩) (fun a w h => (Z19 ⟨[(4, (.vs 4))], [(4, (.vec 10 (List.map Z3 v4)))]⟩ (ghost_sw (a := 5) (b := 4) I I a w (Z19 ⟨[(4, (.vs 5))], [(5, (.vec 10 (List.map Z3 v4)))]⟩ h ⟨rfl, trivial⟩ ⟨rfl, trivial⟩)) ⟨rfl, trivial⟩ ⟨rfl, trivial⟩)) ?_
  have h := Option.some.inj h
  subst h
  refine (hret _ ?_).1
  exact ⟨[(.vs 4)], ⟨rfl, trivial⟩, rfl, ⟨rfl, trivial⟩⟩
 ·intro N k3 v h IH3 J3
  obtain ⟨v1, v2⟩ := v
  try dsimp only at h IH3 J3 ⊢
  cases k3 with
  | zero => cases h
  | succ k3 =>
   rw [F63_l3] at h
   refine Zf <| Zb <| Z2 I (Z1k (k := .i64) (a := v1) (b := (a0.length : Int)) (c := (decide (v1 < (a0.length : Int)))) I I I I) I <| Zd <| Ze <| Zf ?_
   have hif := Z1u h
   refine Z12 I (fun hc => ?_) (fun hc => ?_)
   ·have h := hif.1 hc
    refine Z14 <| Ze <| Zf <| AWp.block <| Zf <| Zb ?_
    have ⟨hg8, h⟩ := Zu h
    refine Z2 I (Z1p (k := .i64) (l := a0) (enc := Z3) (z := Z4) (n := v1) (cs := (Z3 (a0.getD v1.toNat Z4)).cells) (full := false) I s29 I I hg8 I) I <| Z2 I (st_loadIA (cs := (Z3 (a0.getD v1.toNat Z4)).cells) (vs := (Z3 (a0.getD v1.toNat Z4)).cells) I a25 I I I) I <| Z2 I (st_alloc (cs := [(.int .i64 0), (.int .i64 0), (.int .i64 0), (.int .i64 0), (.int .i64 0), (.int .i64 0), (.int .i64 0), (.int .i64 0), (.int .i64 0), (.int .i64 0)]) I z25 I I I) I <| Z2 I (Z1m (cs := [(.int .i64 0), (.int .i64 0), (.int .i64 0), (.int .i64 0), (.int .i64 0), (.int .i64 0), (.int .i64 0), (.int .i64 0), (.int .i64 0), (.int .i64 0)]) (vs := (Z3 (a0.getD v1.toNat Z4)).cells) (ds := (Z3 (a0.getD v1.toNat Z4)).cells) (v := (Z3 (a0.getD v1.toNat Z4))) sz25 I I I I I I I I) I <| Zd <| Ze <| Zf <| Zb ?_
    refine Z2 I (Zh (v := (.clo 64 [])) I I) I <| Z2 I (Z18 (cs := (Z3 (a0.getD v1.toNat Z4)).cells) (vs := (Z3 (a0.getD v1.toNat Z4)).cells) I a25 I I I I) I ?_
    have ⟨v10, hv10, h⟩ := Z16 h
    refine Z2 I (Z15 (ar := [(Z3 (a0.getD v1.toNat Z4))]) (caps := []) Try.call64 (F64_ok K (a0.getD v1.toNat Z4) v10 hv10) I I ⟨rfl, trivial⟩ I) I <| Zd <| Ze ?_
    refine AWp.join (V := (List Z8)) (lp := fun v => F63_j12 K (F63_l3 K a0 (F63_c5 K) k3) v1 v = some r) (sh := fun v => ⟨[(1, (.clo 64 [])), (5, (.vs 5)), (8, (.sl 10 (a0.map Z3) false)), (9, (.int .i64 (a0.length : Int))), (10, (.int .i64 v1))], [(5, (.vec 10 (List.map Z3 v)))]⟩) ?_ ?_
    ·intro v h
     revert h
     revert v
     intro v11 h
     try dsimp only at h ⊢
     unfold F63_j12 at h
     refine At.end <| Ze <| Zb <| Z2 I (Z1a (k := .i64) (a := v1) (b := 1) (c := (IntKind.i64.wrap (v1 + 1))) I I I I) I <| Z2 I (Zh (v := (.int .i64 (IntKind.i64.wrap (v1 + 1)))) I I) I <| Zd ?_
     exact Zw (st' := ⟨[(1, (.clo 64 [])), (5, (.vs 5)), (8, (.sl 10 (a0.map Z3) false)), (9, (.int .i64 (a0.length : Int))), (10, (.int .i64 (IntKind.i64.wrap (v1 + 1))))], [(5, (.vec 10 (List.map Z3 v11)))]⟩) ⟨rfl, rfl, rfl, rfl, rfl, trivial⟩ ⟨rfl, trivial⟩ (IH3 _ ((IntKind.i64.wrap (v1 + 1)), v11) (Nat.lt_succ_self _) h)
    ·intro J12
     have hif := Z1u h
     refine Z12 I (fun hc => ?_) (fun hc => ?_)
     ·have h := hif.1 hc
      refine Zb <| Z2 I (Zh (v := (.vs 5)) I I) I <| Z2 I (Z18 (cs := (Z3 (a0.getD v1.toNat Z4)).cells) (vs := (Z3 (a0.getD v1.toNat Z4)).cells) I a25 I I I I) I <| Z2 I (Z1g (vs := [(Z3 (a0.getD v1.toNat Z4))]) (enc := Z3) (l := [(a0.getD v1.toNat Z4)]) I el29 I I ⟨rfl, trivial⟩ I Z1e I I I I) I ?_
      have ⟨hg13, h⟩ := Zu h
      refine Z2 I (st_append (m := 5) (enc := Z3) (l := v2) (l' := [(a0.getD v1.toNat Z4)]) (src := (.vs 19)) (rd := [(19, (.vec 10 (List.map Z3 [(a0.getD v1.toNat Z4)])))]) I I el29 I u29 I I I I (oneRead I) Z1e hg13) I <| Z2 I (Zi (v := (.vs 5)) I I) I <| Zd ?_
      exact Zw (st' := ⟨[(1, (.clo 64 [])), (5, (.vs 5)), (8, (.sl 10 (a0.map Z3) false)), (9, (.int .i64 (a0.length : Int))), (10, (.int .i64 v1))], [(5, (.vec 10 (List.map Z3 (v2 ++ [(a0.getD v1.toNat Z4)]))))]⟩) ⟨rfl, rfl, rfl, rfl, rfl, trivial⟩ ⟨rfl, trivial⟩ (J12 (v2 ++ [(a0.getD v1.toNat Z4)]) h)
     ·have h := hif.2 hc
      refine Z14 ?_
      exact Zw (st' := ⟨[(1, (.clo 64 [])), (5, (.vs 5)), (8, (.sl 10 (a0.map Z3) false)), (9, (.int .i64 (a0.length : Int))), (10, (.int .i64 v1))], [(5, (.vec 10 (List.map Z3 v2)))]⟩) ⟨rfl, rfl, rfl, rfl, rfl, trivial⟩ ⟨rfl, trivial⟩ (J12 v2 h)
   ·have h := hif.2 hc
    refine AWp.exit <| At.thru ?_
    exact Zw (st' := ⟨[(5, (.vs 5))], [(5, (.vec 10 (List.map Z3 v2)))]⟩) ⟨rfl, trivial⟩ ⟨rfl, trivial⟩ (J3 v2 h)
def F65 (K : Nat) (a0 : Z8) (a1 : Z8) : Option (Int) :=
 (F51 K a0.From a1.From).bind fun v2 =>
  (F51 K a0.To a1.To).bind fun v4 =>
   (F27 K a0).bind fun v6 =>
    (F27 K a1).bind fun v8 =>
     (F51 K v6 v8).bind fun v10 =>
      (F15 K a0 a1).bind fun v12 =>
       (F50 K [v2, v4, v10, v12]).bind fun v14 =>
        some v14
theorem F65_ok (K : Nat) (a0 : Z8) (a1 : Z8) (r : Int) (h : F65 K a0 a1 = some r) : ACall P 65 ⟨[(Z3 a0), (Z3 a1)], [], (.int .i64 r), [], []⟩ := by
 refine Z1q Try.func65 Try.results65 rfl Try.ntmps65 rfl rfl rfl ?_
 intro E Q hP hN hro hret
 obtain ⟨P', nt', w0, F0, p0, S0, β0, ro0⟩ := E
 simp only at hP hN
 subst hP hN
 dsimp only [argT]
 unfold F65 at h
 refine Zf <| Zb <| Z2 I (st_box (v := (Z3 a0)) (cs := (Z3 a0).cells) I I I I I) I <| Z2 I (st_box (v := (Z3 a1)) (cs := (Z3 a1).cells) I I I I I) I <| Z2 I (Zi (v := (.int .i64 0)) I I) I <| Zd <| Ze <| Zf ?_
 refine Z1n mixed <| Z9 0 I (Zr (m := 2) (o := 0) I f25_3 I I) <| Z9 1 I (Zz (cs := (Z3 a0).cells) (v := (.int .i64 a0.From)) I o3 I I I) <| Z9 2 I (Zr (m := 3) (o := 0) I f25_3 I I) <| Z9 3 I (Zz (cs := (Z3 a1).cells) (v := (.int .i64 a1.From)) I o3 I I I) ?_
 have ⟨v2, hv2, h⟩ := Z16 h
 refine Z9 4 I (Z15 (ar := [(.int .i64 a0.From), (.int .i64 a1.From)]) (caps := []) Try.call51 (F51_ok K a0.From a1.From v2 hv2) I I ⟨rfl, rfl, trivial⟩ I) <| Z9 5 I (Zr (m := 2) (o := 0) I f25_4 I I) <| Z9 6 I (Zz (cs := (Z3 a0).cells) (v := (.int .i64 a0.To)) I o3 I I I) <| Z9 7 I (Zr (m := 3) (o := 0) I f25_4 I I) <| Z9 8 I (Zz (cs := (Z3 a1).cells) (v := (.int .i64 a1.To)) I o3 I I I) ?_
 have ⟨v4, hv4, h⟩ := Z16 h
 refine Z9 9 I (Z15 (ar := [(.int .i64 a0.To), (.int .i64 a1.To)]) (caps := []) Try.call51 (F51_ok K a0.To a1.To v4 hv4) I I ⟨rfl, rfl, trivial⟩ I) <| Z9 10 I (Z18 (cs := (Z3 a0).cells) (vs := (Z3 a0).cells) I a25 I I I I) ?_
 have ⟨v6, hv6, h⟩ := Z16 h
 refine Z9 11 I (Z15 (ar := [(Z3 a0)]) (caps := []) Try.call27 (F27_ok K a0 v6 hv6) I I ⟨rfl, trivial⟩ I) <| Z9 12 I (Z18 (cs := (Z3 a1).cells) (vs := (Z3 a1).cells) I a25 I I I I) ?_
 have ⟨v8, hv8, h⟩ := Z16 h
 refine Z9 13 I (Z15 (ar := [(Z3 a1)]) (caps := []) Try.call27 (F27_ok K a1 v8 hv8) I I ⟨rfl, trivial⟩ I) ?_
 have ⟨v10, hv10, h⟩ := Z16 h
 refine Z9 14 I (Z15 (ar := [(.int .i64 v6), (.int .i64 v8)]) (caps := []) Try.call51 (F51_ok K v6 v8 v10 hv10) I I ⟨rfl, rfl, trivial⟩ I) <| Z9 15 I (Z18 (cs := (Z3 a0).cells) (vs := (Z3 a0).cells) I a25 I I I I) <| Z9 16 I (Z18 (cs := (Z3 a1).cells) (vs := (Z3 a1).cells) I a25 I I I I) ?_
 have ⟨v12, hv12, h⟩ := Z16 h
 refine Z9 17 I (Z15 (ar := [(Z3 a0), (Z3 a1)]) (caps := []) Try.call15 (F15_ok K a0 a1 v12 hv12) I I ⟨rfl, rfl, trivial⟩ I) <| Z9 18 I (Z1g (vs := [(.int .i64 v2), (.int .i64 v4), (.int .i64 v10), (.int .i64 v12)]) (enc := Z13) (l := [v2, v4, v10, v12]) I el87 I I ⟨rfl, rfl, rfl, rfl, trivial⟩ I els_i64 I I I I) ?_
 have ⟨v14, hv14, h⟩ := Z16 h
 refine Z9 19 I (st_callB (rd := [(23, (.vec 1 (List.map Z13 [v2, v4, v10, v12])))]) (ar := [(.vs 23)]) (caps := []) Try.call50 (F50_ok K [v2, v4, v10, v12] v14 hv14) I I ⟨rfl, trivial⟩ (subS_mem ⟨rfl, trivial⟩) I I I) <| Z9 20 I (Zi (v := (.int .i64 v14)) I I) <| Z1l (by kernel_rfl) I <| Ze <| Z1d ?_
 have h := Option.some.inj h
 subst h
 refine (hret _ ?_).1
 exact ⟨[(.int .i64 v14)], ⟨rfl, trivial⟩, rfl, trivial⟩
def F67 (K : Nat) (a0 : Z8) (a1 : Z8) : Option (Bool) :=
 if (a0.From == a1.From) = true then
  some (a0.To == a1.To)
 else
  some false
theorem F67_ok (K : Nat) (a0 : Z8) (a1 : Z8) (r : Bool) (h : F67 K a0 a1 = some r) : ACall P 67 ⟨[(Z3 a0), (Z3 a1)], [], (.bool r), [], []⟩ := by
 refine Z1q Try.func67 Try.results67 rfl Try.ntmps67 rfl rfl rfl ?_
 intro E Q hP hN hro hret
 obtain ⟨P', nt', w0, F0, p0, S0, β0, ro0⟩ := E
 simp only at hP hN
 subst hP hN
 dsimp only [argT]
 unfold F67 at h
 refine Zf <| Zb <| Z2 I (st_box (v := (Z3 a0)) (cs := (Z3 a0).cells) I I I I I) I <| Z2 I (st_box (v := (Z3 a1)) (cs := (Z3 a1).cells) I I I I I) I <| Z2 I (Zi (v := (.bool false)) I I) I <| Zd <| Ze <| Zf ?_
 refine Zb <| Z2 I (Zr (m := 2) (o := 0) I f25_3 I I) I <| Z2 I (Zz (cs := (Z3 a0).cells) (v := (.int .i64 a0.From)) I o3 I I I) I <| Z2 I (Zr (m := 3) (o := 0) I f25_3 I I) I <| Z2 I (Zz (cs := (Z3 a1).cells) (v := (.int .i64 a1.From)) I o3 I I I) I <| Z2 I (Z1k (k := .i64) (a := a0.From) (b := a1.From) (c := (a0.From == a1.From)) I I I I) I <| Z2 I (Zh (v := (.bool (a0.From == a1.From))) I I) I ?_
 have hif := Z1u h
 refine AOps.split (fun hc => ?_) (fun hc => ?_)
 ·have h := hif.1 hc
  refine Z11 I I I I (Zr (m := 2) (o := 0) I f25_4 I I) I <| Z11 I I I I (Zz (cs := (Z3 a0).cells) (v := (.int .i64 a0.To)) I o3 I I I) I <| Z11 I I I I (Zr (m := 3) (o := 0) I f25_4 I I) I <| Z11 I I I I (Zz (cs := (Z3 a1).cells) (v := (.int .i64 a1.To)) I o3 I I I) I <| Z11 I I I I (Z1k (k := .i64) (a := a0.To) (b := a1.To) (c := (a0.To == a1.To)) I I I I) I <| Z2 I (st_pickT (v := (.bool (a0.To == a1.To))) I I I) I <| Z2 I (Zi (v := (.bool (a0.To == a1.To))) I I) I <| Zd ?_
  refine Ze <| Z1d ?_
  have h := Option.some.inj h
  subst h
  refine (hret _ ?_).1
  exact ⟨[(.bool (a0.To == a1.To))], ⟨rfl, trivial⟩, rfl, trivial⟩
 ·have h := hif.2 hc
  refine Zt I I I I I I I <| Zt I I I I I I I <| Zt I I I I I I I <| Zt I I I I I I I <| Zt I I I I I I I <| Z2 I (Z1r (v := (.bool false)) I I I) I <| Z2 I (Zi (v := (.bool false)) I I) I <| Zd ?_
  refine Ze <| Z1d ?_
  have h := Option.some.inj h
  subst h
  refine (hret _ ?_).1
  exact ⟨[(.bool false)], ⟨rfl, trivial⟩, rfl, trivial⟩
def F66_c3 (K : Nat) (a0 : (List Z8)) : Option ((List Z8)) :=
 some a0
def F66_c20 (K : Nat) (v18 : Int) (v19 : (List Z8)) : Option ((List Z8)) :=
 if (0 : Int) ≤ v18 ∧ v18 ≤ (v19.length : Int) ∧ (v19.length : Int) ≤ (v19.length : Nat) then
  if (0 + v18.toNat) + ((v19.length : Int).toNat - v18.toNat) ≤ v19.length then
   if (0 + v18.toNat) + ((v19.length : Int).toNat - v18.toNat) ≤ v19.length then
    if (0 : Int) ≤ 0 ∧ 0 ≤ v18 ∧ v18 ≤ ((v19.take (0 + v18.toNat) ++ List.replicate ((v19.length : Int).toNat - v18.toNat) Z4 ++ v19.drop ((0 + v18.toNat) + ((v19.length : Int).toNat - v18.toNat))).length : Nat) then
     if (0 + (0 : Int).toNat) + (v18.toNat - (0 : Int).toNat) ≤ (v19.take (0 + v18.toNat) ++ List.replicate ((v19.length : Int).toNat - v18.toNat) Z4 ++ v19.drop ((0 + v18.toNat) + ((v19.length : Int).toNat - v18.toNat))).length then
      some (((v19.take (0 + v18.toNat) ++ List.replicate ((v19.length : Int).toNat - v18.toNat) Z4 ++ v19.drop ((0 + v18.toNat) + ((v19.length : Int).toNat - v18.toNat))).drop (0 + (0 : Int).toNat)).take (v18.toNat - (0 : Int).toNat))
     else none
    else none
   else none
  else none
 else none
def F66_j39 (K : Nat) (b27 : Int → Int → (List Z8) → Option ((List Z8))) (v15 : Int) (v37 : Int) (v38 : (List Z8)) : Option ((List Z8)) :=
 b27 v37 (IntKind.i64.wrap (v15 + 1)) v38
def F66_l17 (K : Nat) (v1 : Int) (a0 : (List Z8)) (c21 : Int → (List Z8) → Option ((List Z8))) : Nat → Int → Int → (List Z8) → Option ((List Z8))
 | 0, _, _, _ => none
 | k17 + 1, v14, v15, v16 =>
  if (0 + v1.toNat) + ((a0.length : Int).toNat - v1.toNat) ≤ v16.length then
   if (decide (v15 < ((((a0.length : Int).toNat - v1.toNat) : Nat) : Int))) = true then
    if (0 + v1.toNat) + ((a0.length : Int).toNat - v1.toNat) ≤ v16.length then
     if (0 : Int) ≤ v15 ∧ v15 < (((a0.length : Int).toNat - v1.toNat) : Nat) then
      if ((0 + v1.toNat) + v15.toNat) < v16.length then
       if (0 + v1.toNat) + ((a0.length : Int).toNat - v1.toNat) ≤ v16.length then
        if (0 : Int) ≤ (IntKind.i64.wrap (v15 - 1)) ∧ (IntKind.i64.wrap (v15 - 1)) < (((a0.length : Int).toNat - v1.toNat) : Nat) then
         if ((0 + v1.toNat) + (IntKind.i64.wrap (v15 - 1)).toNat) < v16.length then
          (F67 K (v16.getD ((0 + v1.toNat) + v15.toNat) Z4) (v16.getD ((0 + v1.toNat) + (IntKind.i64.wrap (v15 - 1)).toNat) Z4)).bind fun v36 =>
           if (!v36) = true then
            if (0 + v1.toNat) + ((a0.length : Int).toNat - v1.toNat) ≤ v16.length then
             if (0 : Int) ≤ v15 ∧ v15 < (((a0.length : Int).toNat - v1.toNat) : Nat) then
              if ((0 + v1.toNat) + v15.toNat) < v16.length then
               if (0 : Int) ≤ v14 ∧ v14 < (v16.length : Nat) then
                if v14.toNat < v16.length then
                 F66_j39 K (F66_l17 K v1 a0 c21 k17) v15 (IntKind.i64.wrap (v14 + 1)) (v16.set v14.toNat (v16.getD ((0 + v1.toNat) + v15.toNat) Z4))
                else none
               else none
              else none
             else none
            else none
           else
            F66_j39 K (F66_l17 K v1 a0 c21 k17) v15 v14 v16
         else none
        else none
       else none
      else none
     else none
    else none
   else
    c21 v14 v16
  else none
def F66_l2 (K : Nat) (a0 : (List Z8)) (c4 : Option ((List Z8))) : Nat → Int → Option ((List Z8))
 | 0, _ => none
 | k2 + 1, v1 =>
  if (decide (v1 < (a0.length : Int))) = true then
   if (0 : Int) ≤ v1 ∧ v1 < (a0.length : Nat) then
    if v1.toNat < a0.length then
     if (0 : Int) ≤ (IntKind.i64.wrap (v1 - 1)) ∧ (IntKind.i64.wrap (v1 - 1)) < (a0.length : Nat) then
      if (IntKind.i64.wrap (v1 - 1)).toNat < a0.length then
       (F67 K (a0.getD v1.toNat Z4) (a0.getD (IntKind.i64.wrap (v1 - 1)).toNat Z4)).bind fun v11 =>
        if v11 = true then
         if (0 : Int) ≤ v1 ∧ v1 ≤ (a0.length : Int) ∧ (a0.length : Int) ≤ (a0.length : Nat) then
          if (0 + v1.toNat) + ((a0.length : Int).toNat - v1.toNat) ≤ a0.length then
           F66_l17 K v1 a0 (F66_c20 K) K v1 1 a0
          else none
         else none
        else
         (F66_l2 K a0 c4 k2) (IntKind.i64.wrap (v1 + 1))
      else none
     else none
    else none
   else none
  else
   c4
def F66 (K : Nat) (a0 : (List Z8)) : Option ((List Z8)) :=
 if (decide ((a0.length : Int) < 2)) = true then
  some a0
 else
  F66_l2 K a0 (F66_c3 K a0) K 1
theorem F66_ok (K : Nat) (a0 : (List Z8)) (r : (List Z8)) (h : F66 K a0 = some r) : ACall P 66 ⟨[(.vs 0), (.clo 67 [])], [(0, .vec 10 (List.map Z3 a0))], .vs 0, [(0, .vec 10 (List.map Z3 r))], [0]⟩ := by
 refine Z1q Try.func66 Try.results66 rfl Try.ntmps66 rfl rfl rfl ?_
 intro E Q hP hN hro hret
 obtain ⟨P', nt', w0, F0, p0, S0, β0, ro0⟩ := E
 simp only at hP hN
 subst hP hN
 dsimp only [argT]
 unfold F66 at h
 refine Zf <| Zb <| Z2 I (Zi (v := (.sl 10 [] false)) I I) I <| Zd <| Ze <| Zf <| Zf <| Zb ?_
 refine Z2 I (Zh (v := (.vs 0)) I I) I <| Z2 I (stx_lenV (l := a0) (enc := Z3) I u29 I I) I <| Z2 I (Z1k (k := .i64) (a := (a0.length : Int)) (b := 2) (c := (decide ((a0.length : Int) < 2))) I I I I) I <| Zd <| Ze ?_
 have hif := Z1u h
 refine Z12 I (fun hc => ?_) (fun hc => ?_)
 ·have h := hif.1 hc
  refine Zf <| Zb <| Z2 I (Zh (v := (.vs 0)) I I) I <| Z2 I (Zi (v := (.vs 0)) I I) I <| Zd <| Ze <| Z1d <| Z1i ?_
  have h := Option.some.inj h
  subst h
  refine (hret _ ?_).1
  exact ⟨[(.vs 0)], ⟨rfl, trivial⟩, rfl, ⟨rfl, trivial⟩⟩
 ·have h := hif.2 hc
  refine Z14 <| Ze <| Zf <| Zf <| Zb <| Z2 I (Zi (v := (.int .i64 1)) I I) I <| Zd <| Ze ?_
  refine Z1s (st' := ⟨[(0, (.vs 0)), (1, (.clo 67 [])), (5, (.int .i64 1))], [(0, (.vec 10 (List.map Z3 a0)))]⟩) ⟨rfl, rfl, rfl, trivial⟩ ⟨rfl, trivial⟩ ?_
  refine Z1h (V := Int) (X := Unit) (lp := fun k v => F66_l2 K a0 (F66_c3 K a0) k v = some r) (sh := fun v => ⟨[(0, (.vs 0)), (1, (.clo 67 [])), (5, (.int .i64 v))], [(0, (.vec 10 (List.map Z3 a0)))]⟩) (x := fun v => F66_c3 K a0 = some r) (shx := fun v => ⟨[(0, (.vs 0))], [(0, (.vec 10 (List.map Z3 a0)))]⟩) (k := K) (v := 1) h ?_ ?_
  ·intro v h
   try dsimp only at h ⊢
   unfold F66_c3 at h
   refine Ze <| Zf <| Zb <| Z2 I (Zh (v := (.vs 0)) I I) I <| Z2 I (Zi (v := (.vs 0)) I I) I <| Zd <| Ze <| Z1d ?_
   have h := Option.some.inj h
   subst h
   refine (hret _ ?_).1
   exact ⟨[(.vs 0)], ⟨rfl, trivial⟩, rfl, ⟨rfl, trivial⟩⟩
  ·intro N k2 v h IH2 J2
   revert h
   revert v
   intro v1 h
   try dsimp only at h IH2 J2 ⊢
   cases k2 with
   | zero => cases h
   | succ k2 =>
    rw [F66_l2] at h
    refine Zf <| Zf <| Zb <| Z2 I (Zh (v := (.int .i64 v1)) I I) I <| Z2 I (Zh (v := (.vs 0)) I I) I <| Z2 I (stx_lenV (l := a0) (enc := Z3) I u29 I I) I <| Z2 I (Z1k (k := .i64) (a := v1) (b := (a0.length : Int)) (c := (decide (v1 < (a0.length : Int)))) I I I I) I <| Zd ?_
    refine Ze ?_
    have hif := Z1u h
    refine Z12 I (fun hc => ?_) (fun hc => ?_)
    ·have h := hif.1 hc
     refine Z14 <| Ze <| Zf <| AWp.block <| Zf <| Z1n mixed <| Z9 0 I (Zh (v := (.clo 67 [])) I I) <| Z9 1 I (Zh (v := (.vs 0)) I I) ?_
     refine Z9 2 I (Zh (v := (.int .i64 v1)) I I) ?_
     have ⟨hg6, h⟩ := Zu h
     refine Z9 3 I (st_indexV (k := .i64) (v := (.vs 0)) (n := 0) (off := 0) (len := a0.length) (es := (List.map Z3 a0)) (j := v1) (m := v1.toNat) I s29 I I (vecR_map _ _ _) I hg6 (Nat.zero_add _)) ?_
     have ⟨hg7, h⟩ := Zu h
     refine Z9 4 I (st_loadVA (l := a0) (enc := Z3) (z := Z4) (vs := (Z3 (a0.getD v1.toNat Z4)).cells) I a25 I I hg7 I I) <| Z9 5 I (Zh (v := (.vs 0)) I I) <| Z9 6 I (Zh (v := (.int .i64 v1)) I I) <| Z9 7 I (Z1a (k := .i64) (a := v1) (b := 1) (c := (IntKind.i64.wrap (v1 - 1))) I I I I) ?_
     have ⟨hg8, h⟩ := Zu h
     refine Z9 8 I (st_indexV (k := .i64) (v := (.vs 0)) (n := 0) (off := 0) (len := a0.length) (es := (List.map Z3 a0)) (j := (IntKind.i64.wrap (v1 - 1))) (m := (IntKind.i64.wrap (v1 - 1)).toNat) I s29 I I (vecR_map _ _ _) I hg8 (Nat.zero_add _)) ?_
     have ⟨hg9, h⟩ := Zu h
     refine Z9 9 I (st_loadVA (l := a0) (enc := Z3) (z := Z4) (vs := (Z3 (a0.getD (IntKind.i64.wrap (v1 - 1)).toNat Z4)).cells) I a25 I I hg9 I I) ?_
     have ⟨v11, hv11, h⟩ := Z16 h
     refine Z9 10 I (Z15 (ar := [(Z3 (a0.getD v1.toNat Z4)), (Z3 (a0.getD (IntKind.i64.wrap (v1 - 1)).toNat Z4))]) (caps := []) Try.call67 (F67_ok K (a0.getD v1.toNat Z4) (a0.getD (IntKind.i64.wrap (v1 - 1)).toNat Z4) v11 hv11) I I ⟨rfl, rfl, trivial⟩ I) <| Z1l (by kernel_rfl) I <| Ze ?_
     have hif := Z1u h
     refine Z12 I (fun hc => ?_) (fun hc => ?_)
     ·have h := hif.1 hc
      refine Zf <| Zb <| Z2 I (Zh (v := (.vs 0)) I I) I <| Z2 I (Zh (v := (.int .i64 v1)) I I) I ?_
      have ⟨hg12, h⟩ := Zu h
      have ⟨hg13, h⟩ := Zu h
      refine Z2 I (stx_sliceVL (v := (.vs 0)) (n := 0) (off := 0) (len := a0.length) (l := a0) (enc := Z3) (kl := .i64) (lo := v1) I s29 I I (vecR_map _ _ _) I hg12 I) I <| Z2 I (Zi (v := (.vsub 0 (0 + v1.toNat) ((a0.length : Int).toNat - v1.toNat) false)) I I) I <| Zd <| Ze <| Zf <| Zf <| Zb <| Z2 I (Zi (v := (.int .i64 1)) I I) I ?_
      refine Zd <| Ze <| Z1s (st' := ⟨[(0, (.vs 0)), (1, (.clo 67 [])), (5, (.int .i64 v1)), (6, (.vsub 0 (0 + v1.toNat) ((a0.length : Int).toNat - v1.toNat) false)), (7, (.int .i64 1))], [(0, (.vec 10 (List.map Z3 a0)))]⟩) ⟨rfl, rfl, rfl, rfl, rfl, trivial⟩ ⟨rfl, trivial⟩ ?_
      refine Z1h (V := Int × Int × (List Z8)) (X := Int × (List Z8)) (lp := fun k v => F66_l17 K v1 a0 (F66_c20 K) k v.1 v.2.1 v.2.2 = some r) (sh := fun v => ⟨[(0, (.vs 0)), (1, (.clo 67 [])), (5, (.int .i64 v.1)), (6, (.vsub 0 (0 + v1.toNat) ((a0.length : Int).toNat - v1.toNat) false)), (7, (.int .i64 v.2.1))], [(0, (.vec 10 (List.map Z3 v.2.2)))]⟩) (x := fun v => F66_c20 K v.1 v.2 = some r) (shx := fun v => ⟨[(0, (.vs 0)), (5, (.int .i64 v.1))], [(0, (.vec 10 (List.map Z3 v.2)))]⟩) (k := K) (v := (v1, 1, a0)) h ?_ ?_
      ·intro v h
       obtain ⟨v18, v19⟩ := v
       try dsimp only at h ⊢
       unfold F66_c20 at h
       refine Ze <| Zf <| Zb <| Z2 I (Zh (v := (.vs 0)) I I) I <| Z2 I (Zh (v := (.int .i64 v18)) I I) I ?_
       have ⟨hg22, h⟩ := Zu h
       have ⟨hg23, h⟩ := Zu h
       refine Z2 I (stx_sliceVL (v := (.vs 0)) (n := 0) (off := 0) (len := v19.length) (l := v19) (enc := Z3) (kl := .i64) (lo := v18) I s29 I I (vecR_map _ _ _) I hg22 I) I ?_
       have ⟨hg24, h⟩ := Zu h
       refine Z2 I (st_clear (v := (.vsub 0 (0 + v18.toNat) ((v19.length : Int).toNat - v18.toNat) false)) (n := 0) (off := (0 + v18.toNat)) (len := ((v19.length : Int).toNat - v18.toNat)) (l := v19) (enc := Z3) el29 ze25 I I I (vecR_sub hg24) Z1e) I <| Zd <| Ze <| Zf <| Zb <| Z2 I (Zh (v := (.vs 0)) I I) I <| Z2 I (Zh (v := (.int .i64 v18)) I I) I ?_
       have ⟨hg25, h⟩ := Zu h
       have ⟨hg26, h⟩ := Zu h
       refine Z2 I (stx_sliceVH (v := (.vs 0)) (n := 0) (off := 0) (len := (v19.take (0 + v18.toNat) ++ List.replicate ((v19.length : Int).toNat - v18.toNat) Z4 ++ v19.drop ((0 + v18.toNat) + ((v19.length : Int).toNat - v18.toNat))).length) (l := (v19.take (0 + v18.toNat) ++ List.replicate ((v19.length : Int).toNat - v18.toNat) Z4 ++ v19.drop ((0 + v18.toNat) + ((v19.length : Int).toNat - v18.toNat)))) (enc := Z3) (kh := .i64) (hi := v18) I s29 I I (vecR_map _ _ _) I hg25 I) I <| Z2 I (Zi (v := (.vsub 0 (0 + (0 : Int).toNat) (v18.toNat - (0 : Int).toNat) false)) I I) I <| Zd <| Ze <| Z1d <| At.overR <| Z1i ?_
       refine Z1i (At.overR ?_)
       refine Z1i <| At.ghost (st' := ⟨[(4, (.vs 0))], [(0, (.vec 10 (List.map Z3 (((v19.take (0 + v18.toNat) ++ List.replicate ((v19.length : Int).toNat - v18.toNat) Z4 ++ v19.drop ((0 + v18.toNat) + ((v19.length : Int).toNat - v18.toNat))).drop (0 + (0 : Int).toNat)).take (v18.toNat - (0 : Int).toNat)))))]⟩) (fun a w h => (Z19 ⟨[(4, (.vs 0))], [(0, (.vec 10 (List.map Z3 (((v19.take (0 + v18.toNat) ++ List.replicate ((v19.length : Int).toNat - v18.toNat) Z4 ++ v19.drop ((0 + v18.toNat) + ((v19.length : Int).toNat - v18.toNat))).drop (0 + (0 : Int).toNat)).take (v18.toNat - (0 : Int).toNat)))))]⟩ (ghost_trunc (k := 4) (m := 0) (sz := 10) (off := (0 + (0 : Int).toNat)) (len := (v18.toNat - (0 : Int).toNat)) (enc := Z3) (l := (v19.take (0 + v18.toNat) ++ List.replicate ((v19.length : Int).toNat - v18.toNat) Z4 ++ v19.drop ((0 + v18.toNat) + ((v19.length : Int).toNat - v18.toNat)))) I hg26 a w (Z19 ⟨[(4, (.vsub 0 (0 + (0 : Int).toNat) (v18.toNat - (0 : Int).toNat) false))], [(0, (.vec 10 (List.map Z3 (v19.take (0 + v18.toNat) ++ List.replicate ((v19.length : Int).toNat - v18.toNat) Z4 ++ v19.drop ((0 + v18.toNat) + ((v19.length : Int).toNat - v18.toNat))))))]⟩ h ⟨rfl, trivial⟩ ⟨rfl, trivial⟩)) ⟨rfl, trivial⟩ ⟨rfl, trivial⟩)) ?_
       have h := Option.some.inj h
       subst h
       refine (hret _ ?_).1
       exact ⟨[(.vs 0)], ⟨rfl, trivial⟩, rfl, ⟨rfl, trivial⟩⟩
      ·intro N k17 v h IH17 J17
       obtain ⟨v14, v15, v16⟩ := v
       try dsimp only at h IH17 J17 ⊢
       cases k17 with
       | zero => cases h
       | succ k17 =>
        rw [F66_l17] at h
        refine Zf <| Zf <| Zb <| Z2 I (Zh (v := (.int .i64 v15)) I I) I <| Z2 I (Zh (v := (.vsub 0 (0 + v1.toNat) ((a0.length : Int).toNat - v1.toNat) false)) I I) I ?_
        have ⟨hg28, h⟩ := Zu h
        refine Z2 I (stx_lenVS (v := (.vsub 0 (0 + v1.toNat) ((a0.length : Int).toNat - v1.toNat) false)) (n := 0) (off := (0 + v1.toNat)) (len := ((a0.length : Int).toNat - v1.toNat)) (l := v16) (enc := Z3) I u29 I I (vecR_sub hg28)) I <| Z2 I (Z1k (k := .i64) (a := v15) (b := ((((a0.length : Int).toNat - v1.toNat) : Nat) : Int)) (c := (decide (v15 < ((((a0.length : Int).toNat - v1.toNat) : Nat) : Int)))) I I I I) I <| Zd <| Ze ?_
        have hif := Z1u h
        refine Z12 I (fun hc => ?_) (fun hc => ?_)
        ·have h := hif.1 hc
         refine Z14 <| Ze <| Zf <| AWp.block <| Zf <| Z1n mixed <| Z9 0 I (Zh (v := (.clo 67 [])) I I) <| Z9 1 I (Zh (v := (.vsub 0 (0 + v1.toNat) ((a0.length : Int).toNat - v1.toNat) false)) I I) ?_
         refine Z9 2 I (Zh (v := (.int .i64 v15)) I I) ?_
         have ⟨hg29, h⟩ := Zu h
         have ⟨hg30, h⟩ := Zu h
         refine Z9 3 I (st_indexV (k := .i64) (v := (.vsub 0 (0 + v1.toNat) ((a0.length : Int).toNat - v1.toNat) false)) (n := 0) (off := (0 + v1.toNat)) (len := ((a0.length : Int).toNat - v1.toNat)) (es := (List.map Z3 v16)) (j := v15) (m := ((0 + v1.toNat) + v15.toNat)) I s29 I I (vecR_sub hg29) I hg30 (I)) ?_
         have ⟨hg31, h⟩ := Zu h
         refine Z9 4 I (st_loadVA (l := v16) (enc := Z3) (z := Z4) (vs := (Z3 (v16.getD ((0 + v1.toNat) + v15.toNat) Z4)).cells) I a25 I I hg31 I I) <| Z9 5 I (Zh (v := (.vsub 0 (0 + v1.toNat) ((a0.length : Int).toNat - v1.toNat) false)) I I) <| Z9 6 I (Zh (v := (.int .i64 v15)) I I) <| Z9 7 I (Z1a (k := .i64) (a := v15) (b := 1) (c := (IntKind.i64.wrap (v15 - 1))) I I I I) ?_
         have ⟨hg32, h⟩ := Zu h
         have ⟨hg33, h⟩ := Zu h
         refine Z9 8 I (st_indexV (k := .i64) (v := (.vsub 0 (0 + v1.toNat) ((a0.length : Int).toNat - v1.toNat) false)) (n := 0) (off := (0 + v1.toNat)) (len := ((a0.length : Int).toNat - v1.toNat)) (es := (List.map Z3 v16)) (j := (IntKind.i64.wrap (v15 - 1))) (m := ((0 + v1.toNat) + (IntKind.i64.wrap (v15 - 1)).toNat)) I s29 I I (vecR_sub hg32) I hg33 (I)) ?_
         have ⟨hg34, h⟩ := Zu h
         refine Z9 9 I (st_loadVA (l := v16) (enc := Z3) (z := Z4) (vs := (Z3 (v16.getD ((0 + v1.toNat) + (IntKind.i64.wrap (v15 - 1)).toNat) Z4)).cells) I a25 I I hg34 I I) ?_
         have ⟨v36, hv36, h⟩ := Z16 h
         refine Z9 10 I (Z15 (ar := [(Z3 (v16.getD ((0 + v1.toNat) + v15.toNat) Z4)), (Z3 (v16.getD ((0 + v1.toNat) + (IntKind.i64.wrap (v15 - 1)).toNat) Z4))]) (caps := []) Try.call67 (F67_ok K (v16.getD ((0 + v1.toNat) + v15.toNat) Z4) (v16.getD ((0 + v1.toNat) + (IntKind.i64.wrap (v15 - 1)).toNat) Z4) v36 hv36) I I ⟨rfl, rfl, trivial⟩ I) <| Z9 11 I (st_not (b := v36) I I) <| Z1l (by kernel_rfl) I <| Ze ?_
         refine AWp.join (V := Int × (List Z8)) (lp := fun v => F66_j39 K (F66_l17 K v1 a0 (F66_c20 K) k17) v15 v.1 v.2 = some r) (sh := fun v => ⟨[(0, (.vs 0)), (1, (.clo 67 [])), (5, (.int .i64 v.1)), (6, (.vsub 0 (0 + v1.toNat) ((a0.length : Int).toNat - v1.toNat) false)), (7, (.int .i64 v15))], [(0, (.vec 10 (List.map Z3 v.2)))]⟩) ?_ ?_
         ·intro v h
          obtain ⟨v37, v38⟩ := v
          try dsimp only at h ⊢
          unfold F66_j39 at h
          refine At.end <| Ze <| Zb <| Z2 I (Zh (v := (.int .i64 v15)) I I) I <| Z2 I (Z1a (k := .i64) (a := v15) (b := 1) (c := (IntKind.i64.wrap (v15 + 1))) I I I I) I <| Z2 I (Zi (v := (.int .i64 (IntKind.i64.wrap (v15 + 1)))) I I) I <| Zd ?_
          exact Zw (st' := ⟨[(0, (.vs 0)), (1, (.clo 67 [])), (5, (.int .i64 v37)), (6, (.vsub 0 (0 + v1.toNat) ((a0.length : Int).toNat - v1.toNat) false)), (7, (.int .i64 (IntKind.i64.wrap (v15 + 1))))], [(0, (.vec 10 (List.map Z3 v38)))]⟩) ⟨rfl, rfl, rfl, rfl, rfl, trivial⟩ ⟨rfl, trivial⟩ (IH17 _ (v37, (IntKind.i64.wrap (v15 + 1)), v38) (Nat.lt_succ_self _) h)
         ·intro J39
          have hif := Z1u h
          refine Z12 I (fun hc => ?_) (fun hc => ?_)
          ·have h := hif.1 hc
           refine Zf <| Zb <| Z2 I (Zh (v := (.vs 0)) I I) I <| Z2 I (Zh (v := (.int .i64 v14)) I I) I <| Z2 I (Zh (v := (.vsub 0 (0 + v1.toNat) ((a0.length : Int).toNat - v1.toNat) false)) I I) I <| Z2 I (Zh (v := (.int .i64 v15)) I I) I ?_
           have ⟨hg40, h⟩ := Zu h
           have ⟨hg41, h⟩ := Zu h
           refine Z2 I (st_indexV (k := .i64) (v := (.vsub 0 (0 + v1.toNat) ((a0.length : Int).toNat - v1.toNat) false)) (n := 0) (off := (0 + v1.toNat)) (len := ((a0.length : Int).toNat - v1.toNat)) (es := (List.map Z3 v16)) (j := v15) (m := ((0 + v1.toNat) + v15.toNat)) I s29 I I (vecR_sub hg40) I hg41 (I)) I ?_
           have ⟨hg42, h⟩ := Zu h
           refine Z2 I (st_loadVA (l := v16) (enc := Z3) (z := Z4) (vs := (Z3 (v16.getD ((0 + v1.toNat) + v15.toNat) Z4)).cells) I a25 I I hg42 I I) I ?_
           have ⟨hg43, h⟩ := Zu h
           refine Z2 I (st_indexV (k := .i64) (v := (.vs 0)) (n := 0) (off := 0) (len := v16.length) (es := (List.map Z3 v16)) (j := v14) (m := v14.toNat) I s29 I I (vecR_map _ _ _) I hg43 (Nat.zero_add _)) I ?_
           have ⟨hg44, h⟩ := Zu h
           refine Z2 I (st_storeV (l := v16) (enc := Z3) (z := Z4) (a := (v16.getD ((0 + v1.toNat) + v15.toNat) Z4)) (v := (Z3 (v16.getD ((0 + v1.toNat) + v15.toNat) Z4))) sz25 I I hg44 I Z1e I I I I) I <| Zd <| Ze <| Zb <| Z2 I (Zh (v := (.int .i64 v14)) I I) I <| Z2 I (Z1a (k := .i64) (a := v14) (b := 1) (c := (IntKind.i64.wrap (v14 + 1))) I I I I) I <| Z2 I (Zi (v := (.int .i64 (IntKind.i64.wrap (v14 + 1)))) I I) I <| Zd ?_
           exact Zw (st' := ⟨[(0, (.vs 0)), (1, (.clo 67 [])), (5, (.int .i64 (IntKind.i64.wrap (v14 + 1)))), (6, (.vsub 0 (0 + v1.toNat) ((a0.length : Int).toNat - v1.toNat) false)), (7, (.int .i64 v15))], [(0, (.vec 10 (List.map Z3 (v16.set v14.toNat (v16.getD ((0 + v1.toNat) + v15.toNat) Z4)))))]⟩) ⟨rfl, rfl, rfl, rfl, rfl, trivial⟩ ⟨rfl, trivial⟩ (J39 ((IntKind.i64.wrap (v14 + 1)), (v16.set v14.toNat (v16.getD ((0 + v1.toNat) + v15.toNat) Z4))) h)
          ·have h := hif.2 hc
           refine Z14 ?_
           exact Zw (st' := ⟨[(0, (.vs 0)), (1, (.clo 67 [])), (5, (.int .i64 v14)), (6, (.vsub 0 (0 + v1.toNat) ((a0.length : Int).toNat - v1.toNat) false)), (7, (.int .i64 v15))], [(0, (.vec 10 (List.map Z3 v16)))]⟩) ⟨rfl, rfl, rfl, rfl, rfl, trivial⟩ ⟨rfl, trivial⟩ (J39 (v14, v16) h)
        ·have h := hif.2 hc
         refine AWp.exit <| At.thru ?_
         exact Zw (st' := ⟨[(0, (.vs 0)), (5, (.int .i64 v14))], [(0, (.vec 10 (List.map Z3 v16)))]⟩) ⟨rfl, rfl, trivial⟩ ⟨rfl, trivial⟩ (J17 (v14, v16) h)
     ·have h := hif.2 hc
      refine Z14 <| At.end <| Ze <| Zb <| Z2 I (Zh (v := (.int .i64 v1)) I I) I <| Z2 I (Z1a (k := .i64) (a := v1) (b := 1) (c := (IntKind.i64.wrap (v1 + 1))) I I I I) I <| Z2 I (Zi (v := (.int .i64 (IntKind.i64.wrap (v1 + 1)))) I I) I <| Zd ?_
      exact Zw (st' := ⟨[(0, (.vs 0)), (1, (.clo 67 [])), (5, (.int .i64 (IntKind.i64.wrap (v1 + 1))))], [(0, (.vec 10 (List.map Z3 a0)))]⟩) ⟨rfl, rfl, rfl, trivial⟩ ⟨rfl, trivial⟩ (IH2 _ (IntKind.i64.wrap (v1 + 1)) (Nat.lt_succ_self _) h)
    ·have h := hif.2 hc
     refine AWp.exit <| At.thru ?_
     exact Zw (st' := ⟨[(0, (.vs 0))], [(0, (.vec 10 (List.map Z3 a0)))]⟩) ⟨rfl, trivial⟩ ⟨rfl, trivial⟩ (J2 () h)
def F40 (K : Nat) (a0 : (List Z8)) : Option ((List Z8)) :=
 (F63 K a0).bind fun v2 =>
  (sortF (fun a b => F65 K a b) v2).bind fun v4 =>
   (F66 K v4).bind fun v6 =>
    some v6
theorem F40_ok (K : Nat) (a0 : (List Z8)) (r : (List Z8)) (h : F40 K a0 = some r) : ACall P 40 ⟨[(.sl 10 (a0.map Z3) false)], [], (.sl 10 (r.map Z3) false), [], []⟩ := by
 refine Z1q Try.func40 Try.results40 rfl Try.ntmps40 rfl rfl rfl ?_
 intro E Q hP hN hro hret
 obtain ⟨P', nt', w0, F0, p0, S0, β0, ro0⟩ := E
 simp only at hP hN
 subst hP hN
 dsimp only [argT]
 unfold F40 at h
 refine Zf <| Zb <| Z2 I (Zi (v := (.sl 10 [] false)) I I) I <| Zd <| Ze <| Zf <| Zb <| Z2 I (Zh (v := (.sl 10 (a0.map Z3) false)) I I) I ?_
 have ⟨v2, hv2, h⟩ := Z16 h
 refine Z2 I (st_callO (sz := 10) (es := (List.map Z3 v2)) (ar := [(.sl 10 (a0.map Z3) false), (.clo 64 [])]) (caps := []) Try.call63 ((F63_ok K a0 v2 hv2).sw 4 5) I I ⟨rfl, rfl, trivial⟩ I) I <| Z2 I (Zi (v := (.vs 5)) I I) I <| Zd <| Ze <| Zf <| Zb <| Z2 I (Zh (v := (.vs 5)) I I) I ?_
 have ⟨v4, hv4, h⟩ := Z16 h
 refine Z2 I (st_call (d := some 7) (c := ⟨[(.vs 5), (.clo 65 [])], [(5, (.vec 10 (List.map Z3 v2)))], .tup [], [(5, .vec 10 (List.map Z3 v4))], []⟩) (ar := [(.vs 5), (.clo 65 [])]) (caps := []) (news := []) (forg := []) Try.call56 (sort_ok (n := 5) (enc := Z3) (l := v2) (caps := []) (c := (fun a b => F65 K a b)) sortC56 Try.call65 Z1e (fun _ => I) (fun a b m hm => F65_ok K a b m hm) hv4) I I ⟨rfl, rfl, trivial⟩ I ⟨rfl, trivial⟩ I) I <| Zd <| Ze <| Zf <| Zb <| Z2 I (Zh (v := (.vs 5)) I I) I ?_
 have ⟨v6, hv6, h⟩ := Z16 h
 refine Z2 I (st_call (d := some 9) (c := ⟨[(.vs 5), (.clo 67 [])] ++ [], [(5, (.vec 10 (List.map Z3 v4)))], .vs 5, [(5, .vec 10 (List.map Z3 v6))], [5]⟩) (ar := [(.vs 5), (.clo 67 [])]) (caps := []) (news := []) (forg := [5]) Try.call66 ((F66_ok K v4 v6 hv6).sw 0 5) I I ⟨rfl, rfl, trivial⟩ I ⟨rfl, trivial⟩ I) I <| Z2 I (Zi (v := (.vs 5)) I I) I <| Zd <| Ze <| Z1d <| At.ghost (st' := ⟨[(2, (.sl 10 (v6.map Z3) false))], []⟩) (fun a w h => (Z19 ⟨[(2, (.sl 10 (v6.map Z3) false))], []⟩ (ghost_freeze (m := 5) (sz := 10) (es := (List.map Z3 v6)) a w (Z19 ⟨[(2, (.vs 5))], [(5, (.vec 10 (List.map Z3 v6)))]⟩ h ⟨rfl, trivial⟩ ⟨rfl, trivial⟩)) ⟨rfl, trivial⟩ trivial)) ?_
 have h := Option.some.inj h
 subst h
 refine (hret _ ?_).1
 exact ⟨[(.sl 10 (v6.map Z3) false)], ⟨rfl, trivial⟩, rfl, trivial⟩
def F41_c7 (K : Nat) (v6 : (List Z8)) : Option ((List Z8)) :=
 some v6
def F41_c14 (K : Nat) (b9 : Int → (List Z8) → Option ((List Z8))) (v3 : Int) (v13 : (List Z8)) : Option ((List Z8)) :=
 b9 (IntKind.i64.wrap (v3 + 1)) v13
def F41_j26 (K : Nat) (b16 : Int → (List Z8) → Option ((List Z8))) (v10 : Int) (v25 : (List Z8)) : Option ((List Z8)) :=
 b16 (IntKind.i64.wrap (v10 + 1)) v25
def F41_c23 (K : Nat) (v11 : (List Z8)) (b16 : Int → (List Z8) → Option ((List Z8))) (v10 : Int) (v21 : Bool) (v22 : Z8) : Option ((List Z8)) :=
 if v21 = true then
  if v11.length + [v22].length ≤ 1073741824 then
   F41_j26 K b16 v10 (v11 ++ [v22])
  else none
 else
  F41_j26 K b16 v10 v11
def F41_j31 (K : Nat) (b28 : Bool → Int → Z8 → Option ((List Z8))) (v18 : Int) (v29 : Bool) (v30 : Z8) : Option ((List Z8)) :=
 b28 v29 (IntKind.i64.wrap (v18 + 1)) v30
def F41_j39 (K : Nat) (b28 : Bool → Int → Z8 → Option ((List Z8))) (v18 : Int) (v37 : Bool) (v38 : Z8) : Option ((List Z8)) :=
 F41_j31 K b28 v18 v37 v38
def F41_j36 (K : Nat) (b28 : Bool → Int → Z8 → Option ((List Z8))) (v18 : Int) (a0 : (List Z8)) (v17 : Bool) (v19 : Z8) (v35 : Bool) : Option ((List Z8)) :=
 if v35 = true then
  F41_j39 K b28 v18 true (a0.getD v18.toNat Z4)
 else
  F41_j39 K b28 v18 v17 v19
def F41_j34 (K : Nat) (b28 : Bool → Int → Z8 → Option ((List Z8))) (v18 : Int) (v17 : Bool) (v19 : Z8) (a0 : (List Z8)) (v33 : Bool) : Option ((List Z8)) :=
 if v33 = true then
  F41_j31 K b28 v18 v17 v19
 else
  if (!v17) = true then
   F41_j36 K b28 v18 a0 v17 v19 true
  else
   (F33 K (a0.getD v18.toNat Z4)).bind fun v41 =>
    (F33 K v19).bind fun v43 =>
     if (decide (v41 < v43)) = true then
      F41_j36 K b28 v18 a0 v17 v19 true
     else
      (F33 K (a0.getD v18.toNat Z4)).bind fun v45 =>
       (F33 K v19).bind fun v47 =>
        if (v45 == v47) = true then
         (F17 K (a0.getD v18.toNat Z4) v19).bind fun v49 =>
          F41_j36 K b28 v18 a0 v17 v19 (decide (v49 < 0))
        else
         F41_j36 K b28 v18 a0 v17 v19 false
def F41_l20 (K : Nat) (a0 : (List Z8)) (v3 : Int) (v2 : (List Int)) (v10 : Int) (c24 : Bool → Z8 → Option ((List Z8))) : Nat → Bool → Int → Z8 → Option ((List Z8))
 | 0, _, _, _ => none
 | k20 + 1, v17, v18, v19 =>
  if (decide (v18 < (a0.length : Int))) = true then
   if (0 : Int) ≤ v18 ∧ v18 < a0.length then
    if (0 : Int) ≤ v3 ∧ v3 < v2.length then
     if ((a0.getD v18.toNat Z4).From != (v2.getD v3.toNat 0)) = true then
      F41_j34 K (F41_l20 K a0 v3 v2 v10 c24 k20) v18 v17 v19 a0 true
     else
      if (0 : Int) ≤ v10 ∧ v10 < v2.length then
       if ((a0.getD v18.toNat Z4).To != (v2.getD v10.toNat 0)) = true then
        F41_j34 K (F41_l20 K a0 v3 v2 v10 c24 k20) v18 v17 v19 a0 true
       else
        if (v3 == v10) = true then
         (F33 K (a0.getD v18.toNat Z4)).bind fun v53 =>
          F41_j34 K (F41_l20 K a0 v3 v2 v10 c24 k20) v18 v17 v19 a0 (decide (v53 ≥ 0))
        else
         F41_j34 K (F41_l20 K a0 v3 v2 v10 c24 k20) v18 v17 v19 a0 false
      else none
    else none
   else none
  else
   c24 v17 v19
def F41_l12 (K : Nat) (v2 : (List Int)) (a0 : (List Z8)) (v3 : Int) (c15 : (List Z8) → Option ((List Z8))) : Nat → Int → (List Z8) → Option ((List Z8))
 | 0, _, _ => none
 | k12 + 1, v10, v11 =>
  if (decide (v10 < (v2.length : Int))) = true then
   F41_l20 K a0 v3 v2 v10 (F41_c23 K v11 (F41_l12 K v2 a0 v3 c15 k12) v10) K false 0 Z4
  else
   c15 v11
def F41_l5 (K : Nat) (v2 : (List Int)) (a0 : (List Z8)) (c8 : (List Z8) → Option ((List Z8))) : Nat → Int → (List Z8) → Option ((List Z8))
 | 0, _, _ => none
 | k5 + 1, v3, v4 =>
  if (decide (v3 < (v2.length : Int))) = true then
   F41_l12 K v2 a0 v3 (F41_c14 K (F41_l5 K v2 a0 c8 k5) v3) K 0 v4
  else
   c8 v4
def F41 (K : Nat) (a0 : (List Z8)) : Option ((List Z8)) :=
 (F47 K a0).bind fun v2 =>
  F41_l5 K v2 a0 (F41_c7 K) K 0 []
theorem F41_ok (K : Nat) (a0 : (List Z8)) (r : (List Z8)) (h : F41 K a0 = some r) : ACall P 41 ⟨[(.sl 10 (a0.map Z3) false)], [], (.sl 10 (r.map Z3) false), [], []⟩ := by
 refine Z1q Try.func41 Try.results41 rfl Try.ntmps41 rfl rfl rfl ?_
 intro E Q hP hN hro hret
 obtain ⟨P', nt', w0, F0, p0, S0, β0, ro0⟩ := E
 simp only at hP hN
 subst hP hN
 dsimp only [argT]
 unfold F41 at h
 refine Zf <| Zb <| Z2 I (Zi (v := (.sl 10 [] false)) I I) I <| Zd <| Ze <| Zf <| Zb <| Z2 I (Zi (v := (.sl 10 [] true)) I I) I ?_
 refine Zd <| Ze <| Zf <| Zb <| Z2 I (Zh (v := (.sl 10 (a0.map Z3) false)) I I) I ?_
 have ⟨v2, hv2, h⟩ := Z16 h
 refine Z2 I (Z15 (ar := [(.sl 10 (a0.map Z3) false)]) (caps := []) Try.call47 (F47_ok K a0 v2 hv2) I I ⟨rfl, trivial⟩ I) I <| Z2 I (Zi (v := (.sl 1 (v2.map Z13) false)) I I) I <| Zd <| Ze <| Zf <| Zf <| Zb <| Z2 I (Zi (v := (.int .i64 0)) I I) I ?_
 refine Zd <| Ze <| AWp.ghost (st' := ⟨[(0, (.sl 10 (a0.map Z3) false)), (3, (.vs 3)), (4, (.sl 1 (v2.map Z13) false)), (5, (.int .i64 0))], [(3, (.vec 10 (List.map Z3 ([] : List Z8))))]⟩) (fun a w h => (Z19 ⟨[(0, (.sl 10 (a0.map Z3) false)), (3, (.vs 3)), (4, (.sl 1 (v2.map Z13) false)), (5, (.int .i64 0))], [(3, (.vec 10 (List.map Z3 ([] : List Z8))))]⟩ (ghost_own (k := 3) (m := 3) (sz := 10) I I a w (Z19 ⟨[(3, (.sl 10 [] true)), (0, (.sl 10 (a0.map Z3) false)), (4, (.sl 1 (v2.map Z13) false)), (5, (.int .i64 0))], []⟩ h ⟨rfl, rfl, rfl, rfl, trivial⟩ trivial)) ⟨rfl, rfl, rfl, rfl, trivial⟩ ⟨rfl, trivial⟩)) <| Z1s (st' := ⟨[(0, (.sl 10 (a0.map Z3) false)), (3, (.vs 3)), (4, (.sl 1 (v2.map Z13) false)), (5, (.int .i64 0))], [(3, (.vec 10 (List.map Z3 [])))]⟩) ⟨rfl, rfl, rfl, rfl, trivial⟩ ⟨rfl, trivial⟩ ?_
 refine Z1h (V := Int × (List Z8)) (X := (List Z8)) (lp := fun k v => F41_l5 K v2 a0 (F41_c7 K) k v.1 v.2 = some r) (sh := fun v => ⟨[(0, (.sl 10 (a0.map Z3) false)), (3, (.vs 3)), (4, (.sl 1 (v2.map Z13) false)), (5, (.int .i64 v.1))], [(3, (.vec 10 (List.map Z3 v.2)))]⟩) (x := fun v => F41_c7 K v = some r) (shx := fun v => ⟨[(3, (.vs 3))], [(3, (.vec 10 (List.map Z3 v)))]⟩) (k := K) (v := (0, [])) h ?_ ?_
 ·intro v h
  revert h
  revert v
  intro v6 h
  try dsimp only at h ⊢
  unfold F41_c7 at h
  refine Ze <| Zf <| Zb <| Z2 I (Zh (v := (.vs 3)) I I) I <| Z2 I (Zi (v := (.vs 3)) I I) I <| Zd <| Ze <| Z1d ?_
  refine At.ghost (st' := ⟨[(2, (.sl 10 (v6.map Z3) false))], []⟩) (fun a w h => (Z19 ⟨[(2, (.sl 10 (v6.map Z3) false))], []⟩ (ghost_freeze (m := 3) (sz := 10) (es := (List.map Z3 v6)) a w (Z19 ⟨[(2, (.vs 3))], [(3, (.vec 10 (List.map Z3 v6)))]⟩ h ⟨rfl, trivial⟩ ⟨rfl, trivial⟩)) ⟨rfl, trivial⟩ trivial)) ?_
  have h := Option.some.inj h
  subst h
  refine (hret _ ?_).1
  exact ⟨[(.sl 10 (v6.map Z3) false)], ⟨rfl, trivial⟩, rfl, trivial⟩
 ·intro N k5 v h IH5 J5
  obtain ⟨v3, v4⟩ := v
  try dsimp only at h IH5 J5 ⊢
  cases k5 with
  | zero => cases h
  | succ k5 =>
   rw [F41_l5] at h
   refine Zf <| Zf <| Zb <| Z2 I (Zh (v := (.int .i64 v3)) I I) I <| Z2 I (Zh (v := (.sl 1 (v2.map Z13) false)) I I) I <| Z2 I (stx_len (l := v2) (enc := Z13) I s87 I) I <| Z2 I (Z1k (k := .i64) (a := v3) (b := (v2.length : Int)) (c := (decide (v3 < (v2.length : Int)))) I I I I) I <| Zd ?_
   refine Ze ?_
   have hif := Z1u h
   refine Z12 I (fun hc => ?_) (fun hc => ?_)
   ·have h := hif.1 hc
    refine Z14 <| Ze <| Zf <| AWp.block <| Zf <| Zb <| Z2 I (Zi (v := (.int .i64 0)) I I) I <| Zd ?_
    refine Ze <| Z1s (st' := ⟨[(0, (.sl 10 (a0.map Z3) false)), (3, (.vs 3)), (4, (.sl 1 (v2.map Z13) false)), (5, (.int .i64 v3)), (6, (.int .i64 0))], [(3, (.vec 10 (List.map Z3 v4)))]⟩) ⟨rfl, rfl, rfl, rfl, rfl, trivial⟩ ⟨rfl, trivial⟩ ?_
    refine Z1h (V := Int × (List Z8)) (X := (List Z8)) (lp := fun k v => F41_l12 K v2 a0 v3 (F41_c14 K (F41_l5 K v2 a0 (F41_c7 K) k5) v3) k v.1 v.2 = some r) (sh := fun v => ⟨[(0, (.sl 10 (a0.map Z3) false)), (3, (.vs 3)), (4, (.sl 1 (v2.map Z13) false)), (5, (.int .i64 v3)), (6, (.int .i64 v.1))], [(3, (.vec 10 (List.map Z3 v.2)))]⟩) (x := fun v => F41_c14 K (F41_l5 K v2 a0 (F41_c7 K) k5) v3 v = some r) (shx := fun v => ⟨[(0, (.sl 10 (a0.map Z3) false)), (3, (.vs 3)), (4, (.sl 1 (v2.map Z13) false)), (5, (.int .i64 v3))], [(3, (.vec 10 (List.map Z3 v)))]⟩) (k := K) (v := (0, v4)) h ?_ ?_
    ·intro v h
     revert h
     revert v
     intro v13 h
     try dsimp only at h ⊢
     unfold F41_c14 at h
     refine At.end <| Ze <| Zb <| Z2 I (Zh (v := (.int .i64 v3)) I I) I <| Z2 I (Z1a (k := .i64) (a := v3) (b := 1) (c := (IntKind.i64.wrap (v3 + 1))) I I I I) I <| Z2 I (Zi (v := (.int .i64 (IntKind.i64.wrap (v3 + 1)))) I I) I <| Zd ?_
     exact Zw (st' := ⟨[(0, (.sl 10 (a0.map Z3) false)), (3, (.vs 3)), (4, (.sl 1 (v2.map Z13) false)), (5, (.int .i64 (IntKind.i64.wrap (v3 + 1))))], [(3, (.vec 10 (List.map Z3 v13)))]⟩) ⟨rfl, rfl, rfl, rfl, trivial⟩ ⟨rfl, trivial⟩ (IH5 _ ((IntKind.i64.wrap (v3 + 1)), v13) (Nat.lt_succ_self _) h)
    ·intro N k12 v h IH12 J12
     obtain ⟨v10, v11⟩ := v
     try dsimp only at h IH12 J12 ⊢
     cases k12 with
     | zero => cases h
     | succ k12 =>
      rw [F41_l12] at h
      refine Zf <| Zf <| Zb <| Z2 I (Zh (v := (.int .i64 v10)) I I) I <| Z2 I (Zh (v := (.sl 1 (v2.map Z13) false)) I I) I <| Z2 I (stx_len (l := v2) (enc := Z13) I s87 I) I <| Z2 I (Z1k (k := .i64) (a := v10) (b := (v2.length : Int)) (c := (decide (v10 < (v2.length : Int)))) I I I I) I <| Zd ?_
      refine Ze ?_
      have hif := Z1u h
      refine Z12 I (fun hc => ?_) (fun hc => ?_)
      ·have h := hif.1 hc
       refine Z14 <| Ze <| Zf <| AWp.block <| Zf <| Zb <| Z2 I (stx_build (vs := []) (cs := [(.int .i64 0), (.int .i64 0), (.int .i64 0), (.int .i64 0), (.int .i64 0), (.int .i64 0), (.int .i64 0), (.int .i64 0), (.int .i64 0), (.int .i64 0)]) I st25 trivial I) I <| Z2 I (st_alloc (cs := [(.int .i64 0), (.int .i64 0), (.int .i64 0), (.int .i64 0), (.int .i64 0), (.int .i64 0), (.int .i64 0), (.int .i64 0), (.int .i64 0), (.int .i64 0)]) I z25 I I I) I ?_
       refine Z2 I (Z1m (cs := [(.int .i64 0), (.int .i64 0), (.int .i64 0), (.int .i64 0), (.int .i64 0), (.int .i64 0), (.int .i64 0), (.int .i64 0), (.int .i64 0), (.int .i64 0)]) (vs := [(.int .i64 0), (.int .i64 0), (.int .i64 0), (.int .i64 0), (.int .i64 0), (.int .i64 0), (.int .i64 0), (.int .i64 0), (.int .i64 0), (.int .i64 0)]) (ds := [(.int .i64 0), (.int .i64 0), (.int .i64 0), (.int .i64 0), (.int .i64 0), (.int .i64 0), (.int .i64 0), (.int .i64 0), (.int .i64 0), (.int .i64 0)]) (v := (.ag [(.int .i64 0), (.int .i64 0), (.int .i64 0), (.int .i64 0), (.int .i64 0), (.int .i64 0), (.int .i64 0), (.int .i64 0), (.int .i64 0), (.int .i64 0)])) sz25 I I I I I I I I) I <| Z2 I (Zi (v := (.bool false)) I I) I <| Zd <| Ze <| Zf <| Zf <| Zb <| Z2 I (Zi (v := (.int .i64 0)) I I) I ?_
       refine Zd <| Ze <| Z1s (st' := ⟨[(0, (.sl 10 (a0.map Z3) false)), (3, (.vs 3)), (4, (.sl 1 (v2.map Z13) false)), (5, (.int .i64 v3)), (6, (.int .i64 v10)), (7, (.ptr 7 0)), (8, (.bool false)), (9, (.int .i64 0))], [(3, (.vec 10 (List.map Z3 v11))), (7, (.box (Z3 Z4).cells))]⟩) ⟨rfl, rfl, rfl, rfl, rfl, rfl, rfl, rfl, trivial⟩ ⟨rfl, rfl, trivial⟩ ?_
       refine Z1h (V := Bool × Int × Z8) (X := Bool × Z8) (lp := fun k v => F41_l20 K a0 v3 v2 v10 (F41_c23 K v11 (F41_l12 K v2 a0 v3 (F41_c14 K (F41_l5 K v2 a0 (F41_c7 K) k5) v3) k12) v10) k v.1 v.2.1 v.2.2 = some r) (sh := fun v => ⟨[(0, (.sl 10 (a0.map Z3) false)), (3, (.vs 3)), (4, (.sl 1 (v2.map Z13) false)), (5, (.int .i64 v3)), (6, (.int .i64 v10)), (7, (.ptr 7 0)), (8, (.bool v.1)), (9, (.int .i64 v.2.1))], [(3, (.vec 10 (List.map Z3 v11))), (7, (.box (Z3 v.2.2).cells))]⟩) (x := fun v => F41_c23 K v11 (F41_l12 K v2 a0 v3 (F41_c14 K (F41_l5 K v2 a0 (F41_c7 K) k5) v3) k12) v10 v.1 v.2 = some r) (shx := fun v => ⟨[(0, (.sl 10 (a0.map Z3) false)), (3, (.vs 3)), (4, (.sl 1 (v2.map Z13) false)), (5, (.int .i64 v3)), (6, (.int .i64 v10)), (7, (.ptr 7 0)), (8, (.bool v.1))], [(3, (.vec 10 (List.map Z3 v11))), (7, (.box (Z3 v.2).cells))]⟩) (k := K) (v := (false, 0, Z4)) h ?_ ?_
       ·intro v h
        obtain ⟨v21, v22⟩ := v
        try dsimp only at h ⊢
        unfold F41_c23 at h
        refine Ze <| Zf <| Zb <| Z2 I (Zh (v := (.bool v21)) I I) I <| Zd <| Ze ?_
        refine AWp.join (V := (List Z8)) (lp := fun v => F41_j26 K (F41_l12 K v2 a0 v3 (F41_c14 K (F41_l5 K v2 a0 (F41_c7 K) k5) v3) k12) v10 v = some r) (sh := fun v => ⟨[(0, (.sl 10 (a0.map Z3) false)), (3, (.vs 3)), (4, (.sl 1 (v2.map Z13) false)), (5, (.int .i64 v3)), (6, (.int .i64 v10))], [(3, (.vec 10 (List.map Z3 v)))]⟩) ?_ ?_
        ·intro v h
         revert h
         revert v
         intro v25 h
         try dsimp only at h ⊢
         unfold F41_j26 at h
         refine At.end <| Ze <| Zb <| Z2 I (Zh (v := (.int .i64 v10)) I I) I <| Z2 I (Z1a (k := .i64) (a := v10) (b := 1) (c := (IntKind.i64.wrap (v10 + 1))) I I I I) I <| Z2 I (Zi (v := (.int .i64 (IntKind.i64.wrap (v10 + 1)))) I I) I <| Zd ?_
         exact Zw (st' := ⟨[(0, (.sl 10 (a0.map Z3) false)), (3, (.vs 3)), (4, (.sl 1 (v2.map Z13) false)), (5, (.int .i64 v3)), (6, (.int .i64 (IntKind.i64.wrap (v10 + 1))))], [(3, (.vec 10 (List.map Z3 v25)))]⟩) ⟨rfl, rfl, rfl, rfl, rfl, trivial⟩ ⟨rfl, trivial⟩ (IH12 _ ((IntKind.i64.wrap (v10 + 1)), v25) (Nat.lt_succ_self _) h)
        ·intro J26
         have hif := Z1u h
         refine Z12 I (fun hc => ?_) (fun hc => ?_)
         ·have h := hif.1 hc
          refine Zb <| Z2 I (Zh (v := (.vs 3)) I I) I <| Z2 I (Z18 (cs := (Z3 v22).cells) (vs := (Z3 v22).cells) I a25 I I I I) I <| Z2 I (Z1g (vs := [(Z3 v22)]) (enc := Z3) (l := [v22]) I el29 I I ⟨rfl, trivial⟩ I Z1e I I I I) I ?_
          have ⟨hg27, h⟩ := Zu h
          refine Z2 I (st_append (m := 3) (enc := Z3) (l := v11) (l' := [v22]) (src := (.vs 88)) (rd := [(88, (.vec 10 (List.map Z3 [v22])))]) I I el29 I u29 I I I I (oneRead I) Z1e hg27) I <| Z2 I (Zi (v := (.vs 3)) I I) I <| Zd ?_
          exact Zw (st' := ⟨[(0, (.sl 10 (a0.map Z3) false)), (3, (.vs 3)), (4, (.sl 1 (v2.map Z13) false)), (5, (.int .i64 v3)), (6, (.int .i64 v10))], [(3, (.vec 10 (List.map Z3 (v11 ++ [v22]))))]⟩) ⟨rfl, rfl, rfl, rfl, rfl, trivial⟩ ⟨rfl, trivial⟩ (J26 (v11 ++ [v22]) h)
         ·have h := hif.2 hc
          refine Z14 ?_
          exact Zw (st' := ⟨[(0, (.sl 10 (a0.map Z3) false)), (3, (.vs 3)), (4, (.sl 1 (v2.map Z13) false)), (5, (.int .i64 v3)), (6, (.int .i64 v10))], [(3, (.vec 10 (List.map Z3 v11)))]⟩) ⟨rfl, rfl, rfl, rfl, rfl, trivial⟩ ⟨rfl, trivial⟩ (J26 v11 h)
       ·intro N k20 v h IH20 J20
        obtain ⟨v17, v18, v19⟩ := v
        try dsimp only at h IH20 J20 ⊢
        cases k20 with
        | zero => cases h
        | succ k20 =>
         rw [F41_l20] at h
         refine Zf <| Zf <| Zb <| Z2 I (Zh (v := (.int .i64 v18)) I I) I <| Z2 I (Zh (v := (.sl 10 (a0.map Z3) false)) I I) I <| Z2 I (stx_len (l := a0) (enc := Z3) I s29 I) I <| Z2 I (Z1k (k := .i64) (a := v18) (b := (a0.length : Int)) (c := (decide (v18 < (a0.length : Int)))) I I I I) I <| Zd ?_
         refine Ze ?_
         have hif := Z1u h
         refine Z12 I (fun hc => ?_) (fun hc => ?_)
         ·have h := hif.1 hc
          refine Z14 <| Ze <| Zf ?_
          refine AWp.blockJoin (V := Bool × Z8) (lp := fun v => F41_j31 K (F41_l20 K a0 v3 v2 v10 (F41_c23 K v11 (F41_l12 K v2 a0 v3 (F41_c14 K (F41_l5 K v2 a0 (F41_c7 K) k5) v3) k12) v10) k20) v18 v.1 v.2 = some r) (sh := fun v => ⟨[(0, (.sl 10 (a0.map Z3) false)), (3, (.vs 3)), (4, (.sl 1 (v2.map Z13) false)), (5, (.int .i64 v3)), (6, (.int .i64 v10)), (7, (.ptr 7 0)), (8, (.bool v.1)), (9, (.int .i64 v18))], [(3, (.vec 10 (List.map Z3 v11))), (7, (.box (Z3 v.2).cells))]⟩) ?_ ?_
          ·intro v h
           obtain ⟨v29, v30⟩ := v
           try dsimp only at h ⊢
           unfold F41_j31 at h
           refine Ze <| Zb <| Z2 I (Zh (v := (.int .i64 v18)) I I) I <| Z2 I (Z1a (k := .i64) (a := v18) (b := 1) (c := (IntKind.i64.wrap (v18 + 1))) I I I I) I <| Z2 I (Zi (v := (.int .i64 (IntKind.i64.wrap (v18 + 1)))) I I) I <| Zd ?_
           exact Zw (st' := ⟨[(0, (.sl 10 (a0.map Z3) false)), (3, (.vs 3)), (4, (.sl 1 (v2.map Z13) false)), (5, (.int .i64 v3)), (6, (.int .i64 v10)), (7, (.ptr 7 0)), (8, (.bool v29)), (9, (.int .i64 (IntKind.i64.wrap (v18 + 1))))], [(3, (.vec 10 (List.map Z3 v11))), (7, (.box (Z3 v30).cells))]⟩) ⟨rfl, rfl, rfl, rfl, rfl, rfl, rfl, rfl, trivial⟩ ⟨rfl, rfl, trivial⟩ (IH20 _ (v29, (IntKind.i64.wrap (v18 + 1)), v30) (Nat.lt_succ_self _) h)
          ·intro J31
           refine Zf <| Zb <| Z2 I (Zh (v := (.sl 10 (a0.map Z3) false)) I I) I <| Z2 I (Zh (v := (.int .i64 v18)) I I) I ?_
           have ⟨hg32, h⟩ := Zu h
           refine Z2 I (Z1p (k := .i64) (l := a0) (enc := Z3) (z := Z4) (n := v18) (cs := (Z3 (a0.getD v18.toNat Z4)).cells) (full := false) I s29 I I hg32 I) I <| Z2 I (st_loadIA (cs := (Z3 (a0.getD v18.toNat Z4)).cells) (vs := (Z3 (a0.getD v18.toNat Z4)).cells) I a25 I I I) I <| Z2 I (st_alloc (cs := [(.int .i64 0), (.int .i64 0), (.int .i64 0), (.int .i64 0), (.int .i64 0), (.int .i64 0), (.int .i64 0), (.int .i64 0), (.int .i64 0), (.int .i64 0)]) I z25 I I I) I <| Z2 I (Z1m (cs := [(.int .i64 0), (.int .i64 0), (.int .i64 0), (.int .i64 0), (.int .i64 0), (.int .i64 0), (.int .i64 0), (.int .i64 0), (.int .i64 0), (.int .i64 0)]) (vs := (Z3 (a0.getD v18.toNat Z4)).cells) (ds := (Z3 (a0.getD v18.toNat Z4)).cells) (v := (Z3 (a0.getD v18.toNat Z4))) sz25 I I I I I I I I) I <| Zd <| Ze <| Zf <| Zf ?_
           refine AWp.join (V := Bool) (lp := fun v => F41_j34 K (F41_l20 K a0 v3 v2 v10 (F41_c23 K v11 (F41_l12 K v2 a0 v3 (F41_c14 K (F41_l5 K v2 a0 (F41_c7 K) k5) v3) k12) v10) k20) v18 v17 v19 a0 v = some r) (sh := fun v => ⟨[(0, (.sl 10 (a0.map Z3) false)), (3, (.vs 3)), (4, (.sl 1 (v2.map Z13) false)), (5, (.int .i64 v3)), (6, (.int .i64 v10)), (7, (.ptr 7 0)), (8, (.bool v17)), (9, (.int .i64 v18)), (10, (.ptr 10 0)), (61, (.bool v))], [(3, (.vec 10 (List.map Z3 v11))), (7, (.box (Z3 v19).cells)), (10, (.box (Z3 (a0.getD v18.toNat Z4)).cells))]⟩) ?_ ?_
           ·intro v h
            revert h
            revert v
            intro v33 h
            try dsimp only at h ⊢
            unfold F41_j34 at h
            refine Ze ?_
            have hif := Z1u h
            refine Z12 I (fun hc => ?_) (fun hc => ?_)
            ·have h := hif.1 hc
             refine AWp.exit <| At.thru <| At.out ?_
             exact Zw (st' := ⟨[(0, (.sl 10 (a0.map Z3) false)), (3, (.vs 3)), (4, (.sl 1 (v2.map Z13) false)), (5, (.int .i64 v3)), (6, (.int .i64 v10)), (7, (.ptr 7 0)), (8, (.bool v17)), (9, (.int .i64 v18))], [(3, (.vec 10 (List.map Z3 v11))), (7, (.box (Z3 v19).cells))]⟩) ⟨rfl, rfl, rfl, rfl, rfl, rfl, rfl, rfl, trivial⟩ ⟨rfl, rfl, trivial⟩ (J31 (v17, v19) h)
            ·have h := hif.2 hc
             refine Z14 <| Ze <| Zf ?_
             refine AWp.join (V := Bool) (lp := fun v => F41_j36 K (F41_l20 K a0 v3 v2 v10 (F41_c23 K v11 (F41_l12 K v2 a0 v3 (F41_c14 K (F41_l5 K v2 a0 (F41_c7 K) k5) v3) k12) v10) k20) v18 a0 v17 v19 v = some r) (sh := fun v => ⟨[(0, (.sl 10 (a0.map Z3) false)), (3, (.vs 3)), (4, (.sl 1 (v2.map Z13) false)), (5, (.int .i64 v3)), (6, (.int .i64 v10)), (7, (.ptr 7 0)), (8, (.bool v17)), (9, (.int .i64 v18)), (10, (.ptr 10 0)), (83, (.bool v))], [(3, (.vec 10 (List.map Z3 v11))), (7, (.box (Z3 v19).cells)), (10, (.box (Z3 (a0.getD v18.toNat Z4)).cells))]⟩) ?_ ?_
             ·intro v h
              revert h
              revert v
              intro v35 h
              try dsimp only at h ⊢
              unfold F41_j36 at h
              refine Ze ?_
              refine AWp.join (V := Bool × Z8) (lp := fun v => F41_j39 K (F41_l20 K a0 v3 v2 v10 (F41_c23 K v11 (F41_l12 K v2 a0 v3 (F41_c14 K (F41_l5 K v2 a0 (F41_c7 K) k5) v3) k12) v10) k20) v18 v.1 v.2 = some r) (sh := fun v => ⟨[(0, (.sl 10 (a0.map Z3) false)), (3, (.vs 3)), (4, (.sl 1 (v2.map Z13) false)), (5, (.int .i64 v3)), (6, (.int .i64 v10)), (7, (.ptr 7 0)), (8, (.bool v.1)), (9, (.int .i64 v18))], [(3, (.vec 10 (List.map Z3 v11))), (7, (.box (Z3 v.2).cells))]⟩) ?_ ?_
              ·intro v h
               obtain ⟨v37, v38⟩ := v
               try dsimp only at h ⊢
               unfold F41_j39 at h
               refine At.end ?_
               exact Zw (st' := ⟨[(0, (.sl 10 (a0.map Z3) false)), (3, (.vs 3)), (4, (.sl 1 (v2.map Z13) false)), (5, (.int .i64 v3)), (6, (.int .i64 v10)), (7, (.ptr 7 0)), (8, (.bool v37)), (9, (.int .i64 v18))], [(3, (.vec 10 (List.map Z3 v11))), (7, (.box (Z3 v38).cells))]⟩) ⟨rfl, rfl, rfl, rfl, rfl, rfl, rfl, rfl, trivial⟩ ⟨rfl, rfl, trivial⟩ (J31 (v37, v38) h)
              ·intro J39
               have hif := Z1u h
               refine Z12 I (fun hc => ?_) (fun hc => ?_)
               ·have h := hif.1 hc
                refine Zb <| Z2 I (Z18 (cs := (Z3 (a0.getD v18.toNat Z4)).cells) (vs := (Z3 (a0.getD v18.toNat Z4)).cells) I a25 I I I I) I <| Z2 I (Z1m (cs := (Z3 v19).cells) (vs := (Z3 (a0.getD v18.toNat Z4)).cells) (ds := (Z3 (a0.getD v18.toNat Z4)).cells) (v := (Z3 (a0.getD v18.toNat Z4))) sz25 I I I I I I I I) I <| Z2 I (Zi (v := (.bool true)) I I) I <| Zd ?_
                exact Zw (st' := ⟨[(0, (.sl 10 (a0.map Z3) false)), (3, (.vs 3)), (4, (.sl 1 (v2.map Z13) false)), (5, (.int .i64 v3)), (6, (.int .i64 v10)), (7, (.ptr 7 0)), (8, (.bool true)), (9, (.int .i64 v18))], [(3, (.vec 10 (List.map Z3 v11))), (7, (.box (Z3 (a0.getD v18.toNat Z4)).cells))]⟩) ⟨rfl, rfl, rfl, rfl, rfl, rfl, rfl, rfl, trivial⟩ ⟨rfl, rfl, trivial⟩ (J39 (true, (a0.getD v18.toNat Z4)) h)
               ·have h := hif.2 hc
                refine Z14 ?_
                exact Zw (st' := ⟨[(0, (.sl 10 (a0.map Z3) false)), (3, (.vs 3)), (4, (.sl 1 (v2.map Z13) false)), (5, (.int .i64 v3)), (6, (.int .i64 v10)), (7, (.ptr 7 0)), (8, (.bool v17)), (9, (.int .i64 v18))], [(3, (.vec 10 (List.map Z3 v11))), (7, (.box (Z3 v19).cells))]⟩) ⟨rfl, rfl, rfl, rfl, rfl, rfl, rfl, rfl, trivial⟩ ⟨rfl, rfl, trivial⟩ (J39 (v17, v19) h)
             ·intro J36
              refine Z1n mixed <| Z9 0 I (Zh (v := (.bool v17)) I I) <| Z9 1 I (st_not (b := v17) I I) <| Z9 2 I (Zh (v := (.bool (!v17))) I I) ?_
              have hif := Z1u h
              refine AOpsD.split (fun hc => ?_) (fun hc => ?_)
              ·have h := hif.1 hc
               refine Zl 3 I I I I I I I <| Zl 4 I I I I I I I <| Zl 5 I I I I I I I <| Zl 6 I I I I I I I <| Zl 7 I I I I I I I <| Z9 8 I (st_pickT (v := (.bool true)) I I I) <| Z9 9 I (Zh (v := (.bool true)) I I) <| Zl 10 I I I I I I I ?_
               refine Zl 11 I I I I I I I <| Zl 12 I I I I I I I <| Zl 13 I I I I I I I <| Zl 14 I I I I I I I <| Zl 15 I I I I I I I <| Zl 16 (u := .tup []) I I I I I I I <| Zl 17 (u := .tup []) I I I I I I I <| Zl 18 (u := .tup []) I I I I I I I ?_
               refine Zl 19 (u := .tup []) I I I I I I I <| Zl 20 I I I I I I I <| Z9 21 I (st_pickT (v := (.bool true)) I I I) <| Z1l (by kernel_rfl) I ?_
               exact Zw (st' := ⟨[(0, (.sl 10 (a0.map Z3) false)), (3, (.vs 3)), (4, (.sl 1 (v2.map Z13) false)), (5, (.int .i64 v3)), (6, (.int .i64 v10)), (7, (.ptr 7 0)), (8, (.bool v17)), (9, (.int .i64 v18)), (10, (.ptr 10 0)), (83, (.bool true))], [(3, (.vec 10 (List.map Z3 v11))), (7, (.box (Z3 v19).cells)), (10, (.box (Z3 (a0.getD v18.toNat Z4)).cells))]⟩) ⟨rfl, rfl, rfl, rfl, rfl, rfl, rfl, rfl, rfl, rfl, trivial⟩ ⟨rfl, rfl, rfl, trivial⟩ (J36 true h)
              ·have h := hif.2 hc
               refine Zo 3 I I I I (Z18 (cs := (Z3 (a0.getD v18.toNat Z4)).cells) (vs := (Z3 (a0.getD v18.toNat Z4)).cells) I a25 I I I I) ?_
               have ⟨v41, hv41, h⟩ := Z16 h
               refine Zo 4 I I I I (Z15 (ar := [(Z3 (a0.getD v18.toNat Z4))]) (caps := []) Try.call33 (F33_ok K (a0.getD v18.toNat Z4) v41 hv41) I I ⟨rfl, trivial⟩ I) <| Zo 5 I I I I (Z18 (cs := (Z3 v19).cells) (vs := (Z3 v19).cells) I a25 I I I I) ?_
               have ⟨v43, hv43, h⟩ := Z16 h
               refine Zo 6 I I I I (Z15 (ar := [(Z3 v19)]) (caps := []) Try.call33 (F33_ok K v19 v43 hv43) I I ⟨rfl, trivial⟩ I) <| Zo 7 I I I I (Z1k (k := .i64) (a := v41) (b := v43) (c := (decide (v41 < v43))) I I I I) <| Z9 8 I (Z1r (v := (.bool (decide (v41 < v43)))) I I I) <| Z9 9 I (Zh (v := (.bool (decide (v41 < v43)))) I I) ?_
               have hif := Z1u h
               refine AOpsD.split (fun hc => ?_) (fun hc => ?_)
               ·have h := hif.1 hc
                refine Zl 10 I I I I I I I <| Zl 11 I I I I I I I <| Zl 12 I I I I I I I <| Zl 13 I I I I I I I <| Zl 14 I I I I I I I <| Zl 15 I I I I I I I <| Zl 16 (u := .tup []) I I I I I I I <| Zl 17 (u := .tup []) I I I I I I I ?_
                refine Zl 18 (u := .tup []) I I I I I I I <| Zl 19 (u := .tup []) I I I I I I I <| Zl 20 I I I I I I I <| Z9 21 I (st_pickT (v := (.bool true)) I I I) <| Z1l (by kernel_rfl) I ?_
                exact Zw (st' := ⟨[(0, (.sl 10 (a0.map Z3) false)), (3, (.vs 3)), (4, (.sl 1 (v2.map Z13) false)), (5, (.int .i64 v3)), (6, (.int .i64 v10)), (7, (.ptr 7 0)), (8, (.bool v17)), (9, (.int .i64 v18)), (10, (.ptr 10 0)), (83, (.bool true))], [(3, (.vec 10 (List.map Z3 v11))), (7, (.box (Z3 v19).cells)), (10, (.box (Z3 (a0.getD v18.toNat Z4)).cells))]⟩) ⟨rfl, rfl, rfl, rfl, rfl, rfl, rfl, rfl, rfl, rfl, trivial⟩ ⟨rfl, rfl, rfl, trivial⟩ (J36 true h)
               ·have h := hif.2 hc
                refine Zo 10 I I I I (Z18 (cs := (Z3 (a0.getD v18.toNat Z4)).cells) (vs := (Z3 (a0.getD v18.toNat Z4)).cells) I a25 I I I I) ?_
                have ⟨v45, hv45, h⟩ := Z16 h
                refine Zo 11 I I I I (Z15 (ar := [(Z3 (a0.getD v18.toNat Z4))]) (caps := []) Try.call33 (F33_ok K (a0.getD v18.toNat Z4) v45 hv45) I I ⟨rfl, trivial⟩ I) <| Zo 12 I I I I (Z18 (cs := (Z3 v19).cells) (vs := (Z3 v19).cells) I a25 I I I I) ?_
                have ⟨v47, hv47, h⟩ := Z16 h
                refine Zo 13 I I I I (Z15 (ar := [(Z3 v19)]) (caps := []) Try.call33 (F33_ok K v19 v47 hv47) I I ⟨rfl, trivial⟩ I) <| Zo 14 I I I I (Z1k (k := .i64) (a := v45) (b := v47) (c := (v45 == v47)) I I I I) <| Zo 15 I I I I (Zh (v := (.bool (v45 == v47))) I I) ?_
                have hif := Z1u h
                refine AOpsD.split (fun hc => ?_) (fun hc => ?_)
                ·have h := hif.1 hc
                 refine Zo 16 I I I I (Z18 (cs := (Z3 (a0.getD v18.toNat Z4)).cells) (vs := (Z3 (a0.getD v18.toNat Z4)).cells) I a25 I I I I) <| Zo 17 I I I I (Z18 (cs := (Z3 v19).cells) (vs := (Z3 v19).cells) I a25 I I I I) ?_
                 have ⟨v49, hv49, h⟩ := Z16 h
                 refine Zo 18 I I I I (Z15 (ar := [(Z3 (a0.getD v18.toNat Z4)), (Z3 v19)]) (caps := []) Try.call17 (F17_ok K (a0.getD v18.toNat Z4) v19 v49 hv49) I I ⟨rfl, rfl, trivial⟩ I) <| Zo 19 I I I I (Z1k (k := .i64) (a := v49) (b := 0) (c := (decide (v49 < 0))) I I I I) <| Zo 20 I I I I (st_pickT (v := (.bool (decide (v49 < 0)))) I I I) <| Z9 21 I (Z1r (v := (.bool (decide (v49 < 0)))) I I I) <| Z1l (by kernel_rfl) I ?_
                 exact Zw (st' := ⟨[(0, (.sl 10 (a0.map Z3) false)), (3, (.vs 3)), (4, (.sl 1 (v2.map Z13) false)), (5, (.int .i64 v3)), (6, (.int .i64 v10)), (7, (.ptr 7 0)), (8, (.bool v17)), (9, (.int .i64 v18)), (10, (.ptr 10 0)), (83, (.bool (decide (v49 < 0))))], [(3, (.vec 10 (List.map Z3 v11))), (7, (.box (Z3 v19).cells)), (10, (.box (Z3 (a0.getD v18.toNat Z4)).cells))]⟩) ⟨rfl, rfl, rfl, rfl, rfl, rfl, rfl, rfl, rfl, rfl, trivial⟩ ⟨rfl, rfl, rfl, trivial⟩ (J36 (decide (v49 < 0)) h)
                ·have h := hif.2 hc
                 refine Zl 16 I I I I I I I <| Zl 17 I I I I I I I <| Zl 18 I I I I I I I <| Zl 19 I I I I I I I <| Zo 20 I I I I (Z1r (v := (.bool false)) I I I) <| Z9 21 I (Z1r (v := (.bool false)) I I I) <| Z1l (by kernel_rfl) I ?_
                 exact Zw (st' := ⟨[(0, (.sl 10 (a0.map Z3) false)), (3, (.vs 3)), (4, (.sl 1 (v2.map Z13) false)), (5, (.int .i64 v3)), (6, (.int .i64 v10)), (7, (.ptr 7 0)), (8, (.bool v17)), (9, (.int .i64 v18)), (10, (.ptr 10 0)), (83, (.bool false))], [(3, (.vec 10 (List.map Z3 v11))), (7, (.box (Z3 v19).cells)), (10, (.box (Z3 (a0.getD v18.toNat Z4)).cells))]⟩) ⟨rfl, rfl, rfl, rfl, rfl, rfl, rfl, rfl, rfl, rfl, trivial⟩ ⟨rfl, rfl, rfl, trivial⟩ (J36 false h)
           ·intro J34
            refine Z1n mixed <| Z9 0 I (Zr (m := 10) (o := 0) I f25_3 I I) <| Z9 1 I (Zz (cs := (Z3 (a0.getD v18.toNat Z4)).cells) (v := (.int .i64 (a0.getD v18.toNat Z4).From)) I o3 I I I) <| Z9 2 I (Zh (v := (.sl 1 (v2.map Z13) false)) I I) <| Z9 3 I (Zh (v := (.int .i64 v3)) I I) ?_
            have ⟨hg50, h⟩ := Zu h
            refine Z9 4 I (Z1p (k := .i64) (l := v2) (enc := Z13) (z := 0) (n := v3) (cs := [(.int .i64 (v2.getD v3.toNat 0))]) (full := false) I s87 I I hg50 I) <| Z9 5 I (st_loadI (cs := [(.int .i64 (v2.getD v3.toNat 0))]) (v := (.int .i64 (v2.getD v3.toNat 0))) I o3 I I) <| Z9 6 I (Z1k (k := .i64) (a := (a0.getD v18.toNat Z4).From) (b := (v2.getD v3.toNat 0)) (c := ((a0.getD v18.toNat Z4).From != (v2.getD v3.toNat 0))) I I I I) <| Z9 7 I (Zh (v := (.bool ((a0.getD v18.toNat Z4).From != (v2.getD v3.toNat 0)))) I I) ?_
            have hif := Z1u h
            refine AOpsD.split (fun hc => ?_) (fun hc => ?_)
            ·have h := hif.1 hc
             refine Zl 8 I I I I I I I <| Zl 9 I I I I I I I <| Zl 10 I I I I I I I <| Zl 11 I I I I I I I <| Zl 12 I I I I I I I <| Zl 13 I I I I I I I <| Zl 14 I I I I I I I <| Z9 15 I (st_pickT (v := (.bool true)) I I I) ?_
             refine Z9 16 I (Zh (v := (.bool true)) I I) <| Zl 17 I I I I I I I <| Zl 18 I I I I I I I <| Zl 19 I I I I I I I <| Zl 20 I I I I I I I <| Zl 21 (u := .tup []) I I I I I I I <| Zl 22 (u := .tup []) I I I I I I I <| Zl 23 (u := .tup []) I I I I I I I ?_
             refine Zl 24 I I I I I I I <| Z9 25 I (st_pickT (v := (.bool true)) I I I) <| Z1l (by kernel_rfl) I ?_
             exact Zw (st' := ⟨[(0, (.sl 10 (a0.map Z3) false)), (3, (.vs 3)), (4, (.sl 1 (v2.map Z13) false)), (5, (.int .i64 v3)), (6, (.int .i64 v10)), (7, (.ptr 7 0)), (8, (.bool v17)), (9, (.int .i64 v18)), (10, (.ptr 10 0)), (61, (.bool true))], [(3, (.vec 10 (List.map Z3 v11))), (7, (.box (Z3 v19).cells)), (10, (.box (Z3 (a0.getD v18.toNat Z4)).cells))]⟩) ⟨rfl, rfl, rfl, rfl, rfl, rfl, rfl, rfl, rfl, rfl, trivial⟩ ⟨rfl, rfl, rfl, trivial⟩ (J34 true h)
            ·have h := hif.2 hc
             refine Zo 8 I I I I (Zr (m := 10) (o := 0) I f25_4 I I) <| Zo 9 I I I I (Zz (cs := (Z3 (a0.getD v18.toNat Z4)).cells) (v := (.int .i64 (a0.getD v18.toNat Z4).To)) I o3 I I I) <| Zo 10 I I I I (Zh (v := (.sl 1 (v2.map Z13) false)) I I) <| Zo 11 I I I I (Zh (v := (.int .i64 v10)) I I) ?_
             have ⟨hg51, h⟩ := Zu h
             refine Zo 12 I I I I (Z1p (k := .i64) (l := v2) (enc := Z13) (z := 0) (n := v10) (cs := [(.int .i64 (v2.getD v10.toNat 0))]) (full := false) I s87 I I hg51 I) <| Zo 13 I I I I (st_loadI (cs := [(.int .i64 (v2.getD v10.toNat 0))]) (v := (.int .i64 (v2.getD v10.toNat 0))) I o3 I I) <| Zo 14 I I I I (Z1k (k := .i64) (a := (a0.getD v18.toNat Z4).To) (b := (v2.getD v10.toNat 0)) (c := ((a0.getD v18.toNat Z4).To != (v2.getD v10.toNat 0))) I I I I) <| Z9 15 I (Z1r (v := (.bool ((a0.getD v18.toNat Z4).To != (v2.getD v10.toNat 0)))) I I I) <| Z9 16 I (Zh (v := (.bool ((a0.getD v18.toNat Z4).To != (v2.getD v10.toNat 0)))) I I) ?_
             have hif := Z1u h
             refine AOpsD.split (fun hc => ?_) (fun hc => ?_)
             ·have h := hif.1 hc
              refine Zl 17 I I I I I I I <| Zl 18 I I I I I I I <| Zl 19 I I I I I I I <| Zl 20 I I I I I I I <| Zl 21 (u := .tup []) I I I I I I I <| Zl 22 (u := .tup []) I I I I I I I <| Zl 23 (u := .tup []) I I I I I I I <| Zl 24 I I I I I I I ?_
              refine Z9 25 I (st_pickT (v := (.bool true)) I I I) <| Z1l (by kernel_rfl) I ?_
              exact Zw (st' := ⟨[(0, (.sl 10 (a0.map Z3) false)), (3, (.vs 3)), (4, (.sl 1 (v2.map Z13) false)), (5, (.int .i64 v3)), (6, (.int .i64 v10)), (7, (.ptr 7 0)), (8, (.bool v17)), (9, (.int .i64 v18)), (10, (.ptr 10 0)), (61, (.bool true))], [(3, (.vec 10 (List.map Z3 v11))), (7, (.box (Z3 v19).cells)), (10, (.box (Z3 (a0.getD v18.toNat Z4)).cells))]⟩) ⟨rfl, rfl, rfl, rfl, rfl, rfl, rfl, rfl, rfl, rfl, trivial⟩ ⟨rfl, rfl, rfl, trivial⟩ (J34 true h)
             ·have h := hif.2 hc
              refine Zo 17 I I I I (Zh (v := (.int .i64 v3)) I I) <| Zo 18 I I I I (Zh (v := (.int .i64 v10)) I I) <| Zo 19 I I I I (Z1k (k := .i64) (a := v3) (b := v10) (c := (v3 == v10)) I I I I) <| Zo 20 I I I I (Zh (v := (.bool (v3 == v10))) I I) ?_
              have hif := Z1u h
              refine AOpsD.split (fun hc => ?_) (fun hc => ?_)
              ·have h := hif.1 hc
               refine Zo 21 I I I I (Z18 (cs := (Z3 (a0.getD v18.toNat Z4)).cells) (vs := (Z3 (a0.getD v18.toNat Z4)).cells) I a25 I I I I) ?_
               have ⟨v53, hv53, h⟩ := Z16 h
               refine Zo 22 I I I I (Z15 (ar := [(Z3 (a0.getD v18.toNat Z4))]) (caps := []) Try.call33 (F33_ok K (a0.getD v18.toNat Z4) v53 hv53) I I ⟨rfl, trivial⟩ I) <| Zo 23 I I I I (Z1k (k := .i64) (a := v53) (b := 0) (c := (decide (v53 ≥ 0))) I I I I) <| Zo 24 I I I I (st_pickT (v := (.bool (decide (v53 ≥ 0)))) I I I) <| Z9 25 I (Z1r (v := (.bool (decide (v53 ≥ 0)))) I I I) <| Z1l (by kernel_rfl) I ?_
               exact Zw (st' := ⟨[(0, (.sl 10 (a0.map Z3) false)), (3, (.vs 3)), (4, (.sl 1 (v2.map Z13) false)), (5, (.int .i64 v3)), (6, (.int .i64 v10)), (7, (.ptr 7 0)), (8, (.bool v17)), (9, (.int .i64 v18)), (10, (.ptr 10 0)), (61, (.bool (decide (v53 ≥ 0))))], [(3, (.vec 10 (List.map Z3 v11))), (7, (.box (Z3 v19).cells)), (10, (.box (Z3 (a0.getD v18.toNat Z4)).cells))]⟩) ⟨rfl, rfl, rfl, rfl, rfl, rfl, rfl, rfl, rfl, rfl, trivial⟩ ⟨rfl, rfl, rfl, trivial⟩ (J34 (decide (v53 ≥ 0)) h)
              ·have h := hif.2 hc
               refine Zl 21 I I I I I I I <| Zl 22 I I I I I I I <| Zl 23 I I I I I I I <| Zo 24 I I I I (Z1r (v := (.bool false)) I I I) <| Z9 25 I (Z1r (v := (.bool false)) I I I) <| Z1l (by kernel_rfl) I ?_
               exact Zw (st' := ⟨[(0, (.sl 10 (a0.map Z3) false)), (3, (.vs 3)), (4, (.sl 1 (v2.map Z13) false)), (5, (.int .i64 v3)), (6, (.int .i64 v10)), (7, (.ptr 7 0)), (8, (.bool v17)), (9, (.int .i64 v18)), (10, (.ptr 10 0)), (61, (.bool false))], [(3, (.vec 10 (List.map Z3 v11))), (7, (.box (Z3 v19).cells)), (10, (.box (Z3 (a0.getD v18.toNat Z4)).cells))]⟩) ⟨rfl, rfl, rfl, rfl, rfl, rfl, rfl, rfl, rfl, rfl, trivial⟩ ⟨rfl, rfl, rfl, trivial⟩ (J34 false h)
         ·have h := hif.2 hc
          refine AWp.exit <| At.thru ?_
          exact Zw (st' := ⟨[(0, (.sl 10 (a0.map Z3) false)), (3, (.vs 3)), (4, (.sl 1 (v2.map Z13) false)), (5, (.int .i64 v3)), (6, (.int .i64 v10)), (7, (.ptr 7 0)), (8, (.bool v17))], [(3, (.vec 10 (List.map Z3 v11))), (7, (.box (Z3 v19).cells))]⟩) ⟨rfl, rfl, rfl, rfl, rfl, rfl, rfl, trivial⟩ ⟨rfl, rfl, trivial⟩ (J20 (v17, v19) h)
      ·have h := hif.2 hc
       refine AWp.exit <| At.thru ?_
       exact Zw (st' := ⟨[(0, (.sl 10 (a0.map Z3) false)), (3, (.vs 3)), (4, (.sl 1 (v2.map Z13) false)), (5, (.int .i64 v3))], [(3, (.vec 10 (List.map Z3 v11)))]⟩) ⟨rfl, rfl, rfl, rfl, trivial⟩ ⟨rfl, trivial⟩ (J12 v11 h)
   ·have h := hif.2 hc
    refine AWp.exit <| At.thru ?_
    exact Zw (st' := ⟨[(3, (.vs 3))], [(3, (.vec 10 (List.map Z3 v4)))]⟩) ⟨rfl, trivial⟩ ⟨rfl, trivial⟩ (J5 v4 h)
def F11_c27 (K : Nat) (v20 : Bool) (v26 : Bool) : Option (Bool) :=
 some (v20 == v26)
def F11_j31 (K : Nat) (b29 : Bool → Int → Option (Bool)) (v24 : Int) (v30 : Bool) : Option (Bool) :=
 b29 v30 (IntKind.i64.wrap (v24 + 1))
def F11_l25 (K : Nat) (v12 : (List Z8)) (a1 : A4_Int) (c28 : Bool → Option (Bool)) : Nat → Bool → Int → Option (Bool)
 | 0, _, _ => none
 | k25 + 1, v23, v24 =>
  if (decide (v24 < (v12.length : Int))) = true then
   if v23 = true then
    if (0 : Int) ≤ v24 ∧ v24 < v12.length then
     if (0 : Int) ≤ ((IntKind.i64.wrap ((v12.getD v24.toNat Z4).To + 3)).tmod 4) ∧ ((IntKind.i64.wrap ((v12.getD v24.toNat Z4).To + 3)).tmod 4) < (4 : Nat) then
      if (0 : Int) ≤ v24 ∧ v24 < v12.length then
       if (0 : Int) ≤ ((IntKind.i64.wrap ((v12.getD v24.toNat Z4).From + 3)).tmod 4) ∧ ((IntKind.i64.wrap ((v12.getD v24.toNat Z4).From + 3)).tmod 4) < (4 : Nat) then
        if (0 : Int) ≤ v24 ∧ v24 < v12.length then
         (F33 K (v12.getD v24.toNat Z4)).bind fun v38 =>
          F11_j31 K (F11_l25 K v12 a1 c28 k25) v24 (decide ((IntKind.i64.wrap ((IntKind.i64.wrap (([a1.e0, a1.e1, a1.e2, a1.e3] : List Int).getD ((IntKind.i64.wrap ((v12.getD v24.toNat Z4).To + 3)).tmod 4).toNat 0)) - (IntKind.i64.wrap (([a1.e0, a1.e1, a1.e2, a1.e3] : List Int).getD ((IntKind.i64.wrap ((v12.getD v24.toNat Z4).From + 3)).tmod 4).toNat 0)))) ≤ v38))
        else none
       else none
      else none
     else none
    else none
   else
    F11_j31 K (F11_l25 K v12 a1 c28 k25) v24 false
  else
   c28 v23
def F11_c21 (K : Nat) (v12 : (List Z8)) (a1 : A4_Int) (v20 : Bool) : Option (Bool) :=
 F11_l25 K v12 a1 (F11_c27 K v20) K true 0
def F11_j41 (K : Nat) (b39 : Bool → Int → Option (Bool)) (v18 : Int) (v40 : Bool) : Option (Bool) :=
 b39 v40 (IntKind.i64.wrap (v18 + 1))
def F11_l19 (K : Nat) (v10 : (List Z8)) (a1 : A4_Int) (c22 : Bool → Option (Bool)) : Nat → Bool → Int → Option (Bool)
 | 0, _, _ => none
 | k19 + 1, v17, v18 =>
  if (decide (v18 < (v10.length : Int))) = true then
   if v17 = true then
    if (0 : Int) ≤ v18 ∧ v18 < v10.length then
     if (0 : Int) ≤ ((IntKind.i64.wrap ((v10.getD v18.toNat Z4).To + 3)).tmod 4) ∧ ((IntKind.i64.wrap ((v10.getD v18.toNat Z4).To + 3)).tmod 4) < (4 : Nat) then
      if (0 : Int) ≤ v18 ∧ v18 < v10.length then
       if (0 : Int) ≤ ((IntKind.i64.wrap ((v10.getD v18.toNat Z4).From + 3)).tmod 4) ∧ ((IntKind.i64.wrap ((v10.getD v18.toNat Z4).From + 3)).tmod 4) < (4 : Nat) then
        if (0 : Int) ≤ v18 ∧ v18 < v10.length then
         (F33 K (v10.getD v18.toNat Z4)).bind fun v48 =>
          F11_j41 K (F11_l19 K v10 a1 c22 k19) v18 (decide ((IntKind.i64.wrap ((IntKind.i64.wrap (([a1.e0, a1.e1, a1.e2, a1.e3] : List Int).getD ((IntKind.i64.wrap ((v10.getD v18.toNat Z4).To + 3)).tmod 4).toNat 0)) - (IntKind.i64.wrap (([a1.e0, a1.e1, a1.e2, a1.e3] : List Int).getD ((IntKind.i64.wrap ((v10.getD v18.toNat Z4).From + 3)).tmod 4).toNat 0)))) ≤ v48))
        else none
       else none
      else none
     else none
    else none
   else
    F11_j41 K (F11_l19 K v10 a1 c22 k19) v18 false
  else
   c22 v17
def F11 (K : Nat) (a0 : Zp) (a1 : A4_Int) : Option (Bool) :=
 (F16 K).bind fun v2 =>
  if (!v2) = true then
   (F16 K).bind fun v4 =>
    some v4
  else
   (F23 K a0).bind fun v6 =>
    if (!v6) = true then
     (F16 K).bind fun v8 =>
      some v8
    else
     (F28 K a0).bind fun v10 =>
      (F40 K v10).bind fun v12 =>
       (F41 K v10).bind fun v14 =>
        (F18 K v12 v14).bind fun v16 =>
         if (!v16) = true then
          some false
         else
          F11_l19 K v10 a1 (F11_c21 K v12 a1) K true 0
theorem F11_ok (K : Nat) (a0 : Zp) (a1 : A4_Int) (r : Bool) (h : F11 K a0 a1 = some r) : ACall P 11 ⟨[(Zc a0), (e_A4_Int a1)], [], (.bool r), [], []⟩ := by
 refine Z1q Try.func11 Try.results11 rfl Try.ntmps11 rfl rfl rfl ?_
 intro E Q hP hN hro hret
 obtain ⟨P', nt', w0, F0, p0, S0, β0, ro0⟩ := E
 simp only at hP hN
 subst hP hN
 dsimp only [argT]
 unfold F11 at h
 refine Zf <| Zb <| Z2 I (st_box (v := (Zc a0)) (cs := (Zc a0).cells) I I I I I) I <| Z2 I (st_box (v := (e_A4_Int a1)) (cs := (e_A4_Int a1).cells) I I I I I) I <| Z2 I (Zi (v := (.bool false)) I I) I <| Zd <| Ze <| Zf ?_
 refine Zf <| Zb ?_
 have ⟨v2, hv2, h⟩ := Z16 h
 refine Z2 I (Z15 (ar := []) (caps := []) Try.call16 (F16_ok K v2 hv2) I I trivial I) I <| Z2 I (st_not (b := v2) I I) I <| Z2 I (Zh (v := (.bool (!v2))) I I) I ?_
 have hif := Z1u h
 refine AOps.split (fun hc => ?_) (fun hc => ?_)
 ·have h := hif.1 hc
  refine Zt I I I I I I I <| Zt I I I I I I I <| Zt I I I I I I I <| Z2 I (st_pickT (v := (.bool true)) I I I) I <| Zd <| Ze ?_
  refine Z12 (b := true) I (fun hc => ?_) (fun hc => ?_)
  rotate_left
  ·cases hc
  refine Zf <| Zb ?_
  have ⟨v4, hv4, h⟩ := Z16 h
  refine Z2 I (Z15 (ar := []) (caps := []) Try.call16 (F16_ok K v4 hv4) I I trivial I) I <| Z2 I (Zi (v := (.bool v4)) I I) I <| Zd <| Ze <| Z1d <| Z1i ?_
  have h := Option.some.inj h
  subst h
  refine (hret _ ?_).1
  exact ⟨[(.bool v4)], ⟨rfl, trivial⟩, rfl, trivial⟩
 ·have h := hif.2 hc
  refine Z11 I I I I (Z18 (cs := (Zc a0).cells) (vs := (Zc a0).cells) I a46 I I I I) I ?_
  have ⟨v6, hv6, h⟩ := Z16 h
  refine Z11 I I I I (Z15 (ar := [(Zc a0)]) (caps := []) Try.call23 (F23_ok K a0 v6 hv6) I I ⟨rfl, trivial⟩ I) I <| Z11 I I I I (st_not (b := v6) I I) I <| Z2 I (Z1r (v := (.bool (!v6))) I I I) I <| Zd <| Ze ?_
  have hif := Z1u h
  refine Z12 I (fun hc => ?_) (fun hc => ?_)
  ·have h := hif.1 hc
   refine Zf <| Zb ?_
   have ⟨v8, hv8, h⟩ := Z16 h
   refine Z2 I (Z15 (ar := []) (caps := []) Try.call16 (F16_ok K v8 hv8) I I trivial I) I <| Z2 I (Zi (v := (.bool v8)) I I) I <| Zd <| Ze <| Z1d <| Z1i ?_
   have h := Option.some.inj h
   subst h
   refine (hret _ ?_).1
   exact ⟨[(.bool v8)], ⟨rfl, trivial⟩, rfl, trivial⟩
  ·have h := hif.2 hc
   refine Z14 <| Ze <| Zf <| Zb <| Z2 I (Z18 (cs := (Zc a0).cells) (vs := (Zc a0).cells) I a46 I I I I) I ?_
   have ⟨v10, hv10, h⟩ := Z16 h
   refine Z2 I (Z15 (ar := [(Zc a0)]) (caps := []) Try.call28 (F28_ok K a0 v10 hv10) I I ⟨rfl, trivial⟩ I) I <| Z2 I (Zi (v := (.sl 10 (v10.map Z3) false)) I I) I <| Zd <| Ze <| Zf <| Zb <| Z2 I (Zh (v := (.sl 10 (v10.map Z3) false)) I I) I ?_
   have ⟨v12, hv12, h⟩ := Z16 h
   refine Z2 I (Z15 (ar := [(.sl 10 (v10.map Z3) false)]) (caps := []) Try.call40 (F40_ok K v10 v12 hv12) I I ⟨rfl, trivial⟩ I) I <| Z2 I (Zi (v := (.sl 10 (v12.map Z3) false)) I I) I <| Zd <| Ze <| Zf <| Zf <| Zb <| Z2 I (Zh (v := (.sl 10 (v12.map Z3) false)) I I) I ?_
   refine Z2 I (Zh (v := (.sl 10 (v10.map Z3) false)) I I) I ?_
   have ⟨v14, hv14, h⟩ := Z16 h
   refine Z2 I (Z15 (ar := [(.sl 10 (v10.map Z3) false)]) (caps := []) Try.call41 (F41_ok K v10 v14 hv14) I I ⟨rfl, trivial⟩ I) I ?_
   have ⟨v16, hv16, h⟩ := Z16 h
   refine Z2 I (Z15 (ar := [(.sl 10 (v12.map Z3) false), (.sl 10 (v14.map Z3) false)]) (caps := []) Try.call18 (F18_ok K v12 v14 v16 hv16) I I ⟨rfl, rfl, trivial⟩ I) I <| Z2 I (st_not (b := v16) I I) I <| Zd <| Ze ?_
   have hif := Z1u h
   refine Z12 I (fun hc => ?_) (fun hc => ?_)
   ·have h := hif.1 hc
    refine Zf <| Zb <| Z2 I (Zi (v := (.bool false)) I I) I <| Zd <| Ze <| Z1d <| Z1i ?_
    have h := Option.some.inj h
    subst h
    refine (hret _ ?_).1
    exact ⟨[(.bool false)], ⟨rfl, trivial⟩, rfl, trivial⟩
   ·have h := hif.2 hc
    refine Z14 <| Ze <| Zf <| Zb <| Z2 I (Zi (v := (.bool true)) I I) I <| Z2 I (Zi (v := (.bool true)) I I) I <| Zd <| Ze ?_
    refine Zf <| Zf <| Zb <| Z2 I (Zi (v := (.int .i64 0)) I I) I <| Zd <| Ze <| AWp.ghost (st' := ⟨[(3, (.ip (e_A4_Int a1).cells)), (5, (.sl 10 (v10.map Z3) false)), (6, (.sl 10 (v12.map Z3) false)), (7, (.bool true)), (8, (.bool true)), (9, (.int .i64 0))], []⟩) (fun a w h => (Z19 ⟨[(3, (.ip (e_A4_Int a1).cells)), (5, (.sl 10 (v10.map Z3) false)), (6, (.sl 10 (v12.map Z3) false)), (7, (.bool true)), (8, (.bool true)), (9, (.int .i64 0))], []⟩ (ghost_freezeB (m := 3) (cs := (e_A4_Int a1).cells) I a w (Z19 ⟨[(3, (.ptr 3 0)), (5, (.sl 10 (v10.map Z3) false)), (6, (.sl 10 (v12.map Z3) false)), (7, (.bool true)), (8, (.bool true)), (9, (.int .i64 0))], [(3, (.box (e_A4_Int a1).cells))]⟩ h ⟨rfl, rfl, rfl, rfl, rfl, rfl, trivial⟩ ⟨rfl, trivial⟩)) ⟨rfl, rfl, rfl, rfl, rfl, rfl, trivial⟩ trivial)) <| Z1s (st' := ⟨[(3, (.ip (e_A4_Int a1).cells)), (5, (.sl 10 (v10.map Z3) false)), (6, (.sl 10 (v12.map Z3) false)), (7, (.bool true)), (8, (.bool true)), (9, (.int .i64 0))], []⟩) ⟨rfl, rfl, rfl, rfl, rfl, rfl, trivial⟩ trivial ?_
    refine Z1h (V := Bool × Int) (X := Bool) (lp := fun k v => F11_l19 K v10 a1 (F11_c21 K v12 a1) k v.1 v.2 = some r) (sh := fun v => ⟨[(3, (.ip (e_A4_Int a1).cells)), (5, (.sl 10 (v10.map Z3) false)), (6, (.sl 10 (v12.map Z3) false)), (7, (.bool v.1)), (8, (.bool true)), (9, (.int .i64 v.2))], []⟩) (x := fun v => F11_c21 K v12 a1 v = some r) (shx := fun v => ⟨[(3, (.ip (e_A4_Int a1).cells)), (6, (.sl 10 (v12.map Z3) false)), (7, (.bool v)), (8, (.bool true))], []⟩) (k := K) (v := (true, 0)) h ?_ ?_
    ·intro v h
     revert h
     revert v
     intro v20 h
     try dsimp only at h ⊢
     unfold F11_c21 at h
     refine Ze <| Zf <| Zf <| Zb <| Z2 I (Zi (v := (.int .i64 0)) I I) I <| Zd <| Ze <| Z1s (st' := ⟨[(3, (.ip (e_A4_Int a1).cells)), (6, (.sl 10 (v12.map Z3) false)), (7, (.bool v20)), (8, (.bool true)), (10, (.int .i64 0))], []⟩) ⟨rfl, rfl, rfl, rfl, rfl, trivial⟩ trivial ?_
     refine Z1h (V := Bool × Int) (X := Bool) (lp := fun k v => F11_l25 K v12 a1 (F11_c27 K v20) k v.1 v.2 = some r) (sh := fun v => ⟨[(3, (.ip (e_A4_Int a1).cells)), (6, (.sl 10 (v12.map Z3) false)), (7, (.bool v20)), (8, (.bool v.1)), (10, (.int .i64 v.2))], []⟩) (x := fun v => F11_c27 K v20 v = some r) (shx := fun v => ⟨[(7, (.bool v20)), (8, (.bool v))], []⟩) (k := K) (v := (true, 0)) h ?_ ?_
     ·intro v h
      revert h
      revert v
      intro v26 h
      try dsimp only at h ⊢
      unfold F11_c27 at h
      refine Ze <| Zf <| Zb <| Z2 I (Zh (v := (.bool v20)) I I) I <| Z2 I (Zh (v := (.bool v26)) I I) I <| Z2 I (st_cmpB (c := (v20 == v26)) I u4 I I I) I <| Z2 I (Zi (v := (.bool (v20 == v26))) I I) I <| Zd ?_
      refine Ze <| Z1d ?_
      have h := Option.some.inj h
      subst h
      refine (hret _ ?_).1
      exact ⟨[(.bool (v20 == v26))], ⟨rfl, trivial⟩, rfl, trivial⟩
     ·intro N k25 v h IH25 J25
      obtain ⟨v23, v24⟩ := v
      try dsimp only at h IH25 J25 ⊢
      cases k25 with
      | zero => cases h
      | succ k25 =>
       rw [F11_l25] at h
       refine Zf <| Zf <| Zb <| Z2 I (Zh (v := (.int .i64 v24)) I I) I <| Z2 I (Zh (v := (.sl 10 (v12.map Z3) false)) I I) I <| Z2 I (stx_len (l := v12) (enc := Z3) I s29 I) I <| Z2 I (Z1k (k := .i64) (a := v24) (b := (v12.length : Int)) (c := (decide (v24 < (v12.length : Int)))) I I I I) I <| Zd ?_
       refine Ze ?_
       have hif := Z1u h
       refine Z12 I (fun hc => ?_) (fun hc => ?_)
       ·have h := hif.1 hc
        refine Z14 <| Ze <| Zf ?_
        refine AWp.blockJoin (V := Bool) (lp := fun v => F11_j31 K (F11_l25 K v12 a1 (F11_c27 K v20) k25) v24 v = some r) (sh := fun v => ⟨[(3, (.ip (e_A4_Int a1).cells)), (6, (.sl 10 (v12.map Z3) false)), (7, (.bool v20)), (8, (.bool v)), (10, (.int .i64 v24))], []⟩) ?_ ?_
        ·intro v h
         revert h
         revert v
         intro v30 h
         try dsimp only at h ⊢
         unfold F11_j31 at h
         refine Ze <| Zb <| Z2 I (Zh (v := (.int .i64 v24)) I I) I <| Z2 I (Z1a (k := .i64) (a := v24) (b := 1) (c := (IntKind.i64.wrap (v24 + 1))) I I I I) I <| Z2 I (Zi (v := (.int .i64 (IntKind.i64.wrap (v24 + 1)))) I I) I <| Zd ?_
         exact Zw (st' := ⟨[(3, (.ip (e_A4_Int a1).cells)), (6, (.sl 10 (v12.map Z3) false)), (7, (.bool v20)), (8, (.bool v30)), (10, (.int .i64 (IntKind.i64.wrap (v24 + 1))))], []⟩) ⟨rfl, rfl, rfl, rfl, rfl, trivial⟩ trivial (IH25 _ (v30, (IntKind.i64.wrap (v24 + 1))) (Nat.lt_succ_self _) h)
        ·intro J31
         refine Z1n mixed <| Z9 0 I (Zh (v := (.bool v23)) I I) <| Z9 1 I (Zh (v := (.bool v23)) I I) ?_
         have hif := Z1u h
         refine AOpsD.split (fun hc => ?_) (fun hc => ?_)
         ·have h := hif.1 hc
          refine Zo 2 I I I I (Zh (v := (.sl 10 (v12.map Z3) false)) I I) <| Zo 3 I I I I (Zh (v := (.int .i64 v24)) I I) ?_
          have ⟨hg32, h⟩ := Zu h
          refine Zo 4 I I I I (Z1p (k := .i64) (l := v12) (enc := Z3) (z := Z4) (n := v24) (cs := (Z3 (v12.getD v24.toNat Z4)).cells) (full := false) I s29 I I hg32 I) <| Zo 5 I I I I (st_fieldI (cs := (Z3 (v12.getD v24.toNat Z4)).cells) (ds := [(.int .i64 (v12.getD v24.toNat Z4).To), (.int .i64 (v12.getD v24.toNat Z4).Sent), (.int .i64 (v12.getD v24.toNat Z4).Received), (.int .i64 (v12.getD v24.toNat Z4).Least)]) I f25_4 I I I) <| Zo 6 I I I I (st_loadI (cs := [(.int .i64 (v12.getD v24.toNat Z4).To), (.int .i64 (v12.getD v24.toNat Z4).Sent), (.int .i64 (v12.getD v24.toNat Z4).Received), (.int .i64 (v12.getD v24.toNat Z4).Least)]) (v := (.int .i64 (v12.getD v24.toNat Z4).To)) I o3 I I) <| Zo 7 I I I I (Z1a (k := .i64) (a := (v12.getD v24.toNat Z4).To) (b := 3) (c := (IntKind.i64.wrap ((v12.getD v24.toNat Z4).To + 3))) I I I I) <| Zo 8 I I I I (st_div (k := .i64) (a := (IntKind.i64.wrap ((v12.getD v24.toNat Z4).To + 3))) (b := 4) (c := ((IntKind.i64.wrap ((v12.getD v24.toNat Z4).To + 3)).tmod 4)) I I I I (by decide)) ?_
          have ⟨hg33, h⟩ := Zu h
          refine Zo 9 I I I I (st_indexIL (k := .i64) (j := ((IntKind.i64.wrap ((v12.getD v24.toNat Z4).To + 3)).tmod 4)) (l := [a1.e0, a1.e1, a1.e2, a1.e3]) (enc := e_i8) (z := 0) (cs := (e_A4_Int a1).cells) (ds := [(.int .i8 (([a1.e0, a1.e1, a1.e2, a1.e3] : List Int).getD ((IntKind.i64.wrap ((v12.getD v24.toNat Z4).To + 3)).tmod 4).toNat 0))]) I u43 sz42 I I I I els_i8 hg33 I) <| Zo 10 I I I I (st_loadI (cs := [(.int .i8 (([a1.e0, a1.e1, a1.e2, a1.e3] : List Int).getD ((IntKind.i64.wrap ((v12.getD v24.toNat Z4).To + 3)).tmod 4).toNat 0))]) (v := (.int .i8 (([a1.e0, a1.e1, a1.e2, a1.e3] : List Int).getD ((IntKind.i64.wrap ((v12.getD v24.toNat Z4).To + 3)).tmod 4).toNat 0))) I o42 I I) <| Zo 11 I I I I (st_conv I us42 u3 I) <| Zo 12 I I I I (Zh (v := (.sl 10 (v12.map Z3) false)) I I) <| Zo 13 I I I I (Zh (v := (.int .i64 v24)) I I) ?_
          have ⟨hg34, h⟩ := Zu h
          refine Zo 14 I I I I (Z1p (k := .i64) (l := v12) (enc := Z3) (z := Z4) (n := v24) (cs := (Z3 (v12.getD v24.toNat Z4)).cells) (full := false) I s29 I I hg34 I) <| Zo 15 I I I I (st_fieldI (cs := (Z3 (v12.getD v24.toNat Z4)).cells) (ds := [(.int .i64 (v12.getD v24.toNat Z4).From), (.int .i64 (v12.getD v24.toNat Z4).To), (.int .i64 (v12.getD v24.toNat Z4).Sent), (.int .i64 (v12.getD v24.toNat Z4).Received), (.int .i64 (v12.getD v24.toNat Z4).Least)]) I f25_3 I I I) <| Zo 16 I I I I (st_loadI (cs := [(.int .i64 (v12.getD v24.toNat Z4).From), (.int .i64 (v12.getD v24.toNat Z4).To), (.int .i64 (v12.getD v24.toNat Z4).Sent), (.int .i64 (v12.getD v24.toNat Z4).Received), (.int .i64 (v12.getD v24.toNat Z4).Least)]) (v := (.int .i64 (v12.getD v24.toNat Z4).From)) I o3 I I) <| Zo 17 I I I I (Z1a (k := .i64) (a := (v12.getD v24.toNat Z4).From) (b := 3) (c := (IntKind.i64.wrap ((v12.getD v24.toNat Z4).From + 3))) I I I I) <| Zo 18 I I I I (st_div (k := .i64) (a := (IntKind.i64.wrap ((v12.getD v24.toNat Z4).From + 3))) (b := 4) (c := ((IntKind.i64.wrap ((v12.getD v24.toNat Z4).From + 3)).tmod 4)) I I I I (by decide)) ?_
          have ⟨hg35, h⟩ := Zu h
          refine Zo 19 I I I I (st_indexIL (k := .i64) (j := ((IntKind.i64.wrap ((v12.getD v24.toNat Z4).From + 3)).tmod 4)) (l := [a1.e0, a1.e1, a1.e2, a1.e3]) (enc := e_i8) (z := 0) (cs := (e_A4_Int a1).cells) (ds := [(.int .i8 (([a1.e0, a1.e1, a1.e2, a1.e3] : List Int).getD ((IntKind.i64.wrap ((v12.getD v24.toNat Z4).From + 3)).tmod 4).toNat 0))]) I u43 sz42 I I I I els_i8 hg35 I) <| Zo 20 I I I I (st_loadI (cs := [(.int .i8 (([a1.e0, a1.e1, a1.e2, a1.e3] : List Int).getD ((IntKind.i64.wrap ((v12.getD v24.toNat Z4).From + 3)).tmod 4).toNat 0))]) (v := (.int .i8 (([a1.e0, a1.e1, a1.e2, a1.e3] : List Int).getD ((IntKind.i64.wrap ((v12.getD v24.toNat Z4).From + 3)).tmod 4).toNat 0))) I o42 I I) <| Zo 21 I I I I (st_conv I us42 u3 I) <| Zo 22 I I I I (Z1a (k := .i64) (a := (IntKind.i64.wrap (([a1.e0, a1.e1, a1.e2, a1.e3] : List Int).getD ((IntKind.i64.wrap ((v12.getD v24.toNat Z4).To + 3)).tmod 4).toNat 0))) (b := (IntKind.i64.wrap (([a1.e0, a1.e1, a1.e2, a1.e3] : List Int).getD ((IntKind.i64.wrap ((v12.getD v24.toNat Z4).From + 3)).tmod 4).toNat 0))) (c := (IntKind.i64.wrap ((IntKind.i64.wrap (([a1.e0, a1.e1, a1.e2, a1.e3] : List Int).getD ((IntKind.i64.wrap ((v12.getD v24.toNat Z4).To + 3)).tmod 4).toNat 0)) - (IntKind.i64.wrap (([a1.e0, a1.e1, a1.e2, a1.e3] : List Int).getD ((IntKind.i64.wrap ((v12.getD v24.toNat Z4).From + 3)).tmod 4).toNat 0))))) I I I I) <| Zo 23 I I I I (Zh (v := (.sl 10 (v12.map Z3) false)) I I) <| Zo 24 I I I I (Zh (v := (.int .i64 v24)) I I) ?_
          have ⟨hg36, h⟩ := Zu h
          refine Zo 25 I I I I (Z1p (k := .i64) (l := v12) (enc := Z3) (z := Z4) (n := v24) (cs := (Z3 (v12.getD v24.toNat Z4)).cells) (full := false) I s29 I I hg36 I) <| Zo 26 I I I I (st_loadIA (cs := (Z3 (v12.getD v24.toNat Z4)).cells) (vs := (Z3 (v12.getD v24.toNat Z4)).cells) I a25 I I I) ?_
          have ⟨v38, hv38, h⟩ := Z16 h
          refine Zo 27 I I I I (Z15 (ar := [(Z3 (v12.getD v24.toNat Z4))]) (caps := []) Try.call33 (F33_ok K (v12.getD v24.toNat Z4) v38 hv38) I I ⟨rfl, trivial⟩ I) <| Zo 28 I I I I (Z1k (k := .i64) (a := (IntKind.i64.wrap ((IntKind.i64.wrap (([a1.e0, a1.e1, a1.e2, a1.e3] : List Int).getD ((IntKind.i64.wrap ((v12.getD v24.toNat Z4).To + 3)).tmod 4).toNat 0)) - (IntKind.i64.wrap (([a1.e0, a1.e1, a1.e2, a1.e3] : List Int).getD ((IntKind.i64.wrap ((v12.getD v24.toNat Z4).From + 3)).tmod 4).toNat 0))))) (b := v38) (c := (decide ((IntKind.i64.wrap ((IntKind.i64.wrap (([a1.e0, a1.e1, a1.e2, a1.e3] : List Int).getD ((IntKind.i64.wrap ((v12.getD v24.toNat Z4).To + 3)).tmod 4).toNat 0)) - (IntKind.i64.wrap (([a1.e0, a1.e1, a1.e2, a1.e3] : List Int).getD ((IntKind.i64.wrap ((v12.getD v24.toNat Z4).From + 3)).tmod 4).toNat 0)))) ≤ v38))) I I I I) <| Z9 29 I (st_pickT (v := (.bool (decide ((IntKind.i64.wrap ((IntKind.i64.wrap (([a1.e0, a1.e1, a1.e2, a1.e3] : List Int).getD ((IntKind.i64.wrap ((v12.getD v24.toNat Z4).To + 3)).tmod 4).toNat 0)) - (IntKind.i64.wrap (([a1.e0, a1.e1, a1.e2, a1.e3] : List Int).getD ((IntKind.i64.wrap ((v12.getD v24.toNat Z4).From + 3)).tmod 4).toNat 0)))) ≤ v38)))) I I I) <| Z9 30 I (Zi (v := (.bool (decide ((IntKind.i64.wrap ((IntKind.i64.wrap (([a1.e0, a1.e1, a1.e2, a1.e3] : List Int).getD ((IntKind.i64.wrap ((v12.getD v24.toNat Z4).To + 3)).tmod 4).toNat 0)) - (IntKind.i64.wrap (([a1.e0, a1.e1, a1.e2, a1.e3] : List Int).getD ((IntKind.i64.wrap ((v12.getD v24.toNat Z4).From + 3)).tmod 4).toNat 0)))) ≤ v38)))) I I) <| Z1l (by kernel_rfl) I <| At.end ?_
          exact Zw (st' := ⟨[(3, (.ip (e_A4_Int a1).cells)), (6, (.sl 10 (v12.map Z3) false)), (7, (.bool v20)), (8, (.bool (decide ((IntKind.i64.wrap ((IntKind.i64.wrap (([a1.e0, a1.e1, a1.e2, a1.e3] : List Int).getD ((IntKind.i64.wrap ((v12.getD v24.toNat Z4).To + 3)).tmod 4).toNat 0)) - (IntKind.i64.wrap (([a1.e0, a1.e1, a1.e2, a1.e3] : List Int).getD ((IntKind.i64.wrap ((v12.getD v24.toNat Z4).From + 3)).tmod 4).toNat 0)))) ≤ v38)))), (10, (.int .i64 v24))], []⟩) ⟨rfl, rfl, rfl, rfl, rfl, trivial⟩ trivial (J31 (decide ((IntKind.i64.wrap ((IntKind.i64.wrap (([a1.e0, a1.e1, a1.e2, a1.e3] : List Int).getD ((IntKind.i64.wrap ((v12.getD v24.toNat Z4).To + 3)).tmod 4).toNat 0)) - (IntKind.i64.wrap (([a1.e0, a1.e1, a1.e2, a1.e3] : List Int).getD ((IntKind.i64.wrap ((v12.getD v24.toNat Z4).From + 3)).tmod 4).toNat 0)))) ≤ v38)) h)
         ·have h := hif.2 hc
          refine Zl 2 I I I I I I I <| Zl 3 I I I I I I I <| Zl 4 I I I I I I I <| Zl 5 I I I I I I I <| Zl 6 I I I I I I I <| Zl 7 I I I I I I I <| Zl 8 I I I I I I I <| Zl 9 I I I I I I I ?_
          refine Zl 10 I I I I I I I <| Zl 11 I I I I I I I <| Zl 12 I I I I I I I <| Zl 13 I I I I I I I <| Zl 14 I I I I I I I <| Zl 15 I I I I I I I <| Zl 16 I I I I I I I <| Zl 17 I I I I I I I ?_
          refine Zl 18 I I I I I I I <| Zl 19 I I I I I I I <| Zl 20 I I I I I I I <| Zl 21 I I I I I I I <| Zl 22 I I I I I I I <| Zl 23 I I I I I I I <| Zl 24 I I I I I I I <| Zl 25 I I I I I I I ?_
          refine Zl 26 I I I I I I I <| Zl 27 I I I I I I I <| Zl 28 I I I I I I I <| Z9 29 I (Z1r (v := (.bool false)) I I I) <| Z9 30 I (Zi (v := (.bool false)) I I) <| Z1l (by kernel_rfl) I <| At.end ?_
          exact Zw (st' := ⟨[(3, (.ip (e_A4_Int a1).cells)), (6, (.sl 10 (v12.map Z3) false)), (7, (.bool v20)), (8, (.bool false)), (10, (.int .i64 v24))], []⟩) ⟨rfl, rfl, rfl, rfl, rfl, trivial⟩ trivial (J31 false h)
       ·have h := hif.2 hc
        refine AWp.exit <| At.thru ?_
        exact Zw (st' := ⟨[(7, (.bool v20)), (8, (.bool v23))], []⟩) ⟨rfl, rfl, trivial⟩ trivial (J25 v23 h)
    ·intro N k19 v h IH19 J19
     obtain ⟨v17, v18⟩ := v
     try dsimp only at h IH19 J19 ⊢
     cases k19 with
     | zero => cases h
     | succ k19 =>
      rw [F11_l19] at h
      refine Zf <| Zf <| Zb <| Z2 I (Zh (v := (.int .i64 v18)) I I) I <| Z2 I (Zh (v := (.sl 10 (v10.map Z3) false)) I I) I <| Z2 I (stx_len (l := v10) (enc := Z3) I s29 I) I <| Z2 I (Z1k (k := .i64) (a := v18) (b := (v10.length : Int)) (c := (decide (v18 < (v10.length : Int)))) I I I I) I <| Zd ?_
      refine Ze ?_
      have hif := Z1u h
      refine Z12 I (fun hc => ?_) (fun hc => ?_)
      ·have h := hif.1 hc
       refine Z14 <| Ze <| Zf ?_
       refine AWp.blockJoin (V := Bool) (lp := fun v => F11_j41 K (F11_l19 K v10 a1 (F11_c21 K v12 a1) k19) v18 v = some r) (sh := fun v => ⟨[(3, (.ip (e_A4_Int a1).cells)), (5, (.sl 10 (v10.map Z3) false)), (6, (.sl 10 (v12.map Z3) false)), (7, (.bool v)), (8, (.bool true)), (9, (.int .i64 v18))], []⟩) ?_ ?_
       ·intro v h
        revert h
        revert v
        intro v40 h
        try dsimp only at h ⊢
        unfold F11_j41 at h
        refine Ze <| Zb <| Z2 I (Zh (v := (.int .i64 v18)) I I) I <| Z2 I (Z1a (k := .i64) (a := v18) (b := 1) (c := (IntKind.i64.wrap (v18 + 1))) I I I I) I <| Z2 I (Zi (v := (.int .i64 (IntKind.i64.wrap (v18 + 1)))) I I) I <| Zd ?_
        exact Zw (st' := ⟨[(3, (.ip (e_A4_Int a1).cells)), (5, (.sl 10 (v10.map Z3) false)), (6, (.sl 10 (v12.map Z3) false)), (7, (.bool v40)), (8, (.bool true)), (9, (.int .i64 (IntKind.i64.wrap (v18 + 1))))], []⟩) ⟨rfl, rfl, rfl, rfl, rfl, rfl, trivial⟩ trivial (IH19 _ (v40, (IntKind.i64.wrap (v18 + 1))) (Nat.lt_succ_self _) h)
       ·intro J41
        refine Z1n mixed <| Z9 0 I (Zh (v := (.bool v17)) I I) <| Z9 1 I (Zh (v := (.bool v17)) I I) ?_
        have hif := Z1u h
        refine AOpsD.split (fun hc => ?_) (fun hc => ?_)
        ·have h := hif.1 hc
         refine Zo 2 I I I I (Zh (v := (.sl 10 (v10.map Z3) false)) I I) <| Zo 3 I I I I (Zh (v := (.int .i64 v18)) I I) ?_
         have ⟨hg42, h⟩ := Zu h
         refine Zo 4 I I I I (Z1p (k := .i64) (l := v10) (enc := Z3) (z := Z4) (n := v18) (cs := (Z3 (v10.getD v18.toNat Z4)).cells) (full := false) I s29 I I hg42 I) <| Zo 5 I I I I (st_fieldI (cs := (Z3 (v10.getD v18.toNat Z4)).cells) (ds := [(.int .i64 (v10.getD v18.toNat Z4).To), (.int .i64 (v10.getD v18.toNat Z4).Sent), (.int .i64 (v10.getD v18.toNat Z4).Received), (.int .i64 (v10.getD v18.toNat Z4).Least)]) I f25_4 I I I) <| Zo 6 I I I I (st_loadI (cs := [(.int .i64 (v10.getD v18.toNat Z4).To), (.int .i64 (v10.getD v18.toNat Z4).Sent), (.int .i64 (v10.getD v18.toNat Z4).Received), (.int .i64 (v10.getD v18.toNat Z4).Least)]) (v := (.int .i64 (v10.getD v18.toNat Z4).To)) I o3 I I) <| Zo 7 I I I I (Z1a (k := .i64) (a := (v10.getD v18.toNat Z4).To) (b := 3) (c := (IntKind.i64.wrap ((v10.getD v18.toNat Z4).To + 3))) I I I I) <| Zo 8 I I I I (st_div (k := .i64) (a := (IntKind.i64.wrap ((v10.getD v18.toNat Z4).To + 3))) (b := 4) (c := ((IntKind.i64.wrap ((v10.getD v18.toNat Z4).To + 3)).tmod 4)) I I I I (by decide)) ?_
         have ⟨hg43, h⟩ := Zu h
         refine Zo 9 I I I I (st_indexIL (k := .i64) (j := ((IntKind.i64.wrap ((v10.getD v18.toNat Z4).To + 3)).tmod 4)) (l := [a1.e0, a1.e1, a1.e2, a1.e3]) (enc := e_i8) (z := 0) (cs := (e_A4_Int a1).cells) (ds := [(.int .i8 (([a1.e0, a1.e1, a1.e2, a1.e3] : List Int).getD ((IntKind.i64.wrap ((v10.getD v18.toNat Z4).To + 3)).tmod 4).toNat 0))]) I u43 sz42 I I I I els_i8 hg43 I) <| Zo 10 I I I I (st_loadI (cs := [(.int .i8 (([a1.e0, a1.e1, a1.e2, a1.e3] : List Int).getD ((IntKind.i64.wrap ((v10.getD v18.toNat Z4).To + 3)).tmod 4).toNat 0))]) (v := (.int .i8 (([a1.e0, a1.e1, a1.e2, a1.e3] : List Int).getD ((IntKind.i64.wrap ((v10.getD v18.toNat Z4).To + 3)).tmod 4).toNat 0))) I o42 I I) <| Zo 11 I I I I (st_conv I us42 u3 I) <| Zo 12 I I I I (Zh (v := (.sl 10 (v10.map Z3) false)) I I) <| Zo 13 I I I I (Zh (v := (.int .i64 v18)) I I) ?_
         have ⟨hg44, h⟩ := Zu h
         refine Zo 14 I I I I (Z1p (k := .i64) (l := v10) (enc := Z3) (z := Z4) (n := v18) (cs := (Z3 (v10.getD v18.toNat Z4)).cells) (full := false) I s29 I I hg44 I) <| Zo 15 I I I I (st_fieldI (cs := (Z3 (v10.getD v18.toNat Z4)).cells) (ds := [(.int .i64 (v10.getD v18.toNat Z4).From), (.int .i64 (v10.getD v18.toNat Z4).To), (.int .i64 (v10.getD v18.toNat Z4).Sent), (.int .i64 (v10.getD v18.toNat Z4).Received), (.int .i64 (v10.getD v18.toNat Z4).Least)]) I f25_3 I I I) <| Zo 16 I I I I (st_loadI (cs := [(.int .i64 (v10.getD v18.toNat Z4).From), (.int .i64 (v10.getD v18.toNat Z4).To), (.int .i64 (v10.getD v18.toNat Z4).Sent), (.int .i64 (v10.getD v18.toNat Z4).Received), (.int .i64 (v10.getD v18.toNat Z4).Least)]) (v := (.int .i64 (v10.getD v18.toNat Z4).From)) I o3 I I) <| Zo 17 I I I I (Z1a (k := .i64) (a := (v10.getD v18.toNat Z4).From) (b := 3) (c := (IntKind.i64.wrap ((v10.getD v18.toNat Z4).From + 3))) I I I I) <| Zo 18 I I I I (st_div (k := .i64) (a := (IntKind.i64.wrap ((v10.getD v18.toNat Z4).From + 3))) (b := 4) (c := ((IntKind.i64.wrap ((v10.getD v18.toNat Z4).From + 3)).tmod 4)) I I I I (by decide)) ?_
         have ⟨hg45, h⟩ := Zu h
         refine Zo 19 I I I I (st_indexIL (k := .i64) (j := ((IntKind.i64.wrap ((v10.getD v18.toNat Z4).From + 3)).tmod 4)) (l := [a1.e0, a1.e1, a1.e2, a1.e3]) (enc := e_i8) (z := 0) (cs := (e_A4_Int a1).cells) (ds := [(.int .i8 (([a1.e0, a1.e1, a1.e2, a1.e3] : List Int).getD ((IntKind.i64.wrap ((v10.getD v18.toNat Z4).From + 3)).tmod 4).toNat 0))]) I u43 sz42 I I I I els_i8 hg45 I) <| Zo 20 I I I I (st_loadI (cs := [(.int .i8 (([a1.e0, a1.e1, a1.e2, a1.e3] : List Int).getD ((IntKind.i64.wrap ((v10.getD v18.toNat Z4).From + 3)).tmod 4).toNat 0))]) (v := (.int .i8 (([a1.e0, a1.e1, a1.e2, a1.e3] : List Int).getD ((IntKind.i64.wrap ((v10.getD v18.toNat Z4).From + 3)).tmod 4).toNat 0))) I o42 I I) <| Zo 21 I I I I (st_conv I us42 u3 I) <| Zo 22 I I I I (Z1a (k := .i64) (a := (IntKind.i64.wrap (([a1.e0, a1.e1, a1.e2, a1.e3] : List Int).getD ((IntKind.i64.wrap ((v10.getD v18.toNat Z4).To + 3)).tmod 4).toNat 0))) (b := (IntKind.i64.wrap (([a1.e0, a1.e1, a1.e2, a1.e3] : List Int).getD ((IntKind.i64.wrap ((v10.getD v18.toNat Z4).From + 3)).tmod 4).toNat 0))) (c := (IntKind.i64.wrap ((IntKind.i64.wrap (([a1.e0, a1.e1, a1.e2, a1.e3] : List Int).getD ((IntKind.i64.wrap ((v10.getD v18.toNat Z4).To + 3)).tmod 4).toNat 0)) - (IntKind.i64.wrap (([a1.e0, a1.e1, a1.e2, a1.e3] : List Int).getD ((IntKind.i64.wrap ((v10.getD v18.toNat Z4).From + 3)).tmod 4).toNat 0))))) I I I I) <| Zo 23 I I I I (Zh (v := (.sl 10 (v10.map Z3) false)) I I) <| Zo 24 I I I I (Zh (v := (.int .i64 v18)) I I) ?_
         have ⟨hg46, h⟩ := Zu h
         refine Zo 25 I I I I (Z1p (k := .i64) (l := v10) (enc := Z3) (z := Z4) (n := v18) (cs := (Z3 (v10.getD v18.toNat Z4)).cells) (full := false) I s29 I I hg46 I) <| Zo 26 I I I I (st_loadIA (cs := (Z3 (v10.getD v18.toNat Z4)).cells) (vs := (Z3 (v10.getD v18.toNat Z4)).cells) I a25 I I I) ?_
         have ⟨v48, hv48, h⟩ := Z16 h
         refine Zo 27 I I I I (Z15 (ar := [(Z3 (v10.getD v18.toNat Z4))]) (caps := []) Try.call33 (F33_ok K (v10.getD v18.toNat Z4) v48 hv48) I I ⟨rfl, trivial⟩ I) <| Zo 28 I I I I (Z1k (k := .i64) (a := (IntKind.i64.wrap ((IntKind.i64.wrap (([a1.e0, a1.e1, a1.e2, a1.e3] : List Int).getD ((IntKind.i64.wrap ((v10.getD v18.toNat Z4).To + 3)).tmod 4).toNat 0)) - (IntKind.i64.wrap (([a1.e0, a1.e1, a1.e2, a1.e3] : List Int).getD ((IntKind.i64.wrap ((v10.getD v18.toNat Z4).From + 3)).tmod 4).toNat 0))))) (b := v48) (c := (decide ((IntKind.i64.wrap ((IntKind.i64.wrap (([a1.e0, a1.e1, a1.e2, a1.e3] : List Int).getD ((IntKind.i64.wrap ((v10.getD v18.toNat Z4).To + 3)).tmod 4).toNat 0)) - (IntKind.i64.wrap (([a1.e0, a1.e1, a1.e2, a1.e3] : List Int).getD ((IntKind.i64.wrap ((v10.getD v18.toNat Z4).From + 3)).tmod 4).toNat 0)))) ≤ v48))) I I I I) <| Z9 29 I (st_pickT (v := (.bool (decide ((IntKind.i64.wrap ((IntKind.i64.wrap (([a1.e0, a1.e1, a1.e2, a1.e3] : List Int).getD ((IntKind.i64.wrap ((v10.getD v18.toNat Z4).To + 3)).tmod 4).toNat 0)) - (IntKind.i64.wrap (([a1.e0, a1.e1, a1.e2, a1.e3] : List Int).getD ((IntKind.i64.wrap ((v10.getD v18.toNat Z4).From + 3)).tmod 4).toNat 0)))) ≤ v48)))) I I I) <| Z9 30 I (Zi (v := (.bool (decide ((IntKind.i64.wrap ((IntKind.i64.wrap (([a1.e0, a1.e1, a1.e2, a1.e3] : List Int).getD ((IntKind.i64.wrap ((v10.getD v18.toNat Z4).To + 3)).tmod 4).toNat 0)) - (IntKind.i64.wrap (([a1.e0, a1.e1, a1.e2, a1.e3] : List Int).getD ((IntKind.i64.wrap ((v10.getD v18.toNat Z4).From + 3)).tmod 4).toNat 0)))) ≤ v48)))) I I) <| Z1l (by kernel_rfl) I <| At.end ?_
         exact Zw (st' := ⟨[(3, (.ip (e_A4_Int a1).cells)), (5, (.sl 10 (v10.map Z3) false)), (6, (.sl 10 (v12.map Z3) false)), (7, (.bool (decide ((IntKind.i64.wrap ((IntKind.i64.wrap (([a1.e0, a1.e1, a1.e2, a1.e3] : List Int).getD ((IntKind.i64.wrap ((v10.getD v18.toNat Z4).To + 3)).tmod 4).toNat 0)) - (IntKind.i64.wrap (([a1.e0, a1.e1, a1.e2, a1.e3] : List Int).getD ((IntKind.i64.wrap ((v10.getD v18.toNat Z4).From + 3)).tmod 4).toNat 0)))) ≤ v48)))), (8, (.bool true)), (9, (.int .i64 v18))], []⟩) ⟨rfl, rfl, rfl, rfl, rfl, rfl, trivial⟩ trivial (J41 (decide ((IntKind.i64.wrap ((IntKind.i64.wrap (([a1.e0, a1.e1, a1.e2, a1.e3] : List Int).getD ((IntKind.i64.wrap ((v10.getD v18.toNat Z4).To + 3)).tmod 4).toNat 0)) - (IntKind.i64.wrap (([a1.e0, a1.e1, a1.e2, a1.e3] : List Int).getD ((IntKind.i64.wrap ((v10.getD v18.toNat Z4).From + 3)).tmod 4).toNat 0)))) ≤ v48)) h)
        ·have h := hif.2 hc
         refine Zl 2 I I I I I I I <| Zl 3 I I I I I I I <| Zl 4 I I I I I I I <| Zl 5 I I I I I I I <| Zl 6 I I I I I I I <| Zl 7 I I I I I I I <| Zl 8 I I I I I I I <| Zl 9 I I I I I I I ?_
         refine Zl 10 I I I I I I I <| Zl 11 I I I I I I I <| Zl 12 I I I I I I I <| Zl 13 I I I I I I I <| Zl 14 I I I I I I I <| Zl 15 I I I I I I I <| Zl 16 I I I I I I I <| Zl 17 I I I I I I I ?_
         refine Zl 18 I I I I I I I <| Zl 19 I I I I I I I <| Zl 20 I I I I I I I <| Zl 21 I I I I I I I <| Zl 22 I I I I I I I <| Zl 23 I I I I I I I <| Zl 24 I I I I I I I <| Zl 25 I I I I I I I ?_
         refine Zl 26 I I I I I I I <| Zl 27 I I I I I I I <| Zl 28 I I I I I I I <| Z9 29 I (Z1r (v := (.bool false)) I I I) <| Z9 30 I (Zi (v := (.bool false)) I I) <| Z1l (by kernel_rfl) I <| At.end ?_
         exact Zw (st' := ⟨[(3, (.ip (e_A4_Int a1).cells)), (5, (.sl 10 (v10.map Z3) false)), (6, (.sl 10 (v12.map Z3) false)), (7, (.bool false)), (8, (.bool true)), (9, (.int .i64 v18))], []⟩) ⟨rfl, rfl, rfl, rfl, rfl, rfl, trivial⟩ trivial (J41 false h)
      ·have h := hif.2 hc
       refine AWp.exit <| At.thru ?_
       exact Zw (st' := ⟨[(3, (.ip (e_A4_Int a1).cells)), (6, (.sl 10 (v12.map Z3) false)), (7, (.bool v17)), (8, (.bool true))], []⟩) ⟨rfl, rfl, rfl, rfl, trivial⟩ trivial (J19 v17 h)
end Go.AM.Msg
