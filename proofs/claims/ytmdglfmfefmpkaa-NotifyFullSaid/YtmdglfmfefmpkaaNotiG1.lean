/- What these functions compute, each with its walk: F70, F47, F72, F108_i1, F70_i1, F48, F21, F23, F52, F58, F82, F81, F57, F31, F50, F25. -/
import Derived.Test.YtmdglfmfefmpkaaNotiT
import Derived.Test.YtmdglfmfefmpkaaNotiG0
namespace Go.AM.Noti
open Go Go.AM Go.Proofs
set_option maxRecDepth 100000
set_option maxHeartbeats 2000000
def F70_j14 (_K : Nat) (v11 : Bool) (v12 : Int) (v13 : (List Z4)) : Option (Int × Bool × (List Z4)) :=
 some (v12, v11, v13)
def F70_j17 (K : Nat) (v11 : Bool) (v15 : Int) (v16 : (List Z4)) : Option (Int × Bool × (List Z4)) :=
 F70_j14 K v11 v15 v16
def F70_j20 (K : Nat) (v11 : Bool) (v3 : Int) (v19 : (List Z4)) : Option (Int × Bool × (List Z4)) :=
 F70_j14 K v11 v3 v19
def F70_y22 (K : Nat) (x6 : Int) (x7 : Z2a) (v3 : Int) (v4 : Bool) (v5 : (List Z4)) : Option (Int × Bool × (List Z4)) :=
 if (0 : Int) ≤ 0 ∧ (0 : Int) < (2 : Nat) then
 if (0 : Int) ≤ 1 ∧ (1 : Int) < (2 : Nat) then
 (F71 K (([x7.e0, x7.e1] : List Bool).getD (0 : Int).toNat false) (([x7.e0, x7.e1] : List Bool).getD (1 : Int).toNat false)).bind fun v11 =>
 if v11 = true then
 if (!v4) = true then
 F70_j17 K v11 x6 v5
 else
 if (!v11) = true then
 if v4 = true then
 if v5.length + [(⟨v3, x6⟩ : Z4)].length ≤ 1073741824 then
 F70_j17 K v11 v3 (v5 ++ [(⟨v3, x6⟩ : Z4)])
 else none
 else
 F70_j17 K v11 v3 v5
 else
 F70_j17 K v11 v3 v5
 else
 if (!v11) = true then
 if v4 = true then
 if v5.length + [(⟨v3, x6⟩ : Z4)].length ≤ 1073741824 then
 F70_j20 K v11 v3 (v5 ++ [(⟨v3, x6⟩ : Z4)])
 else none
 else
 F70_j20 K v11 v3 v5
 else
 F70_j14 K v11 v3 v5
 else none
 else none
def F70 (K : Nat) (a0 : (List Z4)) (a1 : (List Z4)) : Option ((List Z4)) :=
 (F86 K a0 a1).bind fun v2 =>
 (F108 K (F70_y22 K) 0 false [] v2.1 v2.2).bind fun v23 =>
 some v23.2.2
theorem F70_ok (K : Nat) (a0 : (List Z4)) (a1 : (List Z4)) (r : (List Z4)) (h : F70 K a0 a1 = some r) : ACall P 70 ⟨[(.sl 2 (a0.map Z6) false), (.sl 2 (a1.map Z6) false), (.clo 71 [])], [], (.sl 2 (r.map Z6) false), [], []⟩ := by
 refine Z1v Try.func70 Try.results70 rfl Try.ntmps70 rfl rfl rfl ?_
 intro E Q hP hN hro hret
 obtain ⟨P', nt', w0, F0, p0, S0, β0, ro0⟩ := E
 simp only at hP hN
 subst hP hN
 dsimp only [argT]
 unfold F70 at h
 refine Zb <| Z5 <| Z1 I (Z2r I I I I I) I <| Z1 I (Zd (v := (.sl 2 [] false)) I I) I <| Z7 <| Z8 <| Zb <| Z5 <| Z1 I (Z1x I z45f I I I) I <| Z7 <| Z8 <| Zb <| Z5 <| Z1 I (Z1x I z3 I I I) I <| Z1 I (Z1x I z4 I I I) I <| Z1 I (Z1f (cs := [(.int .i64 0)]) (vs := [(.int .i64 0)]) (ds := [(.int .i64 0)]) (v := (.int .i64 0)) sz3 I I I I I I I I) I <| Z1 I (Z1f (cs := [(.bool false)]) (vs := [(.bool false)]) (ds := [(.bool false)]) (v := (.bool false)) sz4 I I I I I I I I) I <| Z7 <| Z8 <| Zb <| Zb <| Z5 <| Z1 I (Z9 I I) I <| Z1 I (Z9 I I) I ?_
 have ⟨v2, hv2, h⟩ := Z1a h
 refine Z1 I (Z1d (ar := [(.sl 2 (a0.map Z6) false), (.sl 2 (a1.map Z6) false)]) Try.call86 (F86_ok K a0 a1 v2 hv2) I I ⟨I, I, J0⟩ I) I <| Z7 <| Z8 <| Z1t <| Z2p (st' := ⟨[(5, (.ptr 5 0)), (7, (.ptr 7 0)), (8, (.ptr 8 0)), (9, (.ptr 9 0)), (15, (.clo 108 [(.ip [(.sl 2 (v2.1.map Z6) false)]), (.ip [(.sl 2 (v2.2.map Z6) false)])]))], [(5, (.box [(.clo 71 [])])), (7, (.box [(.vs 44)])), (8, (.box [(.int .i64 0)])), (9, (.box [(.bool false)])), (44, (.vec 2 (List.map Z6 ([] : List Z4))))]⟩) (fun a w h => (Z1k _ (Z3l (n := 7) (m := 44) (sz := 2) (j := 0) I I I a w (Z1k ⟨[(5, (.ptr 5 0)), (7, (.ptr 7 0)), (8, (.ptr 8 0)), (9, (.ptr 9 0)), (15, (.clo 108 [(.ip [(.sl 2 (v2.1.map Z6) false)]), (.ip [(.sl 2 (v2.2.map Z6) false)])]))], [(7, (.box [(.sl 2 [] true)])), (5, (.box [(.clo 71 [])])), (8, (.box [(.int .i64 0)])), (9, (.box [(.bool false)]))]⟩ h ⟨I, I, I, I, I, J0⟩ ⟨I, I, I, I, J0⟩)) ⟨I, I, I, I, I, J0⟩ ⟨I, I, I, I, I, J0⟩)) ?_
 have ⟨v23, hv23, h⟩ := Z1a h
 refine Z1r (st' := ⟨[(5, (.ptr 5 0)), (7, (.ptr 7 0)), (8, (.ptr 8 0)), (9, (.ptr 9 0)), (15, (.clo 108 [(.ip [(.sl 2 (v2.1.map Z6) false)]), (.ip [(.sl 2 (v2.2.map Z6) false)])]))], [(5, (.box [(.clo 71 [])])), (7, (.box [(.vs 44)])), (8, (.box [(.int .i64 0)])), (9, (.box [(.bool false)])), (44, (.vec 2 (List.map Z6 [])))]⟩) ⟨I, I, I, I, I, J0⟩ ⟨I, I, I, I, I, J0⟩ ?_
 refine AWp.rangeFunc (n := 1) (f := 108) (caps := [(.ip [(.sl 2 (v2.1.map Z6) false)]), (.ip [(.sl 2 (v2.2.map Z6) false)])]) (ks := [5, 7, 8, 9]) (vs := [(.ptr 5 0), (.ptr 7 0), (.ptr 8 0), (.ptr 9 0)]) (ins := [(44, (.vec 2 (List.map Z6 []))), (5, (.box [(.clo 71 [])])), (7, (.box [(.vs 44)])), (8, (.box [(.int .i64 0)])), (9, (.box [(.bool false)]))]) (outs := [(44, (.vec 2 (List.map Z6 v23.2.2))), (5, (.box [(.clo 71 [])])), (7, (.box [(.vs 44)])), (8, (.box [(.int .i64 v23.1)])), (9, (.box [(.bool v23.2.1)]))]) (res := .tup []) (mv := [44]) (forg := [44]) (jump := none) hro Try.call108 I I I I ⟨I, I, I, I, J0⟩ ⟨I, I, I, I, I, J0⟩ I I I I (fun lr hst hpe hpr has hbd hsz => ?_) (fun _ => ?_) (fun c hc => by cases hc)
 ·have hend := endRec_self hst hpe
  rw [hend]
  have hps : lr.params.size = 2 ∧ True := ⟨by rw [hpr]; rfl, trivial⟩
  have hy : ∀ (x6 : Int) (x7 : Z2a) (v3 : Int) (v4 : Bool) (v5 : (List Z4)) (w : Int × Bool × (List Z4)), F70_y22 K x6 x7 v3 v4 v5 = some w → YCall P lr 1000 ⟨[(.int .i64 x6), (e_A2_Bool x7)], [(1000, .loop lr [5, 7, 8, 9] [(.ptr 1001 0), (.ptr 1002 0), (.ptr 1003 0), (.ptr 1004 0)]), (0, (.vec 2 (List.map Z6 v5))), (1001, (.box [(.clo 71 [])])), (1002, (.box [(.vs 0)])), (1003, (.box [(.int .i64 v3)])), (1004, (.box [(.bool v4)]))], .bool true, [(1000, .loop lr [5, 7, 8, 9] [(.ptr 1001 0), (.ptr 1002 0), (.ptr 1003 0), (.ptr 1004 0)]), (0, (.vec 2 (List.map Z6 w.2.2))), (1001, (.box [(.clo 71 [])])), (1002, (.box [(.vs 0)])), (1003, (.box [(.int .i64 w.1)])), (1004, (.box [(.bool w.2.1)]))], [0]⟩ := by
   intro x6 x7 v3 v4 v5 r h
   unfold F70_y22 at h
   refine ycall_of (ks := [5, 7, 8, 9]) (vs := [(.ptr 1001 0), (.ptr 1002 0), (.ptr 1003 0), (.ptr 1004 0)]) (ps := [16, 17]) rfl hst hsz hpr rfl (by decide) rfl rfl rfl ?_
   intro E Qa Qb hP hN hmid hfin
   obtain ⟨P', nt', w0, F0, p0, S0, β0, ro0⟩ := E
   simp only at hP hN
   subst hP hN
   refine AWp.code has ?_
   dsimp only [List.zip, List.zipWith, List.cons_append, List.nil_append]
   refine Zb <| Z5 <| Z1 I (Zd I I) I <| Z7 <| Z8 <| Z5 <| Z1 I (Z1x I z128 I I I) I <| Z1 I (Z1f sz128 I I I I I I I I) I <| Z7 ?_
   refine hmid _ _ _ rfl ?_
   refine AWp.code hbd <| Z1t <| Zb <| Z5 <| Z1 I (Zs I o112 I I I) I <| Z3b (st' := ⟨[(5, (.ptr 1001 0)), (7, (.ptr 1002 0)), (8, (.ptr 1003 0)), (9, (.ptr 1004 0)), (10, (.int .i64 x6)), (11, (.ip (e_A2_Bool x7).cells)), (18, (.clo 71 []))], [(0, (.vec 2 (List.map Z6 v5))), (1000, (.loop { lr with state := .busy } [5, 7, 8, 9] [(.ptr 1001 0), (.ptr 1002 0), (.ptr 1003 0), (.ptr 1004 0)])), (1001, (.box [(.clo 71 [])])), (1002, (.box [(.vs 0)])), (1003, (.box [(.int .i64 v3)])), (1004, (.box [(.bool v4)]))]⟩) (fun a w h => (Z1k _ (Z34 (m := 11) (cs := (e_A2_Bool x7).cells) I a w (Z1k ⟨[(5, (.ptr 1001 0)), (7, (.ptr 1002 0)), (8, (.ptr 1003 0)), (9, (.ptr 1004 0)), (10, (.int .i64 x6)), (11, (.ptr 11 0)), (18, (.clo 71 []))], [(11, (.box (e_A2_Bool x7).cells)), (0, (.vec 2 (List.map Z6 v5))), (1000, (.loop { lr with state := .busy } [5, 7, 8, 9] [(.ptr 1001 0), (.ptr 1002 0), (.ptr 1003 0), (.ptr 1004 0)])), (1001, (.box [(.clo 71 [])])), (1002, (.box [(.vs 0)])), (1003, (.box [(.int .i64 v3)])), (1004, (.box [(.bool v4)]))]⟩ h ⟨I, I, I, I, I, I, I, J0⟩ ⟨I, I, I, I, I, I, I, J0⟩)) ⟨I, I, I, I, I, I, I, J0⟩ ⟨I, I, I, I, I, I, J0⟩)) ?_
   have ⟨hg8, h⟩ := Zw h
   refine Z1 I (Z2h (k := .i64) (j := (0 : Int)) (l := [x7.e0, x7.e1]) (enc := Z3a) (z := false) (ds := [(.bool (([x7.e0, x7.e1] : List Bool).getD (0 : Int).toNat false))]) I u128 sz4 I I I I els_bool hg8 I) I <| Z1 I (Z1l I o4 I I) I ?_
   have ⟨hg9, h⟩ := Zw h
   refine Z1 I (Z2h (k := .i64) (j := (1 : Int)) (l := [x7.e0, x7.e1]) (enc := Z3a) (z := false) (ds := [(.bool (([x7.e0, x7.e1] : List Bool).getD (1 : Int).toNat false))]) I u128 sz4 I I I I els_bool hg9 I) I <| Z1 I (Z1l I o4 I I) I ?_
   have ⟨v11, hv11, h⟩ := Z1a h
   refine Z1 I (Z1d (ar := [(.bool (([x7.e0, x7.e1] : List Bool).getD (0 : Int).toNat false)), (.bool (([x7.e0, x7.e1] : List Bool).getD (1 : Int).toNat false))]) Try.call71 (F71_ok K (([x7.e0, x7.e1] : List Bool).getD (0 : Int).toNat false) (([x7.e0, x7.e1] : List Bool).getD (1 : Int).toNat false) v11 hv11) I I ⟨I, I, J0⟩ I) I <| Z1 I (Zd I I) I <| Z7 <| Z8 <| Zb ?_
   refine Z2m (V := Int × (List Z4)) (lp := fun v => F70_j14 K v11 v.1 v.2 = some r) (sh := fun v => ⟨[(5, (.ptr 1001 0)), (7, (.ptr 1002 0)), (8, (.ptr 1003 0)), (9, (.ptr 1004 0)), (12, (.bool v11))], [(0, (.vec 2 (List.map Z6 v.2))), (1000, (.loop { lr with state := .busy } [5, 7, 8, 9] [(.ptr 1001 0), (.ptr 1002 0), (.ptr 1003 0), (.ptr 1004 0)])), (1001, (.box [(.clo 71 [])])), (1002, (.box [(.vs 0)])), (1003, (.box [(.int .i64 v.1)])), (1004, (.box [(.bool v4)]))]⟩) ?_ ?_
   ·intro v h
    obtain ⟨v12, v13⟩ := v
    try dsimp only at h ⊢
    unfold F70_j14 at h
    refine Z8 <| Z5 <| Z1 I (Z9 I I) I <| Z1 I (Z1f sz4 I I I I I I I I) I <| Z7 <| Z27 ?_
    have h := Option.some.inj h
    subst h
    refine hfin _ _ _ none .normal rfl rfl rfl ?_
    rw [hend]
    exact ⟨I, I, I, I, I, I, J0⟩
   intro J14
   refine Zb <| Z5 <| Z1 I (Z9 I I) I <| Z1 I (Z9 I I) I ?_
   have hif := Z1h h
   refine Z16 (fun hc => ?_) (fun hc => ?_)
   ·have h := hif.1 hc
    refine Zc I I I I (Zs I o4 I I I) I <| Zc I I I I (Z2c I I) I <| Z1 I (Z19 I I I) I <| Z1 I (Zd I I) I <| Z7 <| Z8 ?_
    refine Z21 (V := Int × (List Z4)) (lp := fun v => F70_j17 K v11 v.1 v.2 = some r) (sh := fun v => ⟨[(5, (.ptr 1001 0)), (7, (.ptr 1002 0)), (8, (.ptr 1003 0)), (9, (.ptr 1004 0)), (12, (.bool v11))], [(0, (.vec 2 (List.map Z6 v.2))), (1000, (.loop { lr with state := .busy } [5, 7, 8, 9] [(.ptr 1001 0), (.ptr 1002 0), (.ptr 1003 0), (.ptr 1004 0)])), (1001, (.box [(.clo 71 [])])), (1002, (.box [(.vs 0)])), (1003, (.box [(.int .i64 v.1)])), (1004, (.box [(.bool v4)]))]⟩) ?_ ?_
    ·intro v h
     obtain ⟨v15, v16⟩ := v
     try dsimp only at h ⊢
     unfold F70_j17 at h
     refine Z27 ?_
     exact Zz (J14 (v15, v16) h) ⟨I, I, I, I, I, J0⟩ ⟨I, I, I, I, I, I, J0⟩
    intro J17
    have hif := Z1h h
    refine Zq I (fun hc => ?_) (fun hc => ?_)
    ·have h := hif.1 hc
     refine Z5 <| Z1 I (Z9 I I) I <| Z1 I (Z1f sz3 I I I I I I I I) I <| Z7 ?_
     exact Zz (J17 (x6, v5) h) ⟨I, I, I, I, I, J0⟩ ⟨I, I, I, I, I, I, J0⟩
    have h := hif.2 hc
    refine Zb <| Z5 <| Z1 I (Z9 I I) I <| Z1 I (Z2c I I) I <| Z1 I (Z9 I I) I ?_
    have hif := Z1h h
    refine Z16 (fun hc => ?_) (fun hc => ?_)
    ·have h := hif.1 hc
     refine Zc I I I I (Zs I o4 I I I) I <| Z1 I (Z19 I I I) I <| Z1 I (Zd I I) I <| Z7 <| Z8 ?_
     have hif := Z1h h
     refine Zq I (fun hc => ?_) (fun hc => ?_)
     ·have h := hif.1 hc
      refine Z5 <| Z1 I (Zs I o45 I I I) I <| Z1 I (Zs I o3 I I I) I <| Z1 I (Z9 I I) I <| Z1 I (Z23 (vs := [(0, (.int .i64 v3)), (1, (.int .i64 x6))]) I st40 ⟨I, I, I, I, J0⟩ I) I <| Z1 I (Z1m (vs := [(.ag [(.int .i64 v3), (.int .i64 x6)])]) (enc := Z6) (l := [(⟨v3, x6⟩ : Z4)]) I el45 I I ⟨I, J0⟩ I Z2u I I I I) I ?_
      have ⟨hg18, h⟩ := Zw h
      refine Z1 I (Z2d (m := 0) (enc := Z6) (l := v5) (l' := [(⟨v3, x6⟩ : Z4)]) (src := (.vs 41)) (rd := [(41, (.vec 2 (List.map Z6 [(⟨v3, x6⟩ : Z4)])))]) I I el45 I u45 I I I I (oneRead I) Z2u hg18) I <| Z1 I (Z1f sz45 I I I I I I I I) I <| Z7 ?_
      exact Zz (J17 (v3, (v5 ++ [(⟨v3, x6⟩ : Z4)])) h) ⟨I, I, I, I, I, J0⟩ ⟨I, I, I, I, I, I, J0⟩
     have h := hif.2 hc
     refine Z14 ?_
     exact Zz (J17 (v3, v5) h) ⟨I, I, I, I, I, J0⟩ ⟨I, I, I, I, I, I, J0⟩
    have h := hif.2 hc
    refine Zg I I I I I I I <| Z1 I (Zy (v := (.bool false)) I I I) I <| Z1 I (Zd (v := (.bool false)) I I) I <| Z7 <| Z8 ?_
    refine Zq (b := false) I (fun hc => ?_) (fun hc => ?_)
    ·cases hc
    refine Z14 ?_
    exact Zz (J17 (v3, v5) h) ⟨I, I, I, I, I, J0⟩ ⟨I, I, I, I, I, I, J0⟩
   have h := hif.2 hc
   refine Zg I I I I I I I <| Zg I I I I I I I <| Z1 I (Zy (v := (.bool false)) I I I) I <| Z1 I (Zd (v := (.bool false)) I I) I <| Z7 <| Z8 ?_
   refine Zq (b := false) I (fun hc => ?_) (fun hc => ?_)
   ·cases hc
   refine Zb <| Z5 <| Z1 I (Z9 I I) I <| Z1 I (Z2c I I) I <| Z1 I (Z9 I I) I ?_
   have hif := Z1h h
   refine Z16 (fun hc => ?_) (fun hc => ?_)
   ·have h := hif.1 hc
    refine Zc I I I I (Zs I o4 I I I) I <| Z1 I (Z19 I I I) I <| Z1 I (Zd I I) I <| Z7 <| Z8 ?_
    refine Z21 (V := (List Z4)) (lp := fun v => F70_j20 K v11 v3 v = some r) (sh := fun v => ⟨[(5, (.ptr 1001 0)), (7, (.ptr 1002 0)), (8, (.ptr 1003 0)), (9, (.ptr 1004 0)), (12, (.bool v11))], [(0, (.vec 2 (List.map Z6 v))), (1000, (.loop { lr with state := .busy } [5, 7, 8, 9] [(.ptr 1001 0), (.ptr 1002 0), (.ptr 1003 0), (.ptr 1004 0)])), (1001, (.box [(.clo 71 [])])), (1002, (.box [(.vs 0)])), (1003, (.box [(.int .i64 v3)])), (1004, (.box [(.bool v4)]))]⟩) ?_ ?_
    ·intro v h
     revert h
     revert v
     intro v19 h
     try dsimp only at h ⊢
     unfold F70_j20 at h
     refine Z27 ?_
     exact Zz (J14 (v3, v19) h) ⟨I, I, I, I, I, J0⟩ ⟨I, I, I, I, I, I, J0⟩
    intro J20
    have hif := Z1h h
    refine Zq I (fun hc => ?_) (fun hc => ?_)
    ·have h := hif.1 hc
     refine Z5 <| Z1 I (Zs I o45 I I I) I <| Z1 I (Zs I o3 I I I) I <| Z1 I (Z9 I I) I <| Z1 I (Z23 (vs := [(0, (.int .i64 v3)), (1, (.int .i64 x6))]) I st40 ⟨I, I, I, I, J0⟩ I) I <| Z1 I (Z1m (vs := [(.ag [(.int .i64 v3), (.int .i64 x6)])]) (enc := Z6) (l := [(⟨v3, x6⟩ : Z4)]) I el45 I I ⟨I, J0⟩ I Z2u I I I I) I ?_
     have ⟨hg21, h⟩ := Zw h
     refine Z1 I (Z2d (m := 0) (enc := Z6) (l := v5) (l' := [(⟨v3, x6⟩ : Z4)]) (src := (.vs 41)) (rd := [(41, (.vec 2 (List.map Z6 [(⟨v3, x6⟩ : Z4)])))]) I I el45 I u45 I I I I (oneRead I) Z2u hg21) I <| Z1 I (Z1f sz45 I I I I I I I I) I <| Z7 ?_
     exact Zz (J20 (v5 ++ [(⟨v3, x6⟩ : Z4)]) h) ⟨I, I, I, I, I, J0⟩ ⟨I, I, I, I, I, I, J0⟩
    have h := hif.2 hc
    refine Z14 ?_
    exact Zz (J20 v5 h) ⟨I, I, I, I, I, J0⟩ ⟨I, I, I, I, I, I, J0⟩
   have h := hif.2 hc
   refine Zg I I I I I I I <| Z1 I (Zy (v := (.bool false)) I I I) I <| Z1 I (Zd (v := (.bool false)) I I) I <| Z7 <| Z8 ?_
   refine Zq (b := false) I (fun hc => ?_) (fun hc => ?_)
   ·cases hc
   refine Z14 <| Z27 ?_
   exact Zz (J14 (v3, v5) h) ⟨I, I, I, I, I, J0⟩ ⟨I, I, I, I, I, I, J0⟩
  exact ((((((F108_ok K (F70_y22 K) 0 false [] v2.1 v2.2 v23 lr hv23 hps.1 hy).sw 1000 1).sw 0 44).sw 1001 5).sw 1002 7).sw 1003 8).sw 1004 9
 refine At.weaken (st' := ⟨[(5, (.ptr 5 0)), (7, (.ptr 7 0)), (8, (.ptr 8 0)), (9, (.ptr 9 0)), (15, (.clo 108 [(.ip [(.sl 2 (v2.1.map Z6) false)]), (.ip [(.sl 2 (v2.2.map Z6) false)])]))], [(5, (.box [(.clo 71 [])])), (7, (.box [(.vs 44)])), (8, (.box [(.int .i64 v23.1)])), (9, (.box [(.bool v23.2.1)])), (44, (.vec 2 (List.map Z6 v23.2.2)))]⟩) ⟨I, I, I, I, I, J0⟩ ⟨I, I, I, I, I, J0⟩ <| Z27 <| Z8 <| Zb <| Z5 <| Z1 I (Zs I o45 I I I) I <| Z1 I (Zd I I) I <| Z7 <| Z8 <| Z1e <| Z2w (st' := ⟨[(6, (.sl 2 (v23.2.2.map Z6) false))], []⟩) (fun a w h => (Z1k _ (Z22 (m := 44) (sz := 2) (es := (List.map Z6 v23.2.2)) a w (Z1k ⟨[(6, (.vs 44))], [(44, (.vec 2 (List.map Z6 v23.2.2)))]⟩ h ⟨I, J0⟩ ⟨I, J0⟩)) ⟨I, J0⟩ J0)) ?_
 have h := Option.some.inj h
 subst h
 refine (hret _ ?_).1
 exact ⟨[(.sl 2 (v23.2.2.map Z6) false)], ⟨I, J0⟩, I, J0⟩
def F47 (K : Nat) (a0 : (List Z4)) (a1 : (List Z4)) : Option ((List Z4)) :=
 (F70 K a0 a1).bind fun v2 =>
 some v2
theorem F47_ok (K : Nat) (a0 : (List Z4)) (a1 : (List Z4)) (r : (List Z4)) (h : F47 K a0 a1 = some r) : ACall P 47 ⟨[(.sl 2 (a0.map Z6) false), (.sl 2 (a1.map Z6) false)], [], (.sl 2 (r.map Z6) false), [], []⟩ := by
 refine Z1v Try.func47 Try.results47 rfl Try.ntmps47 rfl rfl rfl ?_
 intro E Q hP hN hro hret
 obtain ⟨P', nt', w0, F0, p0, S0, β0, ro0⟩ := E
 simp only at hP hN
 subst hP hN
 dsimp only [argT]
 unfold F47 at h
 refine Zb <| Z5 <| Z1 I (Zd (v := (.sl 2 [] false)) I I) I <| Z7 <| Z8 <| Zb <| Z5 <| Z1 I (Z9 I I) I <| Z1 I (Z9 I I) I ?_
 have ⟨v2, hv2, h⟩ := Z1a h
 refine Z1 I (Z1d (ar := [(.sl 2 (a0.map Z6) false), (.sl 2 (a1.map Z6) false), (.clo 71 [])]) Try.call70 (F70_ok K a0 a1 v2 hv2) I I ⟨I, I, I, J0⟩ I) I <| Z1 I (Zd I I) I <| Z7 <| Z8 <| Z1e ?_
 have h := Option.some.inj h
 subst h
 refine (hret _ ?_).1
 exact ⟨[(.sl 2 (v2.map Z6) false)], ⟨I, J0⟩, I, J0⟩
def F72 (_K : Nat) (a0 : Bool) (a1 : Bool) : Option (Bool) :=
 if a0 = true then
 some (!a1)
 else
 some false
theorem F72_ok (K : Nat) (a0 : Bool) (a1 : Bool) (r : Bool) (h : F72 K a0 a1 = some r) : ACall P 72 ⟨[(.bool a0), (.bool a1)], [], (.bool r), [], []⟩ := by
 refine Z1v Try.func72 Try.results72 rfl Try.ntmps72 rfl rfl rfl ?_
 intro E Q hP hN hro hret
 obtain ⟨P', nt', w0, F0, p0, S0, β0, ro0⟩ := E
 simp only at hP hN
 subst hP hN
 dsimp only [argT]
 unfold F72 at h
 refine Zb <| Z5 <| Z1 I (Zd (v := (.bool false)) I I) I <| Z7 <| Z8 <| Zb <| Z5 <| Z1 I (Z9 I I) I <| Z1 I (Z9 I I) I ?_
 have hif := Z1h h
 refine Z16 (fun hc => ?_) (fun hc => ?_)
 ·have h := hif.1 hc
  refine Zc I I I I (Z9 I I) I <| Zc I I I I (Z2c I I) I <| Z1 I (Z19 I I I) I <| Z1 I (Zd I I) I <| Z7 <| Z8 <| Z1e ?_
  have h := Option.some.inj h
  subst h
  refine (hret _ ?_).1
  exact ⟨[(.bool (!a1))], ⟨I, J0⟩, I, J0⟩
 have h := hif.2 hc
 refine Zg I I I I I I I <| Zg I I I I I I I <| Z1 I (Zy (v := (.bool false)) I I I) I <| Z1 I (Zd (v := (.bool false)) I I) I <| Z7 <| Z8 <| Z1e ?_
 have h := Option.some.inj h
 subst h
 refine (hret _ ?_).1
 exact ⟨[(.bool false)], ⟨I, J0⟩, I, J0⟩
def Z38 (_K : Nat) (v7 : (List Z4)) (v8 : Int) (v9 : Bool) : Option (Int × Bool × (List Z4)) :=
 some (v8, v9, v7)
def F108_i1_j18 (_K : Nat) (b12 : Int → Int → (List Z4) → Int → Bool → Option (Int × Bool × (List Z4))) (v13 : Int) (v14 : Int) (v15 : (List Z4)) (v16 : Int) (v17 : Bool) : Option (Int × Bool × (List Z4)) :=
 b12 v13 v14 v15 v16 v17
def F108_i1_j30 (K : Nat) (a899 : Int → Z2a → Int → Bool → (List Z4) → Option (Int × Bool × (List Z4))) (v25 : Int) (v27 : Int) (v4 : Int) (v5 : Bool) (v3 : (List Z4)) (b12 : Int → Int → (List Z4) → Int → Bool → Option (Int × Bool × (List Z4))) (v29 : Int) : Option (Int × Bool × (List Z4)) :=
 (a899 v25 (⟨((v27.tmod 2) == 1), ((v29.tmod 2) == 1)⟩ : Z2a) v4 v5 v3).bind fun v31 =>
 F108_i1_j18 K b12 v27 v29 v31.2.2 v31.1 v31.2.1
def F108_i1_j28 (K : Nat) (v22 : Int × Bool) (v25 : Int) (a899 : Int → Z2a → Int → Bool → (List Z4) → Option (Int × Bool × (List Z4))) (v4 : Int) (v5 : Bool) (v3 : (List Z4)) (b12 : Int → Int → (List Z4) → Int → Bool → Option (Int × Bool × (List Z4))) (v2 : Int) (v27 : Int) : Option (Int × Bool × (List Z4)) :=
 if v22.2 = true then
 if (v22.1 == v25) = true then
 F108_i1_j30 K a899 v25 v27 v4 v5 v3 b12 (IntKind.i64.wrap (v2 + 1))
 else
 F108_i1_j30 K a899 v25 v27 v4 v5 v3 b12 v2
 else
 (a899 v25 (⟨((v27.tmod 2) == 1), ((v2.tmod 2) == 1)⟩ : Z2a) v4 v5 v3).bind fun v32 =>
 F108_i1_j18 K b12 v27 v2 v32.2.2 v32.1 v32.2.1
def F108_i1_j34 (K : Nat) (a899 : Int → Z2a → Int → Bool → (List Z4) → Option (Int × Bool × (List Z4))) (v25 : Int) (v1 : Int) (v4 : Int) (v5 : Bool) (v3 : (List Z4)) (b12 : Int → Int → (List Z4) → Int → Bool → Option (Int × Bool × (List Z4))) (v33 : Int) : Option (Int × Bool × (List Z4)) :=
 (a899 v25 (⟨((v1.tmod 2) == 1), ((v33.tmod 2) == 1)⟩ : Z2a) v4 v5 v3).bind fun v35 =>
 F108_i1_j18 K b12 v1 v33 v35.2.2 v35.1 v35.2.1
def F108_i1_j26 (K : Nat) (v20 : Int × Bool) (v22 : Int × Bool) (a899 : Int → Z2a → Int → Bool → (List Z4) → Option (Int × Bool × (List Z4))) (v4 : Int) (v5 : Bool) (v3 : (List Z4)) (b12 : Int → Int → (List Z4) → Int → Bool → Option (Int × Bool × (List Z4))) (v2 : Int) (v1 : Int) (v25 : Int) : Option (Int × Bool × (List Z4)) :=
 if v20.2 = true then
 if (v20.1 == v25) = true then
 F108_i1_j28 K v22 v25 a899 v4 v5 v3 b12 v2 (IntKind.i64.wrap (v1 + 1))
 else
 F108_i1_j28 K v22 v25 a899 v4 v5 v3 b12 v2 v1
 else
 if v22.2 = true then
 if (v22.1 == v25) = true then
 F108_i1_j34 K a899 v25 v1 v4 v5 v3 b12 (IntKind.i64.wrap (v2 + 1))
 else
 F108_i1_j34 K a899 v25 v1 v4 v5 v3 b12 v2
 else
 (a899 v25 (⟨((v1.tmod 2) == 1), ((v2.tmod 2) == 1)⟩ : Z2a) v4 v5 v3).bind fun v36 =>
 F108_i1_j18 K b12 v1 v2 v36.2.2 v36.1 v36.2.1
def F108_i1_j24 (K : Nat) (v20 : Int × Bool) (v22 : Int × Bool) (a899 : Int → Z2a → Int → Bool → (List Z4) → Option (Int × Bool × (List Z4))) (v4 : Int) (v5 : Bool) (v3 : (List Z4)) (b12 : Int → Int → (List Z4) → Int → Bool → Option (Int × Bool × (List Z4))) (v2 : Int) (v1 : Int) (v23 : Bool) : Option (Int × Bool × (List Z4)) :=
 if v23 = true then
 F108_i1_j26 K v20 v22 a899 v4 v5 v3 b12 v2 v1 v22.1
 else
 F108_i1_j26 K v20 v22 a899 v4 v5 v3 b12 v2 v1 v20.1
def F108_i1_j42 (_K : Nat) (b12 : Int → Int → (List Z4) → Int → Bool → Option (Int × Bool × (List Z4))) (v37 : Int) (v38 : Int) (v39 : (List Z4)) (v40 : Int) (v41 : Bool) : Option (Int × Bool × (List Z4)) :=
 b12 v37 v38 v39 v40 v41
def F108_i1_j54 (K : Nat) (a899 : Int → Z2a → Int → Bool → (List Z4) → Option (Int × Bool × (List Z4))) (v49 : Int) (v51 : Int) (v4 : Int) (v5 : Bool) (v3 : (List Z4)) (b12 : Int → Int → (List Z4) → Int → Bool → Option (Int × Bool × (List Z4))) (v53 : Int) : Option (Int × Bool × (List Z4)) :=
 (a899 v49 (⟨((v51.tmod 2) == 1), ((v53.tmod 2) == 1)⟩ : Z2a) v4 v5 v3).bind fun v55 =>
 F108_i1_j42 K b12 v51 v53 v55.2.2 v55.1 v55.2.1
def F108_i1_j52 (K : Nat) (v46 : Int × Bool) (v49 : Int) (a899 : Int → Z2a → Int → Bool → (List Z4) → Option (Int × Bool × (List Z4))) (v4 : Int) (v5 : Bool) (v3 : (List Z4)) (b12 : Int → Int → (List Z4) → Int → Bool → Option (Int × Bool × (List Z4))) (v2 : Int) (v51 : Int) : Option (Int × Bool × (List Z4)) :=
 if v46.2 = true then
 if (v46.1 == v49) = true then
 F108_i1_j54 K a899 v49 v51 v4 v5 v3 b12 (IntKind.i64.wrap (v2 + 1))
 else
 F108_i1_j54 K a899 v49 v51 v4 v5 v3 b12 v2
 else
 (a899 v49 (⟨((v51.tmod 2) == 1), ((v2.tmod 2) == 1)⟩ : Z2a) v4 v5 v3).bind fun v56 =>
 F108_i1_j42 K b12 v51 v2 v56.2.2 v56.1 v56.2.1
def F108_i1_j58 (K : Nat) (a899 : Int → Z2a → Int → Bool → (List Z4) → Option (Int × Bool × (List Z4))) (v49 : Int) (v1 : Int) (v4 : Int) (v5 : Bool) (v3 : (List Z4)) (b12 : Int → Int → (List Z4) → Int → Bool → Option (Int × Bool × (List Z4))) (v57 : Int) : Option (Int × Bool × (List Z4)) :=
 (a899 v49 (⟨((v1.tmod 2) == 1), ((v57.tmod 2) == 1)⟩ : Z2a) v4 v5 v3).bind fun v59 =>
 F108_i1_j42 K b12 v1 v57 v59.2.2 v59.1 v59.2.1
def F108_i1_j50 (K : Nat) (v44 : Int × Bool) (v46 : Int × Bool) (a899 : Int → Z2a → Int → Bool → (List Z4) → Option (Int × Bool × (List Z4))) (v4 : Int) (v5 : Bool) (v3 : (List Z4)) (b12 : Int → Int → (List Z4) → Int → Bool → Option (Int × Bool × (List Z4))) (v2 : Int) (v1 : Int) (v49 : Int) : Option (Int × Bool × (List Z4)) :=
 if v44.2 = true then
 if (v44.1 == v49) = true then
 F108_i1_j52 K v46 v49 a899 v4 v5 v3 b12 v2 (IntKind.i64.wrap (v1 + 1))
 else
 F108_i1_j52 K v46 v49 a899 v4 v5 v3 b12 v2 v1
 else
 if v46.2 = true then
 if (v46.1 == v49) = true then
 F108_i1_j58 K a899 v49 v1 v4 v5 v3 b12 (IntKind.i64.wrap (v2 + 1))
 else
 F108_i1_j58 K a899 v49 v1 v4 v5 v3 b12 v2
 else
 (a899 v49 (⟨((v1.tmod 2) == 1), ((v2.tmod 2) == 1)⟩ : Z2a) v4 v5 v3).bind fun v60 =>
 F108_i1_j42 K b12 v1 v2 v60.2.2 v60.1 v60.2.1
def F108_i1_j48 (K : Nat) (v44 : Int × Bool) (v46 : Int × Bool) (a899 : Int → Z2a → Int → Bool → (List Z4) → Option (Int × Bool × (List Z4))) (v4 : Int) (v5 : Bool) (v3 : (List Z4)) (b12 : Int → Int → (List Z4) → Int → Bool → Option (Int × Bool × (List Z4))) (v2 : Int) (v1 : Int) (v47 : Bool) : Option (Int × Bool × (List Z4)) :=
 if v47 = true then
 F108_i1_j50 K v44 v46 a899 v4 v5 v3 b12 v2 v1 v46.1
 else
 F108_i1_j50 K v44 v46 a899 v4 v5 v3 b12 v2 v1 v44.1
def Z2y (K : Nat) (a1 : (List Z4)) (a2 : (List Z4)) (a899 : Int → Z2a → Int → Bool → (List Z4) → Option (Int × Bool × (List Z4))) (c11 : (List Z4) → Int → Bool → Option (Int × Bool × (List Z4))) : Nat → Int → Int → (List Z4) → Int → Bool → Option (Int × Bool × (List Z4))
 | 0, _, _, _, _, _ => none
 | k6 + 1, v1, v2, v3, v4, v5 =>
 if (decide (v1 < (IntKind.i64.wrap (2 * (a1.length : Int))))) = true then
 (F109 K a1 v1).bind fun v20 =>
 (F109 K a2 v2).bind fun v22 =>
 if (!v20.2) = true then
 F108_i1_j24 K v20 v22 a899 v4 v5 v3 (Z2y K a1 a2 a899 c11 k6) v2 v1 true
 else
 if v22.2 = true then
 F108_i1_j24 K v20 v22 a899 v4 v5 v3 (Z2y K a1 a2 a899 c11 k6) v2 v1 (decide (v22.1 < v20.1))
 else
 F108_i1_j24 K v20 v22 a899 v4 v5 v3 (Z2y K a1 a2 a899 c11 k6) v2 v1 false
 else
 if (decide (v2 < (IntKind.i64.wrap (2 * (a2.length : Int))))) = true then
 (F109 K a1 v1).bind fun v44 =>
 (F109 K a2 v2).bind fun v46 =>
 if (!v44.2) = true then
 F108_i1_j48 K v44 v46 a899 v4 v5 v3 (Z2y K a1 a2 a899 c11 k6) v2 v1 true
 else
 if v46.2 = true then
 F108_i1_j48 K v44 v46 a899 v4 v5 v3 (Z2y K a1 a2 a899 c11 k6) v2 v1 (decide (v46.1 < v44.1))
 else
 F108_i1_j48 K v44 v46 a899 v4 v5 v3 (Z2y K a1 a2 a899 c11 k6) v2 v1 false
 else
 c11 v3 v4 v5
def F108_i1 (K : Nat) (a899 : Int → Z2a → Int → Bool → (List Z4) → Option (Int × Bool × (List Z4))) (a900 : Int) (a901 : Bool) (a902 : (List Z4)) (a1 : (List Z4)) (a2 : (List Z4)) : Option (Int × Bool × (List Z4)) :=
 Z2y K a1 a2 a899 (Z38 K) K 0 0 a902 a900 a901
theorem F108_i1_ok (K : Nat) (a899 : Int → Z2a → Int → Bool → (List Z4) → Option (Int × Bool × (List Z4))) (a900 : Int) (a901 : Bool) (a902 : (List Z4)) (a1 : (List Z4)) (a2 : (List Z4)) (r : Int × Bool × (List Z4)) (lr : Go.Loop) (h : F108_i1 K a899 a900 a901 a902 a1 a2 = some r) (hps : lr.params.size = 2) (hy : ∀ (x0 : Int) (x1 : Z2a) (a900 : Int) (a901 : Bool) (a902 : (List Z4)) (w : Int × Bool × (List Z4)), a899 x0 x1 a900 a901 a902 = some w → YCall P lr 1000 ⟨[(.int .i64 x0), (e_A2_Bool x1)], [(1000, (.loop lr [5, 7, 8, 9] [(.ptr 1001 0), (.ptr 1002 0), (.ptr 1003 0), (.ptr 1004 0)])), (0, (.vec 2 (List.map Z6 a902))), (1001, (.box [(.clo 72 [])])), (1002, (.box [(.vs 0)])), (1003, (.box [(.int .i64 a900)])), (1004, (.box [(.bool a901)]))], .bool true, [(1000, (.loop lr [5, 7, 8, 9] [(.ptr 1001 0), (.ptr 1002 0), (.ptr 1003 0), (.ptr 1004 0)])), (0, (.vec 2 (List.map Z6 w.2.2))), (1001, (.box [(.clo 72 [])])), (1002, (.box [(.vs 0)])), (1003, (.box [(.int .i64 w.1)])), (1004, (.box [(.bool w.2.1)]))], [0]⟩) : ACall P 108 ⟨[(.yld 1000), (.ip [(.sl 2 (a1.map Z6) false)]), (.ip [(.sl 2 (a2.map Z6) false)])], [(1000, (.loop lr [5, 7, 8, 9] [(.ptr 1001 0), (.ptr 1002 0), (.ptr 1003 0), (.ptr 1004 0)])), (0, (.vec 2 (List.map Z6 a902))), (1001, (.box [(.clo 72 [])])), (1002, (.box [(.vs 0)])), (1003, (.box [(.int .i64 a900)])), (1004, (.box [(.bool a901)]))], .tup [], [(1000, (.loop lr [5, 7, 8, 9] [(.ptr 1001 0), (.ptr 1002 0), (.ptr 1003 0), (.ptr 1004 0)])), (0, (.vec 2 (List.map Z6 r.2.2))), (1001, (.box [(.clo 72 [])])), (1002, (.box [(.vs 0)])), (1003, (.box [(.int .i64 r.1)])), (1004, (.box [(.bool r.2.1)]))], [0]⟩ := by
 refine Z1v Try.func108 Try.results108 rfl Try.ntmps108 rfl rfl rfl ?_
 intro E Q hP hN hro hret
 obtain ⟨P', nt', w0, F0, p0, S0, β0, ro0⟩ := E
 simp only at hP hN
 subst hP hN
 dsimp only [argT]
 unfold F108_i1 at h
 refine Zb <| Z5 <| Z1 I (Zd (v := (.int .i64 0)) I I) I <| Z1 I (Zd (v := (.int .i64 0)) I I) I <| Z7 <| Z8 <| Z1r (st' := ⟨[(0, (.yld 1000)), (1, (.ip [(.sl 2 (a1.map Z6) false)])), (2, (.ip [(.sl 2 (a2.map Z6) false)])), (4, (.int .i64 0)), (5, (.int .i64 0))], [(0, (.vec 2 (List.map Z6 a902))), (1000, (.loop lr [5, 7, 8, 9] [(.ptr 1001 0), (.ptr 1002 0), (.ptr 1003 0), (.ptr 1004 0)])), (1001, (.box [(.clo 72 [])])), (1002, (.box [(.vs 0)])), (1003, (.box [(.int .i64 a900)])), (1004, (.box [(.bool a901)]))]⟩) ⟨I, I, I, I, I, J0⟩ ⟨I, I, I, I, I, I, J0⟩ ?_
 refine Z1o (V := Int × Int × (List Z4) × Int × Bool) (X := (List Z4) × Int × Bool) (lp := fun k v => Z2y K a1 a2 a899 (Z38 K) k v.1 v.2.1 v.2.2.1 v.2.2.2.1 v.2.2.2.2 = some r) (sh := fun v => ⟨[(0, (.yld 1000)), (1, (.ip [(.sl 2 (a1.map Z6) false)])), (2, (.ip [(.sl 2 (a2.map Z6) false)])), (4, (.int .i64 v.1)), (5, (.int .i64 v.2.1))], [(0, (.vec 2 (List.map Z6 v.2.2.1))), (1000, (.loop lr [5, 7, 8, 9] [(.ptr 1001 0), (.ptr 1002 0), (.ptr 1003 0), (.ptr 1004 0)])), (1001, (.box [(.clo 72 [])])), (1002, (.box [(.vs 0)])), (1003, (.box [(.int .i64 v.2.2.2.1)])), (1004, (.box [(.bool v.2.2.2.2)]))]⟩) (x := fun v => Z38 K v.1 v.2.1 v.2.2 = some r) (shx := fun v => ⟨[], [(0, (.vec 2 (List.map Z6 v.1))), (1000, (.loop lr [5, 7, 8, 9] [(.ptr 1001 0), (.ptr 1002 0), (.ptr 1003 0), (.ptr 1004 0)])), (1001, (.box [(.clo 72 [])])), (1002, (.box [(.vs 0)])), (1003, (.box [(.int .i64 v.2.1)])), (1004, (.box [(.bool v.2.2)]))]⟩) (k := K) (v := (0, 0, a902, a900, a901)) h ?_ ?_
 ·intro v h
  obtain ⟨v7, v8, v9⟩ := v
  try dsimp only at h ⊢
  unfold Z38 at h
  have h := Option.some.inj h
  subst h
  refine (hret _ ?_).2
  exact ⟨[], J0, I, ⟨I, I, I, I, I, I, J0⟩⟩
 intro N k6 v h IH6 J6
 obtain ⟨v1, v2, v3, v4, v5⟩ := v
 try dsimp only at h IH6 J6 ⊢
 cases k6 with
 | zero => cases h
 | succ k6 =>
  rw [Z2y] at h
  refine Zb <| Zb <| Z5 <| Z1 I (Z9 I I) I <| Z1 I (Z1l I o45 I I) I <| Z1 I (Z24 (l := a1) (enc := Z6) I s45 I) I <| Z1 I (Z1p (k := .i64) (a := 2) (c := (IntKind.i64.wrap (2 * (a1.length : Int)))) I I I I) I <| Z1 I (Z1c (c := (decide (v1 < (IntKind.i64.wrap (2 * (a1.length : Int)))))) I I I I) I <| Z1 I (Z9 I I) I ?_
  have hif := Z1h h
  refine Z16 (fun hc => ?_) (fun hc => ?_)
  ·have h := hif.1 hc
   iterate 5 refine Zg I I I I I I I ?_
   refine Z1 I (Z19 (v := (.bool true)) I I I) I <| Z7 <| Z8 ?_
   refine Zq (b := true) I (fun hc => ?_) (fun hc => ?_)
   rotate_left
   ·cases hc
   refine Z14 <| Z8 ?_
   refine Z2m (V := Int × Int × (List Z4) × Int × Bool) (lp := fun v => F108_i1_j18 K (Z2y K a1 a2 a899 (Z38 K) k6) v.1 v.2.1 v.2.2.1 v.2.2.2.1 v.2.2.2.2 = some r) (sh := fun v => ⟨[(0, (.yld 1000)), (1, (.ip [(.sl 2 (a1.map Z6) false)])), (2, (.ip [(.sl 2 (a2.map Z6) false)])), (4, (.int .i64 v.1)), (5, (.int .i64 v.2.1))], [(0, (.vec 2 (List.map Z6 v.2.2.1))), (1000, (.loop lr [5, 7, 8, 9] [(.ptr 1001 0), (.ptr 1002 0), (.ptr 1003 0), (.ptr 1004 0)])), (1001, (.box [(.clo 72 [])])), (1002, (.box [(.vs 0)])), (1003, (.box [(.int .i64 v.2.2.2.1)])), (1004, (.box [(.bool v.2.2.2.2)]))]⟩) ?_ ?_
   ·intro v h
    obtain ⟨v13, v14, v15, v16, v17⟩ := v
    try dsimp only at h ⊢
    unfold F108_i1_j18 at h
    exact Zz (IH6 _ (v13, v14, v15, v16, v17) (Nat.lt_succ_self _) h) ⟨I, I, I, I, I, J0⟩ ⟨I, I, I, I, I, I, J0⟩
   intro J18
   refine Zb <| Z5 <| Z1 I (Z1l I o45 I I) I <| Z1 I (Z9 I I) I ?_
   have ⟨v20, hv20, h⟩ := Z1a h
   refine Z1 I (Z1d (ar := [(.sl 2 (a1.map Z6) false), (.int .i64 v1)]) Try.call109 (F109_ok K a1 v1 v20 hv20) I I ⟨I, I, J0⟩ I) I <| Z1 I (Z9 I I) I <| Z1 I (Z20 I I I) I <| Z1 I (Z20 I I I) I <| Z1 I (Zd I I) I <| Z1 I (Zd I I) I <| Z7 <| Z8 <| Zb <| Z5 <| Z1 I (Z1l I o45 I I) I <| Z1 I (Z9 I I) I ?_
   have ⟨v22, hv22, h⟩ := Z1a h
   refine Z1 I (Z1d (ar := [(.sl 2 (a2.map Z6) false), (.int .i64 v2)]) Try.call109 (F109_ok K a2 v2 v22 hv22) I I ⟨I, I, J0⟩ I) I <| Z1 I (Z9 I I) I <| Z1 I (Z20 I I I) I <| Z1 I (Z20 I I I) I <| Z1 I (Zd I I) I <| Z1 I (Zd I I) I <| Z7 <| Z8 <| Zb <| Z5 <| Z1 I (Z9 I I) I <| Z1 I (Zd I I) I <| Z7 <| Z8 <| Zb <| Zb ?_
   refine Z21 (V := Bool) (lp := fun v => F108_i1_j24 K v20 v22 a899 v4 v5 v3 (Z2y K a1 a2 a899 (Z38 K) k6) v2 v1 v = some r) (sh := fun v => ⟨[(0, (.yld 1000)), (1, (.ip [(.sl 2 (a1.map Z6) false)])), (2, (.ip [(.sl 2 (a2.map Z6) false)])), (4, (.int .i64 v1)), (5, (.int .i64 v2)), (6, (.int .i64 v20.1)), (7, (.bool v20.2)), (8, (.int .i64 v22.1)), (9, (.bool v22.2)), (10, (.int .i64 v20.1)), (45, (.bool v))], [(0, (.vec 2 (List.map Z6 v3))), (1000, (.loop lr [5, 7, 8, 9] [(.ptr 1001 0), (.ptr 1002 0), (.ptr 1003 0), (.ptr 1004 0)])), (1001, (.box [(.clo 72 [])])), (1002, (.box [(.vs 0)])), (1003, (.box [(.int .i64 v4)])), (1004, (.box [(.bool v5)]))]⟩) ?_ ?_
   ·intro v h
    revert h
    revert v
    intro v23 h
    try dsimp only at h ⊢
    unfold F108_i1_j24 at h
    refine Z8 ?_
    refine Z21 (V := Int) (lp := fun v => F108_i1_j26 K v20 v22 a899 v4 v5 v3 (Z2y K a1 a2 a899 (Z38 K) k6) v2 v1 v = some r) (sh := fun v => ⟨[(0, (.yld 1000)), (1, (.ip [(.sl 2 (a1.map Z6) false)])), (2, (.ip [(.sl 2 (a2.map Z6) false)])), (4, (.int .i64 v1)), (5, (.int .i64 v2)), (6, (.int .i64 v20.1)), (7, (.bool v20.2)), (8, (.int .i64 v22.1)), (9, (.bool v22.2)), (10, (.int .i64 v))], [(0, (.vec 2 (List.map Z6 v3))), (1000, (.loop lr [5, 7, 8, 9] [(.ptr 1001 0), (.ptr 1002 0), (.ptr 1003 0), (.ptr 1004 0)])), (1001, (.box [(.clo 72 [])])), (1002, (.box [(.vs 0)])), (1003, (.box [(.int .i64 v4)])), (1004, (.box [(.bool v5)]))]⟩) ?_ ?_
    ·intro v h
     revert h
     revert v
     intro v25 h
     try dsimp only at h ⊢
     unfold F108_i1_j26 at h
     refine Z8 <| Zb <| Zb <| Z5 <| Z1 I (Z9 I I) I <| Z1 I (Z9 I I) I ?_
     have hif := Z1h h
     refine Z16 (fun hc => ?_) (fun hc => ?_)
     ·have h := hif.1 hc
      refine Zc I I I I (Z9 I I) I <| Zc I I I I (Z9 I I) I <| Zc I I I I (Z1c (c := (v20.1 == v25)) I I I I) I <| Z1 I (Z19 I I I) I <| Z7 <| Z8 ?_
      refine Z21 (V := Int) (lp := fun v => F108_i1_j28 K v22 v25 a899 v4 v5 v3 (Z2y K a1 a2 a899 (Z38 K) k6) v2 v = some r) (sh := fun v => ⟨[(0, (.yld 1000)), (1, (.ip [(.sl 2 (a1.map Z6) false)])), (2, (.ip [(.sl 2 (a2.map Z6) false)])), (4, (.int .i64 v)), (5, (.int .i64 v2)), (8, (.int .i64 v22.1)), (9, (.bool v22.2)), (10, (.int .i64 v25))], [(0, (.vec 2 (List.map Z6 v3))), (1000, (.loop lr [5, 7, 8, 9] [(.ptr 1001 0), (.ptr 1002 0), (.ptr 1003 0), (.ptr 1004 0)])), (1001, (.box [(.clo 72 [])])), (1002, (.box [(.vs 0)])), (1003, (.box [(.int .i64 v4)])), (1004, (.box [(.bool v5)]))]⟩) ?_ ?_
      ·intro v h
       revert h
       revert v
       intro v27 h
       try dsimp only at h ⊢
       unfold F108_i1_j28 at h
       refine Z8 <| Zb <| Zb <| Z5 <| Z1 I (Z9 I I) I <| Z1 I (Z9 I I) I ?_
       have hif := Z1h h
       refine Z16 (fun hc => ?_) (fun hc => ?_)
       ·have h := hif.1 hc
        refine Zc I I I I (Z9 I I) I <| Zc I I I I (Z9 I I) I <| Zc I I I I (Z1c (c := (v22.1 == v25)) I I I I) I <| Z1 I (Z19 I I I) I <| Z7 <| Z8 ?_
        refine Z21 (V := Int) (lp := fun v => F108_i1_j30 K a899 v25 v27 v4 v5 v3 (Z2y K a1 a2 a899 (Z38 K) k6) v = some r) (sh := fun v => ⟨[(0, (.yld 1000)), (1, (.ip [(.sl 2 (a1.map Z6) false)])), (2, (.ip [(.sl 2 (a2.map Z6) false)])), (4, (.int .i64 v27)), (5, (.int .i64 v)), (10, (.int .i64 v25))], [(0, (.vec 2 (List.map Z6 v3))), (1000, (.loop lr [5, 7, 8, 9] [(.ptr 1001 0), (.ptr 1002 0), (.ptr 1003 0), (.ptr 1004 0)])), (1001, (.box [(.clo 72 [])])), (1002, (.box [(.vs 0)])), (1003, (.box [(.int .i64 v4)])), (1004, (.box [(.bool v5)]))]⟩) ?_ ?_
        ·intro v h
         revert h
         revert v
         intro v29 h
         try dsimp only at h ⊢
         unfold F108_i1_j30 at h
         refine Z8 <| Zb <| Z5 <| Z1 I (Z9 I I) I <| Z1 I (Z9 I I) I <| Z1 I (Z9 I I) I <| Z1 I (Z2s (b := 2) (c := (v27.tmod 2)) I I I I (by decide)) I <| Z1 I (Z1c (b := 1) (c := ((v27.tmod 2) == 1)) I I I I) I <| Z1 I (Z9 I I) I <| Z1 I (Z2s (b := 2) (c := (v29.tmod 2)) I I I I (by decide)) I <| Z1 I (Z1c (b := 1) (c := ((v29.tmod 2) == 1)) I I I I) I <| Z1 I (Z3m (vs := [(0, (.bool ((v27.tmod 2) == 1))), (1, (.bool ((v29.tmod 2) == 1)))]) I ar128 ⟨I, I, I, I, J0⟩ I) I ?_
         have ⟨v31, hv31, h⟩ := Z1a h
         refine Z1 I (Z3k (d := some 72) (ks := [5, 7, 8, 9]) (vs := [(.ptr 1001 0), (.ptr 1002 0), (.ptr 1003 0), (.ptr 1004 0)]) (c := ⟨[(.int .i64 v25), (.ag [(.bool ((v27.tmod 2) == 1)), (.bool ((v29.tmod 2) == 1))])], [(1000, (.loop lr [5, 7, 8, 9] [(.ptr 1001 0), (.ptr 1002 0), (.ptr 1003 0), (.ptr 1004 0)])), (0, (.vec 2 (List.map Z6 v3))), (1001, (.box [(.clo 72 [])])), (1002, (.box [(.vs 0)])), (1003, (.box [(.int .i64 v4)])), (1004, (.box [(.bool v5)]))], .bool true, [(1000, (.loop lr [5, 7, 8, 9] [(.ptr 1001 0), (.ptr 1002 0), (.ptr 1003 0), (.ptr 1004 0)])), (0, (.vec 2 (List.map Z6 v31.2.2))), (1001, (.box [(.clo 72 [])])), (1002, (.box [(.vs 0)])), (1003, (.box [(.int .i64 v31.1)])), (1004, (.box [(.bool v31.2.1)]))], [0]⟩) (ar := [(.int .i64 v25), (.ag [(.bool ((v27.tmod 2) == 1)), (.bool ((v29.tmod 2) == 1))])]) (news := []) (forg := [0]) (hy v25 (⟨((v27.tmod 2) == 1), ((v29.tmod 2) == 1)⟩ : Z2a) v4 v5 v3 _ hv31) I hps I I ⟨I, I, J0⟩ I ⟨I, I, I, I, I, I, J0⟩ I) I <| Z1 I (Z2c I I) I <| Z7 <| Z8 ?_
         refine Zq (b := false) I (fun hc => ?_) (fun hc => ?_)
         ·cases hc
         refine Z14 <| Z27 ?_
         exact Zz (J18 (v27, v29, v31.2.2, v31.1, v31.2.1) h) ⟨I, I, I, I, I, J0⟩ ⟨I, I, I, I, I, I, J0⟩
        intro J30
        have hif := Z1h h
        refine Zq I (fun hc => ?_) (fun hc => ?_)
        ·have h := hif.1 hc
         refine Z5 <| Z1 I (Z9 I I) I <| Z1 I (Z1p (k := .i64) (b := 1) (c := (IntKind.i64.wrap (v2 + 1))) I I I I) I <| Z1 I (Zd I I) I <| Z7 ?_
         exact Zz (J30 (IntKind.i64.wrap (v2 + 1)) h) ⟨I, I, I, I, I, I, J0⟩ ⟨I, I, I, I, I, I, J0⟩
        have h := hif.2 hc
        refine Z14 ?_
        exact Zz (J30 v2 h) ⟨I, I, I, I, I, I, J0⟩ ⟨I, I, I, I, I, I, J0⟩
       have h := hif.2 hc
       refine Zg I I I I I I I <| Zg I I I I I I I <| Zg I I I I I I I <| Z1 I (Zy (v := (.bool false)) I I I) I <| Z7 <| Z8 ?_
       refine Zq (b := false) I (fun hc => ?_) (fun hc => ?_)
       ·cases hc
       refine Z14 <| Z8 <| Zb <| Z5 <| Z1 I (Z9 I I) I <| Z1 I (Z9 I I) I <| Z1 I (Z9 I I) I <| Z1 I (Z2s (b := 2) (c := (v27.tmod 2)) I I I I (by decide)) I <| Z1 I (Z1c (b := 1) (c := ((v27.tmod 2) == 1)) I I I I) I <| Z1 I (Z9 I I) I <| Z1 I (Z2s (b := 2) (c := (v2.tmod 2)) I I I I (by decide)) I <| Z1 I (Z1c (b := 1) (c := ((v2.tmod 2) == 1)) I I I I) I <| Z1 I (Z3m (vs := [(0, (.bool ((v27.tmod 2) == 1))), (1, (.bool ((v2.tmod 2) == 1)))]) I ar128 ⟨I, I, I, I, J0⟩ I) I ?_
       have ⟨v32, hv32, h⟩ := Z1a h
       refine Z1 I (Z3k (d := some 72) (ks := [5, 7, 8, 9]) (vs := [(.ptr 1001 0), (.ptr 1002 0), (.ptr 1003 0), (.ptr 1004 0)]) (c := ⟨[(.int .i64 v25), (.ag [(.bool ((v27.tmod 2) == 1)), (.bool ((v2.tmod 2) == 1))])], [(1000, (.loop lr [5, 7, 8, 9] [(.ptr 1001 0), (.ptr 1002 0), (.ptr 1003 0), (.ptr 1004 0)])), (0, (.vec 2 (List.map Z6 v3))), (1001, (.box [(.clo 72 [])])), (1002, (.box [(.vs 0)])), (1003, (.box [(.int .i64 v4)])), (1004, (.box [(.bool v5)]))], .bool true, [(1000, (.loop lr [5, 7, 8, 9] [(.ptr 1001 0), (.ptr 1002 0), (.ptr 1003 0), (.ptr 1004 0)])), (0, (.vec 2 (List.map Z6 v32.2.2))), (1001, (.box [(.clo 72 [])])), (1002, (.box [(.vs 0)])), (1003, (.box [(.int .i64 v32.1)])), (1004, (.box [(.bool v32.2.1)]))], [0]⟩) (ar := [(.int .i64 v25), (.ag [(.bool ((v27.tmod 2) == 1)), (.bool ((v2.tmod 2) == 1))])]) (news := []) (forg := [0]) (hy v25 (⟨((v27.tmod 2) == 1), ((v2.tmod 2) == 1)⟩ : Z2a) v4 v5 v3 _ hv32) I hps I I ⟨I, I, J0⟩ I ⟨I, I, I, I, I, I, J0⟩ I) I <| Z1 I (Z2c I I) I <| Z7 <| Z8 ?_
       refine Zq (b := false) I (fun hc => ?_) (fun hc => ?_)
       ·cases hc
       refine Z14 <| Z27 ?_
       exact Zz (J18 (v27, v2, v32.2.2, v32.1, v32.2.1) h) ⟨I, I, I, I, I, J0⟩ ⟨I, I, I, I, I, I, J0⟩
      intro J28
      have hif := Z1h h
      refine Zq I (fun hc => ?_) (fun hc => ?_)
      ·have h := hif.1 hc
       refine Z5 <| Z1 I (Z9 I I) I <| Z1 I (Z1p (k := .i64) (b := 1) (c := (IntKind.i64.wrap (v1 + 1))) I I I I) I <| Z1 I (Zd I I) I <| Z7 ?_
       exact Zz (J28 (IntKind.i64.wrap (v1 + 1)) h) ⟨I, I, I, I, I, I, I, I, J0⟩ ⟨I, I, I, I, I, I, J0⟩
      have h := hif.2 hc
      refine Z14 ?_
      exact Zz (J28 v1 h) ⟨I, I, I, I, I, I, I, I, J0⟩ ⟨I, I, I, I, I, I, J0⟩
     have h := hif.2 hc
     refine Zg I I I I I I I <| Zg I I I I I I I <| Zg I I I I I I I <| Z1 I (Zy (v := (.bool false)) I I I) I <| Z7 <| Z8 ?_
     refine Zq (b := false) I (fun hc => ?_) (fun hc => ?_)
     ·cases hc
     refine Z14 <| Z8 <| Zb <| Zb <| Z5 <| Z1 I (Z9 I I) I <| Z1 I (Z9 I I) I ?_
     have hif := Z1h h
     refine Z16 (fun hc => ?_) (fun hc => ?_)
     ·have h := hif.1 hc
      refine Zc I I I I (Z9 I I) I <| Zc I I I I (Z9 I I) I <| Zc I I I I (Z1c (c := (v22.1 == v25)) I I I I) I <| Z1 I (Z19 I I I) I <| Z7 <| Z8 ?_
      refine Z21 (V := Int) (lp := fun v => F108_i1_j34 K a899 v25 v1 v4 v5 v3 (Z2y K a1 a2 a899 (Z38 K) k6) v = some r) (sh := fun v => ⟨[(0, (.yld 1000)), (1, (.ip [(.sl 2 (a1.map Z6) false)])), (2, (.ip [(.sl 2 (a2.map Z6) false)])), (4, (.int .i64 v1)), (5, (.int .i64 v)), (10, (.int .i64 v25))], [(0, (.vec 2 (List.map Z6 v3))), (1000, (.loop lr [5, 7, 8, 9] [(.ptr 1001 0), (.ptr 1002 0), (.ptr 1003 0), (.ptr 1004 0)])), (1001, (.box [(.clo 72 [])])), (1002, (.box [(.vs 0)])), (1003, (.box [(.int .i64 v4)])), (1004, (.box [(.bool v5)]))]⟩) ?_ ?_
      ·intro v h
       revert h
       revert v
       intro v33 h
       try dsimp only at h ⊢
       unfold F108_i1_j34 at h
       refine Z8 <| Zb <| Z5 <| Z1 I (Z9 I I) I <| Z1 I (Z9 I I) I <| Z1 I (Z9 I I) I <| Z1 I (Z2s (b := 2) (c := (v1.tmod 2)) I I I I (by decide)) I <| Z1 I (Z1c (b := 1) (c := ((v1.tmod 2) == 1)) I I I I) I <| Z1 I (Z9 I I) I <| Z1 I (Z2s (b := 2) (c := (v33.tmod 2)) I I I I (by decide)) I <| Z1 I (Z1c (b := 1) (c := ((v33.tmod 2) == 1)) I I I I) I <| Z1 I (Z3m (vs := [(0, (.bool ((v1.tmod 2) == 1))), (1, (.bool ((v33.tmod 2) == 1)))]) I ar128 ⟨I, I, I, I, J0⟩ I) I ?_
       have ⟨v35, hv35, h⟩ := Z1a h
       refine Z1 I (Z3k (d := some 72) (ks := [5, 7, 8, 9]) (vs := [(.ptr 1001 0), (.ptr 1002 0), (.ptr 1003 0), (.ptr 1004 0)]) (c := ⟨[(.int .i64 v25), (.ag [(.bool ((v1.tmod 2) == 1)), (.bool ((v33.tmod 2) == 1))])], [(1000, (.loop lr [5, 7, 8, 9] [(.ptr 1001 0), (.ptr 1002 0), (.ptr 1003 0), (.ptr 1004 0)])), (0, (.vec 2 (List.map Z6 v3))), (1001, (.box [(.clo 72 [])])), (1002, (.box [(.vs 0)])), (1003, (.box [(.int .i64 v4)])), (1004, (.box [(.bool v5)]))], .bool true, [(1000, (.loop lr [5, 7, 8, 9] [(.ptr 1001 0), (.ptr 1002 0), (.ptr 1003 0), (.ptr 1004 0)])), (0, (.vec 2 (List.map Z6 v35.2.2))), (1001, (.box [(.clo 72 [])])), (1002, (.box [(.vs 0)])), (1003, (.box [(.int .i64 v35.1)])), (1004, (.box [(.bool v35.2.1)]))], [0]⟩) (ar := [(.int .i64 v25), (.ag [(.bool ((v1.tmod 2) == 1)), (.bool ((v33.tmod 2) == 1))])]) (news := []) (forg := [0]) (hy v25 (⟨((v1.tmod 2) == 1), ((v33.tmod 2) == 1)⟩ : Z2a) v4 v5 v3 _ hv35) I hps I I ⟨I, I, J0⟩ I ⟨I, I, I, I, I, I, J0⟩ I) I <| Z1 I (Z2c I I) I <| Z7 <| Z8 ?_
       refine Zq (b := false) I (fun hc => ?_) (fun hc => ?_)
       ·cases hc
       refine Z14 <| Z27 ?_
       exact Zz (J18 (v1, v33, v35.2.2, v35.1, v35.2.1) h) ⟨I, I, I, I, I, J0⟩ ⟨I, I, I, I, I, I, J0⟩
      intro J34
      have hif := Z1h h
      refine Zq I (fun hc => ?_) (fun hc => ?_)
      ·have h := hif.1 hc
       refine Z5 <| Z1 I (Z9 I I) I <| Z1 I (Z1p (k := .i64) (b := 1) (c := (IntKind.i64.wrap (v2 + 1))) I I I I) I <| Z1 I (Zd I I) I <| Z7 ?_
       exact Zz (J34 (IntKind.i64.wrap (v2 + 1)) h) ⟨I, I, I, I, I, I, J0⟩ ⟨I, I, I, I, I, I, J0⟩
      have h := hif.2 hc
      refine Z14 ?_
      exact Zz (J34 v2 h) ⟨I, I, I, I, I, I, J0⟩ ⟨I, I, I, I, I, I, J0⟩
     have h := hif.2 hc
     refine Zg I I I I I I I <| Zg I I I I I I I <| Zg I I I I I I I <| Z1 I (Zy (v := (.bool false)) I I I) I <| Z7 <| Z8 ?_
     refine Zq (b := false) I (fun hc => ?_) (fun hc => ?_)
     ·cases hc
     refine Z14 <| Z8 <| Zb <| Z5 <| Z1 I (Z9 I I) I <| Z1 I (Z9 I I) I <| Z1 I (Z9 I I) I <| Z1 I (Z2s (b := 2) (c := (v1.tmod 2)) I I I I (by decide)) I <| Z1 I (Z1c (b := 1) (c := ((v1.tmod 2) == 1)) I I I I) I <| Z1 I (Z9 I I) I <| Z1 I (Z2s (b := 2) (c := (v2.tmod 2)) I I I I (by decide)) I <| Z1 I (Z1c (b := 1) (c := ((v2.tmod 2) == 1)) I I I I) I <| Z1 I (Z3m (vs := [(0, (.bool ((v1.tmod 2) == 1))), (1, (.bool ((v2.tmod 2) == 1)))]) I ar128 ⟨I, I, I, I, J0⟩ I) I ?_
     have ⟨v36, hv36, h⟩ := Z1a h
     refine Z1 I (Z3k (d := some 72) (ks := [5, 7, 8, 9]) (vs := [(.ptr 1001 0), (.ptr 1002 0), (.ptr 1003 0), (.ptr 1004 0)]) (c := ⟨[(.int .i64 v25), (.ag [(.bool ((v1.tmod 2) == 1)), (.bool ((v2.tmod 2) == 1))])], [(1000, (.loop lr [5, 7, 8, 9] [(.ptr 1001 0), (.ptr 1002 0), (.ptr 1003 0), (.ptr 1004 0)])), (0, (.vec 2 (List.map Z6 v3))), (1001, (.box [(.clo 72 [])])), (1002, (.box [(.vs 0)])), (1003, (.box [(.int .i64 v4)])), (1004, (.box [(.bool v5)]))], .bool true, [(1000, (.loop lr [5, 7, 8, 9] [(.ptr 1001 0), (.ptr 1002 0), (.ptr 1003 0), (.ptr 1004 0)])), (0, (.vec 2 (List.map Z6 v36.2.2))), (1001, (.box [(.clo 72 [])])), (1002, (.box [(.vs 0)])), (1003, (.box [(.int .i64 v36.1)])), (1004, (.box [(.bool v36.2.1)]))], [0]⟩) (ar := [(.int .i64 v25), (.ag [(.bool ((v1.tmod 2) == 1)), (.bool ((v2.tmod 2) == 1))])]) (news := []) (forg := [0]) (hy v25 (⟨((v1.tmod 2) == 1), ((v2.tmod 2) == 1)⟩ : Z2a) v4 v5 v3 _ hv36) I hps I I ⟨I, I, J0⟩ I ⟨I, I, I, I, I, I, J0⟩ I) I <| Z1 I (Z2c I I) I <| Z7 <| Z8 ?_
     refine Zq (b := false) I (fun hc => ?_) (fun hc => ?_)
     ·cases hc
     refine Z14 <| Z27 ?_
     exact Zz (J18 (v1, v2, v36.2.2, v36.1, v36.2.1) h) ⟨I, I, I, I, I, J0⟩ ⟨I, I, I, I, I, I, J0⟩
    intro J26
    have hif := Z1h h
    refine Zq I (fun hc => ?_) (fun hc => ?_)
    ·have h := hif.1 hc
     refine Z5 <| Z1 I (Z9 I I) I <| Z1 I (Zd I I) I <| Z7 ?_
     exact Zz (J26 v22.1 h) ⟨I, I, I, I, I, I, I, I, I, I, J0⟩ ⟨I, I, I, I, I, I, J0⟩
    have h := hif.2 hc
    refine Z14 ?_
    exact Zz (J26 v20.1 h) ⟨I, I, I, I, I, I, I, I, I, I, J0⟩ ⟨I, I, I, I, I, I, J0⟩
   intro J24
   refine Z5 <| Z1 I (Z9 I I) I <| Z1 I (Z2c I I) I <| Z1 I (Z9 I I) I ?_
   have hif := Z1h h
   refine Z16 (fun hc => ?_) (fun hc => ?_)
   ·have h := hif.1 hc
    refine Zg I I I I I I I <| Zg I I I I I I I <| Zg (u := .tup []) I I I I I I I <| Zg (u := .tup []) I I I I I I I <| Zg (u := .tup []) I I I I I I I <| Zg I I I I I I I <| Z1 I (Z19 (v := (.bool true)) I I I) I <| Z7 ?_
    exact Zz (J24 true h) ⟨I, I, I, I, I, I, I, I, I, I, I, J0⟩ ⟨I, I, I, I, I, I, J0⟩
   have h := hif.2 hc
   refine Zc I I I I (Z9 I I) I <| Zc I I I I (Z9 I I) I ?_
   have hif := Z1h h
   refine Z16 (fun hc => ?_) (fun hc => ?_)
   ·have h := hif.1 hc
    refine Zc I I I I (Z9 I I) I <| Zc I I I I (Z9 I I) I <| Zc I I I I (Z1c (c := (decide (v22.1 < v20.1))) I I I I) I <| Zc I I I I (Z19 I I I) I <| Z1 I (Zy I I I) I <| Z7 ?_
    exact Zz (J24 (decide (v22.1 < v20.1)) h) ⟨I, I, I, I, I, I, I, I, I, I, I, J0⟩ ⟨I, I, I, I, I, I, J0⟩
   have h := hif.2 hc
   refine Zg I I I I I I I <| Zg I I I I I I I <| Zg I I I I I I I <| Zc I I I I (Zy (v := (.bool false)) I I I) I <| Z1 I (Zy (v := (.bool false)) I I I) I <| Z7 ?_
   exact Zz (J24 false h) ⟨I, I, I, I, I, I, I, I, I, I, I, J0⟩ ⟨I, I, I, I, I, I, J0⟩
  have h := hif.2 hc
  refine Zc I I I I (Z9 I I) I <| Zc I I I I (Z1l I o45 I I) I <| Zc I I I I (Z24 (l := a2) (enc := Z6) I s45 I) I <| Zc I I I I (Z1p (k := .i64) (a := 2) (c := (IntKind.i64.wrap (2 * (a2.length : Int)))) I I I I) I <| Zc I I I I (Z1c (c := (decide (v2 < (IntKind.i64.wrap (2 * (a2.length : Int)))))) I I I I) I <| Z1 I (Zy I I I) I <| Z7 <| Z8 ?_
  have hif := Z1h h
  refine Zq I (fun hc => ?_) (fun hc => ?_)
  ·have h := hif.1 hc
   refine Z14 <| Z8 ?_
   refine Z2m (V := Int × Int × (List Z4) × Int × Bool) (lp := fun v => F108_i1_j42 K (Z2y K a1 a2 a899 (Z38 K) k6) v.1 v.2.1 v.2.2.1 v.2.2.2.1 v.2.2.2.2 = some r) (sh := fun v => ⟨[(0, (.yld 1000)), (1, (.ip [(.sl 2 (a1.map Z6) false)])), (2, (.ip [(.sl 2 (a2.map Z6) false)])), (4, (.int .i64 v.1)), (5, (.int .i64 v.2.1))], [(0, (.vec 2 (List.map Z6 v.2.2.1))), (1000, (.loop lr [5, 7, 8, 9] [(.ptr 1001 0), (.ptr 1002 0), (.ptr 1003 0), (.ptr 1004 0)])), (1001, (.box [(.clo 72 [])])), (1002, (.box [(.vs 0)])), (1003, (.box [(.int .i64 v.2.2.2.1)])), (1004, (.box [(.bool v.2.2.2.2)]))]⟩) ?_ ?_
   ·intro v h
    obtain ⟨v37, v38, v39, v40, v41⟩ := v
    try dsimp only at h ⊢
    unfold F108_i1_j42 at h
    exact Zz (IH6 _ (v37, v38, v39, v40, v41) (Nat.lt_succ_self _) h) ⟨I, I, I, I, I, J0⟩ ⟨I, I, I, I, I, I, J0⟩
   intro J42
   refine Zb <| Z5 <| Z1 I (Z1l I o45 I I) I <| Z1 I (Z9 I I) I ?_
   have ⟨v44, hv44, h⟩ := Z1a h
   refine Z1 I (Z1d (ar := [(.sl 2 (a1.map Z6) false), (.int .i64 v1)]) Try.call109 (F109_ok K a1 v1 v44 hv44) I I ⟨I, I, J0⟩ I) I <| Z1 I (Z9 I I) I <| Z1 I (Z20 I I I) I <| Z1 I (Z20 I I I) I <| Z1 I (Zd I I) I <| Z1 I (Zd I I) I <| Z7 <| Z8 <| Zb <| Z5 <| Z1 I (Z1l I o45 I I) I <| Z1 I (Z9 I I) I ?_
   have ⟨v46, hv46, h⟩ := Z1a h
   refine Z1 I (Z1d (ar := [(.sl 2 (a2.map Z6) false), (.int .i64 v2)]) Try.call109 (F109_ok K a2 v2 v46 hv46) I I ⟨I, I, J0⟩ I) I <| Z1 I (Z9 I I) I <| Z1 I (Z20 I I I) I <| Z1 I (Z20 I I I) I <| Z1 I (Zd I I) I <| Z1 I (Zd I I) I <| Z7 <| Z8 <| Zb <| Z5 <| Z1 I (Z9 I I) I <| Z1 I (Zd I I) I <| Z7 <| Z8 <| Zb <| Zb ?_
   refine Z21 (V := Bool) (lp := fun v => F108_i1_j48 K v44 v46 a899 v4 v5 v3 (Z2y K a1 a2 a899 (Z38 K) k6) v2 v1 v = some r) (sh := fun v => ⟨[(0, (.yld 1000)), (1, (.ip [(.sl 2 (a1.map Z6) false)])), (2, (.ip [(.sl 2 (a2.map Z6) false)])), (4, (.int .i64 v1)), (5, (.int .i64 v2)), (6, (.int .i64 v44.1)), (7, (.bool v44.2)), (8, (.int .i64 v46.1)), (9, (.bool v46.2)), (10, (.int .i64 v44.1)), (45, (.bool v))], [(0, (.vec 2 (List.map Z6 v3))), (1000, (.loop lr [5, 7, 8, 9] [(.ptr 1001 0), (.ptr 1002 0), (.ptr 1003 0), (.ptr 1004 0)])), (1001, (.box [(.clo 72 [])])), (1002, (.box [(.vs 0)])), (1003, (.box [(.int .i64 v4)])), (1004, (.box [(.bool v5)]))]⟩) ?_ ?_
   ·intro v h
    revert h
    revert v
    intro v47 h
    try dsimp only at h ⊢
    unfold F108_i1_j48 at h
    refine Z8 ?_
    refine Z21 (V := Int) (lp := fun v => F108_i1_j50 K v44 v46 a899 v4 v5 v3 (Z2y K a1 a2 a899 (Z38 K) k6) v2 v1 v = some r) (sh := fun v => ⟨[(0, (.yld 1000)), (1, (.ip [(.sl 2 (a1.map Z6) false)])), (2, (.ip [(.sl 2 (a2.map Z6) false)])), (4, (.int .i64 v1)), (5, (.int .i64 v2)), (6, (.int .i64 v44.1)), (7, (.bool v44.2)), (8, (.int .i64 v46.1)), (9, (.bool v46.2)), (10, (.int .i64 v))], [(0, (.vec 2 (List.map Z6 v3))), (1000, (.loop lr [5, 7, 8, 9] [(.ptr 1001 0), (.ptr 1002 0), (.ptr 1003 0), (.ptr 1004 0)])), (1001, (.box [(.clo 72 [])])), (1002, (.box [(.vs 0)])), (1003, (.box [(.int .i64 v4)])), (1004, (.box [(.bool v5)]))]⟩) ?_ ?_
    ·intro v h
     revert h
     revert v
     intro v49 h
     try dsimp only at h ⊢
     unfold F108_i1_j50 at h
     refine Z8 <| Zb <| Zb <| Z5 <| Z1 I (Z9 I I) I <| Z1 I (Z9 I I) I ?_
     have hif := Z1h h
     refine Z16 (fun hc => ?_) (fun hc => ?_)
     ·have h := hif.1 hc
      refine Zc I I I I (Z9 I I) I <| Zc I I I I (Z9 I I) I <| Zc I I I I (Z1c (c := (v44.1 == v49)) I I I I) I <| Z1 I (Z19 I I I) I <| Z7 <| Z8 ?_
      refine Z21 (V := Int) (lp := fun v => F108_i1_j52 K v46 v49 a899 v4 v5 v3 (Z2y K a1 a2 a899 (Z38 K) k6) v2 v = some r) (sh := fun v => ⟨[(0, (.yld 1000)), (1, (.ip [(.sl 2 (a1.map Z6) false)])), (2, (.ip [(.sl 2 (a2.map Z6) false)])), (4, (.int .i64 v)), (5, (.int .i64 v2)), (8, (.int .i64 v46.1)), (9, (.bool v46.2)), (10, (.int .i64 v49))], [(0, (.vec 2 (List.map Z6 v3))), (1000, (.loop lr [5, 7, 8, 9] [(.ptr 1001 0), (.ptr 1002 0), (.ptr 1003 0), (.ptr 1004 0)])), (1001, (.box [(.clo 72 [])])), (1002, (.box [(.vs 0)])), (1003, (.box [(.int .i64 v4)])), (1004, (.box [(.bool v5)]))]⟩) ?_ ?_
      ·intro v h
       revert h
       revert v
       intro v51 h
       try dsimp only at h ⊢
       unfold F108_i1_j52 at h
       refine Z8 <| Zb <| Zb <| Z5 <| Z1 I (Z9 I I) I <| Z1 I (Z9 I I) I ?_
       have hif := Z1h h
       refine Z16 (fun hc => ?_) (fun hc => ?_)
       ·have h := hif.1 hc
        refine Zc I I I I (Z9 I I) I <| Zc I I I I (Z9 I I) I <| Zc I I I I (Z1c (c := (v46.1 == v49)) I I I I) I <| Z1 I (Z19 I I I) I <| Z7 <| Z8 ?_
        refine Z21 (V := Int) (lp := fun v => F108_i1_j54 K a899 v49 v51 v4 v5 v3 (Z2y K a1 a2 a899 (Z38 K) k6) v = some r) (sh := fun v => ⟨[(0, (.yld 1000)), (1, (.ip [(.sl 2 (a1.map Z6) false)])), (2, (.ip [(.sl 2 (a2.map Z6) false)])), (4, (.int .i64 v51)), (5, (.int .i64 v)), (10, (.int .i64 v49))], [(0, (.vec 2 (List.map Z6 v3))), (1000, (.loop lr [5, 7, 8, 9] [(.ptr 1001 0), (.ptr 1002 0), (.ptr 1003 0), (.ptr 1004 0)])), (1001, (.box [(.clo 72 [])])), (1002, (.box [(.vs 0)])), (1003, (.box [(.int .i64 v4)])), (1004, (.box [(.bool v5)]))]⟩) ?_ ?_
        ·intro v h
         revert h
         revert v
         intro v53 h
         try dsimp only at h ⊢
         unfold F108_i1_j54 at h
         refine Z8 <| Zb <| Z5 <| Z1 I (Z9 I I) I <| Z1 I (Z9 I I) I <| Z1 I (Z9 I I) I <| Z1 I (Z2s (b := 2) (c := (v51.tmod 2)) I I I I (by decide)) I <| Z1 I (Z1c (b := 1) (c := ((v51.tmod 2) == 1)) I I I I) I <| Z1 I (Z9 I I) I <| Z1 I (Z2s (b := 2) (c := (v53.tmod 2)) I I I I (by decide)) I <| Z1 I (Z1c (b := 1) (c := ((v53.tmod 2) == 1)) I I I I) I <| Z1 I (Z3m (vs := [(0, (.bool ((v51.tmod 2) == 1))), (1, (.bool ((v53.tmod 2) == 1)))]) I ar128 ⟨I, I, I, I, J0⟩ I) I ?_
         have ⟨v55, hv55, h⟩ := Z1a h
         refine Z1 I (Z3k (d := some 72) (ks := [5, 7, 8, 9]) (vs := [(.ptr 1001 0), (.ptr 1002 0), (.ptr 1003 0), (.ptr 1004 0)]) (c := ⟨[(.int .i64 v49), (.ag [(.bool ((v51.tmod 2) == 1)), (.bool ((v53.tmod 2) == 1))])], [(1000, (.loop lr [5, 7, 8, 9] [(.ptr 1001 0), (.ptr 1002 0), (.ptr 1003 0), (.ptr 1004 0)])), (0, (.vec 2 (List.map Z6 v3))), (1001, (.box [(.clo 72 [])])), (1002, (.box [(.vs 0)])), (1003, (.box [(.int .i64 v4)])), (1004, (.box [(.bool v5)]))], .bool true, [(1000, (.loop lr [5, 7, 8, 9] [(.ptr 1001 0), (.ptr 1002 0), (.ptr 1003 0), (.ptr 1004 0)])), (0, (.vec 2 (List.map Z6 v55.2.2))), (1001, (.box [(.clo 72 [])])), (1002, (.box [(.vs 0)])), (1003, (.box [(.int .i64 v55.1)])), (1004, (.box [(.bool v55.2.1)]))], [0]⟩) (ar := [(.int .i64 v49), (.ag [(.bool ((v51.tmod 2) == 1)), (.bool ((v53.tmod 2) == 1))])]) (news := []) (forg := [0]) (hy v49 (⟨((v51.tmod 2) == 1), ((v53.tmod 2) == 1)⟩ : Z2a) v4 v5 v3 _ hv55) I hps I I ⟨I, I, J0⟩ I ⟨I, I, I, I, I, I, J0⟩ I) I <| Z1 I (Z2c I I) I <| Z7 <| Z8 ?_
         refine Zq (b := false) I (fun hc => ?_) (fun hc => ?_)
         ·cases hc
         refine Z14 <| Z27 ?_
         exact Zz (J42 (v51, v53, v55.2.2, v55.1, v55.2.1) h) ⟨I, I, I, I, I, J0⟩ ⟨I, I, I, I, I, I, J0⟩
        intro J54
        have hif := Z1h h
        refine Zq I (fun hc => ?_) (fun hc => ?_)
        ·have h := hif.1 hc
         refine Z5 <| Z1 I (Z9 I I) I <| Z1 I (Z1p (k := .i64) (b := 1) (c := (IntKind.i64.wrap (v2 + 1))) I I I I) I <| Z1 I (Zd I I) I <| Z7 ?_
         exact Zz (J54 (IntKind.i64.wrap (v2 + 1)) h) ⟨I, I, I, I, I, I, J0⟩ ⟨I, I, I, I, I, I, J0⟩
        have h := hif.2 hc
        refine Z14 ?_
        exact Zz (J54 v2 h) ⟨I, I, I, I, I, I, J0⟩ ⟨I, I, I, I, I, I, J0⟩
       have h := hif.2 hc
       refine Zg I I I I I I I <| Zg I I I I I I I <| Zg I I I I I I I <| Z1 I (Zy (v := (.bool false)) I I I) I <| Z7 <| Z8 ?_
       refine Zq (b := false) I (fun hc => ?_) (fun hc => ?_)
       ·cases hc
       refine Z14 <| Z8 <| Zb <| Z5 <| Z1 I (Z9 I I) I <| Z1 I (Z9 I I) I <| Z1 I (Z9 I I) I <| Z1 I (Z2s (b := 2) (c := (v51.tmod 2)) I I I I (by decide)) I <| Z1 I (Z1c (b := 1) (c := ((v51.tmod 2) == 1)) I I I I) I <| Z1 I (Z9 I I) I <| Z1 I (Z2s (b := 2) (c := (v2.tmod 2)) I I I I (by decide)) I <| Z1 I (Z1c (b := 1) (c := ((v2.tmod 2) == 1)) I I I I) I <| Z1 I (Z3m (vs := [(0, (.bool ((v51.tmod 2) == 1))), (1, (.bool ((v2.tmod 2) == 1)))]) I ar128 ⟨I, I, I, I, J0⟩ I) I ?_
       have ⟨v56, hv56, h⟩ := Z1a h
       refine Z1 I (Z3k (d := some 72) (ks := [5, 7, 8, 9]) (vs := [(.ptr 1001 0), (.ptr 1002 0), (.ptr 1003 0), (.ptr 1004 0)]) (c := ⟨[(.int .i64 v49), (.ag [(.bool ((v51.tmod 2) == 1)), (.bool ((v2.tmod 2) == 1))])], [(1000, (.loop lr [5, 7, 8, 9] [(.ptr 1001 0), (.ptr 1002 0), (.ptr 1003 0), (.ptr 1004 0)])), (0, (.vec 2 (List.map Z6 v3))), (1001, (.box [(.clo 72 [])])), (1002, (.box [(.vs 0)])), (1003, (.box [(.int .i64 v4)])), (1004, (.box [(.bool v5)]))], .bool true, [(1000, (.loop lr [5, 7, 8, 9] [(.ptr 1001 0), (.ptr 1002 0), (.ptr 1003 0), (.ptr 1004 0)])), (0, (.vec 2 (List.map Z6 v56.2.2))), (1001, (.box [(.clo 72 [])])), (1002, (.box [(.vs 0)])), (1003, (.box [(.int .i64 v56.1)])), (1004, (.box [(.bool v56.2.1)]))], [0]⟩) (ar := [(.int .i64 v49), (.ag [(.bool ((v51.tmod 2) == 1)), (.bool ((v2.tmod 2) == 1))])]) (news := []) (forg := [0]) (hy v49 (⟨((v51.tmod 2) == 1), ((v2.tmod 2) == 1)⟩ : Z2a) v4 v5 v3 _ hv56) I hps I I ⟨I, I, J0⟩ I ⟨I, I, I, I, I, I, J0⟩ I) I <| Z1 I (Z2c I I) I <| Z7 <| Z8 ?_
       refine Zq (b := false) I (fun hc => ?_) (fun hc => ?_)
       ·cases hc
       refine Z14 <| Z27 ?_
       exact Zz (J42 (v51, v2, v56.2.2, v56.1, v56.2.1) h) ⟨I, I, I, I, I, J0⟩ ⟨I, I, I, I, I, I, J0⟩
      intro J52
      have hif := Z1h h
      refine Zq I (fun hc => ?_) (fun hc => ?_)
      ·have h := hif.1 hc
       refine Z5 <| Z1 I (Z9 I I) I <| Z1 I (Z1p (k := .i64) (b := 1) (c := (IntKind.i64.wrap (v1 + 1))) I I I I) I <| Z1 I (Zd I I) I <| Z7 ?_
       exact Zz (J52 (IntKind.i64.wrap (v1 + 1)) h) ⟨I, I, I, I, I, I, I, I, J0⟩ ⟨I, I, I, I, I, I, J0⟩
      have h := hif.2 hc
      refine Z14 ?_
      exact Zz (J52 v1 h) ⟨I, I, I, I, I, I, I, I, J0⟩ ⟨I, I, I, I, I, I, J0⟩
     have h := hif.2 hc
     refine Zg I I I I I I I <| Zg I I I I I I I <| Zg I I I I I I I <| Z1 I (Zy (v := (.bool false)) I I I) I <| Z7 <| Z8 ?_
     refine Zq (b := false) I (fun hc => ?_) (fun hc => ?_)
     ·cases hc
     refine Z14 <| Z8 <| Zb <| Zb <| Z5 <| Z1 I (Z9 I I) I <| Z1 I (Z9 I I) I ?_
     have hif := Z1h h
     refine Z16 (fun hc => ?_) (fun hc => ?_)
     ·have h := hif.1 hc
      refine Zc I I I I (Z9 I I) I <| Zc I I I I (Z9 I I) I <| Zc I I I I (Z1c (c := (v46.1 == v49)) I I I I) I <| Z1 I (Z19 I I I) I <| Z7 <| Z8 ?_
      refine Z21 (V := Int) (lp := fun v => F108_i1_j58 K a899 v49 v1 v4 v5 v3 (Z2y K a1 a2 a899 (Z38 K) k6) v = some r) (sh := fun v => ⟨[(0, (.yld 1000)), (1, (.ip [(.sl 2 (a1.map Z6) false)])), (2, (.ip [(.sl 2 (a2.map Z6) false)])), (4, (.int .i64 v1)), (5, (.int .i64 v)), (10, (.int .i64 v49))], [(0, (.vec 2 (List.map Z6 v3))), (1000, (.loop lr [5, 7, 8, 9] [(.ptr 1001 0), (.ptr 1002 0), (.ptr 1003 0), (.ptr 1004 0)])), (1001, (.box [(.clo 72 [])])), (1002, (.box [(.vs 0)])), (1003, (.box [(.int .i64 v4)])), (1004, (.box [(.bool v5)]))]⟩) ?_ ?_
      ·intro v h
       revert h
       revert v
       intro v57 h
       try dsimp only at h ⊢
       unfold F108_i1_j58 at h
       refine Z8 <| Zb <| Z5 <| Z1 I (Z9 I I) I <| Z1 I (Z9 I I) I <| Z1 I (Z9 I I) I <| Z1 I (Z2s (b := 2) (c := (v1.tmod 2)) I I I I (by decide)) I <| Z1 I (Z1c (b := 1) (c := ((v1.tmod 2) == 1)) I I I I) I <| Z1 I (Z9 I I) I <| Z1 I (Z2s (b := 2) (c := (v57.tmod 2)) I I I I (by decide)) I <| Z1 I (Z1c (b := 1) (c := ((v57.tmod 2) == 1)) I I I I) I <| Z1 I (Z3m (vs := [(0, (.bool ((v1.tmod 2) == 1))), (1, (.bool ((v57.tmod 2) == 1)))]) I ar128 ⟨I, I, I, I, J0⟩ I) I ?_
       have ⟨v59, hv59, h⟩ := Z1a h
       refine Z1 I (Z3k (d := some 72) (ks := [5, 7, 8, 9]) (vs := [(.ptr 1001 0), (.ptr 1002 0), (.ptr 1003 0), (.ptr 1004 0)]) (c := ⟨[(.int .i64 v49), (.ag [(.bool ((v1.tmod 2) == 1)), (.bool ((v57.tmod 2) == 1))])], [(1000, (.loop lr [5, 7, 8, 9] [(.ptr 1001 0), (.ptr 1002 0), (.ptr 1003 0), (.ptr 1004 0)])), (0, (.vec 2 (List.map Z6 v3))), (1001, (.box [(.clo 72 [])])), (1002, (.box [(.vs 0)])), (1003, (.box [(.int .i64 v4)])), (1004, (.box [(.bool v5)]))], .bool true, [(1000, (.loop lr [5, 7, 8, 9] [(.ptr 1001 0), (.ptr 1002 0), (.ptr 1003 0), (.ptr 1004 0)])), (0, (.vec 2 (List.map Z6 v59.2.2))), (1001, (.box [(.clo 72 [])])), (1002, (.box [(.vs 0)])), (1003, (.box [(.int .i64 v59.1)])), (1004, (.box [(.bool v59.2.1)]))], [0]⟩) (ar := [(.int .i64 v49), (.ag [(.bool ((v1.tmod 2) == 1)), (.bool ((v57.tmod 2) == 1))])]) (news := []) (forg := [0]) (hy v49 (⟨((v1.tmod 2) == 1), ((v57.tmod 2) == 1)⟩ : Z2a) v4 v5 v3 _ hv59) I hps I I ⟨I, I, J0⟩ I ⟨I, I, I, I, I, I, J0⟩ I) I <| Z1 I (Z2c I I) I <| Z7 <| Z8 ?_
       refine Zq (b := false) I (fun hc => ?_) (fun hc => ?_)
       ·cases hc
       refine Z14 <| Z27 ?_
       exact Zz (J42 (v1, v57, v59.2.2, v59.1, v59.2.1) h) ⟨I, I, I, I, I, J0⟩ ⟨I, I, I, I, I, I, J0⟩
      intro J58
      have hif := Z1h h
      refine Zq I (fun hc => ?_) (fun hc => ?_)
      ·have h := hif.1 hc
       refine Z5 <| Z1 I (Z9 I I) I <| Z1 I (Z1p (k := .i64) (b := 1) (c := (IntKind.i64.wrap (v2 + 1))) I I I I) I <| Z1 I (Zd I I) I <| Z7 ?_
       exact Zz (J58 (IntKind.i64.wrap (v2 + 1)) h) ⟨I, I, I, I, I, I, J0⟩ ⟨I, I, I, I, I, I, J0⟩
      have h := hif.2 hc
      refine Z14 ?_
      exact Zz (J58 v2 h) ⟨I, I, I, I, I, I, J0⟩ ⟨I, I, I, I, I, I, J0⟩
     have h := hif.2 hc
     refine Zg I I I I I I I <| Zg I I I I I I I <| Zg I I I I I I I <| Z1 I (Zy (v := (.bool false)) I I I) I <| Z7 <| Z8 ?_
     refine Zq (b := false) I (fun hc => ?_) (fun hc => ?_)
     ·cases hc
     refine Z14 <| Z8 <| Zb <| Z5 <| Z1 I (Z9 I I) I <| Z1 I (Z9 I I) I <| Z1 I (Z9 I I) I <| Z1 I (Z2s (b := 2) (c := (v1.tmod 2)) I I I I (by decide)) I <| Z1 I (Z1c (b := 1) (c := ((v1.tmod 2) == 1)) I I I I) I <| Z1 I (Z9 I I) I <| Z1 I (Z2s (b := 2) (c := (v2.tmod 2)) I I I I (by decide)) I <| Z1 I (Z1c (b := 1) (c := ((v2.tmod 2) == 1)) I I I I) I <| Z1 I (Z3m (vs := [(0, (.bool ((v1.tmod 2) == 1))), (1, (.bool ((v2.tmod 2) == 1)))]) I ar128 ⟨I, I, I, I, J0⟩ I) I ?_
     have ⟨v60, hv60, h⟩ := Z1a h
     refine Z1 I (Z3k (d := some 72) (ks := [5, 7, 8, 9]) (vs := [(.ptr 1001 0), (.ptr 1002 0), (.ptr 1003 0), (.ptr 1004 0)]) (c := ⟨[(.int .i64 v49), (.ag [(.bool ((v1.tmod 2) == 1)), (.bool ((v2.tmod 2) == 1))])], [(1000, (.loop lr [5, 7, 8, 9] [(.ptr 1001 0), (.ptr 1002 0), (.ptr 1003 0), (.ptr 1004 0)])), (0, (.vec 2 (List.map Z6 v3))), (1001, (.box [(.clo 72 [])])), (1002, (.box [(.vs 0)])), (1003, (.box [(.int .i64 v4)])), (1004, (.box [(.bool v5)]))], .bool true, [(1000, (.loop lr [5, 7, 8, 9] [(.ptr 1001 0), (.ptr 1002 0), (.ptr 1003 0), (.ptr 1004 0)])), (0, (.vec 2 (List.map Z6 v60.2.2))), (1001, (.box [(.clo 72 [])])), (1002, (.box [(.vs 0)])), (1003, (.box [(.int .i64 v60.1)])), (1004, (.box [(.bool v60.2.1)]))], [0]⟩) (ar := [(.int .i64 v49), (.ag [(.bool ((v1.tmod 2) == 1)), (.bool ((v2.tmod 2) == 1))])]) (news := []) (forg := [0]) (hy v49 (⟨((v1.tmod 2) == 1), ((v2.tmod 2) == 1)⟩ : Z2a) v4 v5 v3 _ hv60) I hps I I ⟨I, I, J0⟩ I ⟨I, I, I, I, I, I, J0⟩ I) I <| Z1 I (Z2c I I) I <| Z7 <| Z8 ?_
     refine Zq (b := false) I (fun hc => ?_) (fun hc => ?_)
     ·cases hc
     refine Z14 <| Z27 ?_
     exact Zz (J42 (v1, v2, v60.2.2, v60.1, v60.2.1) h) ⟨I, I, I, I, I, J0⟩ ⟨I, I, I, I, I, I, J0⟩
    intro J50
    have hif := Z1h h
    refine Zq I (fun hc => ?_) (fun hc => ?_)
    ·have h := hif.1 hc
     refine Z5 <| Z1 I (Z9 I I) I <| Z1 I (Zd I I) I <| Z7 ?_
     exact Zz (J50 v46.1 h) ⟨I, I, I, I, I, I, I, I, I, I, J0⟩ ⟨I, I, I, I, I, I, J0⟩
    have h := hif.2 hc
    refine Z14 ?_
    exact Zz (J50 v44.1 h) ⟨I, I, I, I, I, I, I, I, I, I, J0⟩ ⟨I, I, I, I, I, I, J0⟩
   intro J48
   refine Z5 <| Z1 I (Z9 I I) I <| Z1 I (Z2c I I) I <| Z1 I (Z9 I I) I ?_
   have hif := Z1h h
   refine Z16 (fun hc => ?_) (fun hc => ?_)
   ·have h := hif.1 hc
    refine Zg I I I I I I I <| Zg I I I I I I I <| Zg (u := .tup []) I I I I I I I <| Zg (u := .tup []) I I I I I I I <| Zg (u := .tup []) I I I I I I I <| Zg I I I I I I I <| Z1 I (Z19 (v := (.bool true)) I I I) I <| Z7 ?_
    exact Zz (J48 true h) ⟨I, I, I, I, I, I, I, I, I, I, I, J0⟩ ⟨I, I, I, I, I, I, J0⟩
   have h := hif.2 hc
   refine Zc I I I I (Z9 I I) I <| Zc I I I I (Z9 I I) I ?_
   have hif := Z1h h
   refine Z16 (fun hc => ?_) (fun hc => ?_)
   ·have h := hif.1 hc
    refine Zc I I I I (Z9 I I) I <| Zc I I I I (Z9 I I) I <| Zc I I I I (Z1c (c := (decide (v46.1 < v44.1))) I I I I) I <| Zc I I I I (Z19 I I I) I <| Z1 I (Zy I I I) I <| Z7 ?_
    exact Zz (J48 (decide (v46.1 < v44.1)) h) ⟨I, I, I, I, I, I, I, I, I, I, I, J0⟩ ⟨I, I, I, I, I, I, J0⟩
   have h := hif.2 hc
   refine Zg I I I I I I I <| Zg I I I I I I I <| Zg I I I I I I I <| Zc I I I I (Zy (v := (.bool false)) I I I) I <| Z1 I (Zy (v := (.bool false)) I I I) I <| Z7 ?_
   exact Zz (J48 false h) ⟨I, I, I, I, I, I, I, I, I, I, I, J0⟩ ⟨I, I, I, I, I, I, J0⟩
  have h := hif.2 hc
  refine Z1u <| Z26 ?_
  exact Zz (J6 (v3, v4, v5) h) J0 ⟨I, I, I, I, I, I, J0⟩
def F70_i1_j14 (_K : Nat) (v11 : Bool) (v12 : Int) (v13 : (List Z4)) : Option (Int × Bool × (List Z4)) :=
 some (v12, v11, v13)
def F70_i1_j17 (K : Nat) (v11 : Bool) (v15 : Int) (v16 : (List Z4)) : Option (Int × Bool × (List Z4)) :=
 F70_i1_j14 K v11 v15 v16
def F70_i1_j20 (K : Nat) (v11 : Bool) (v3 : Int) (v19 : (List Z4)) : Option (Int × Bool × (List Z4)) :=
 F70_i1_j14 K v11 v3 v19
def F70_i1_y22 (K : Nat) (x6 : Int) (x7 : Z2a) (v3 : Int) (v4 : Bool) (v5 : (List Z4)) : Option (Int × Bool × (List Z4)) :=
 if (0 : Int) ≤ 0 ∧ (0 : Int) < (2 : Nat) then
 if (0 : Int) ≤ 1 ∧ (1 : Int) < (2 : Nat) then
 (F72 K (([x7.e0, x7.e1] : List Bool).getD (0 : Int).toNat false) (([x7.e0, x7.e1] : List Bool).getD (1 : Int).toNat false)).bind fun v11 =>
 if v11 = true then
 if (!v4) = true then
 F70_i1_j17 K v11 x6 v5
 else
 if (!v11) = true then
 if v4 = true then
 if v5.length + [(⟨v3, x6⟩ : Z4)].length ≤ 1073741824 then
 F70_i1_j17 K v11 v3 (v5 ++ [(⟨v3, x6⟩ : Z4)])
 else none
 else
 F70_i1_j17 K v11 v3 v5
 else
 F70_i1_j17 K v11 v3 v5
 else
 if (!v11) = true then
 if v4 = true then
 if v5.length + [(⟨v3, x6⟩ : Z4)].length ≤ 1073741824 then
 F70_i1_j20 K v11 v3 (v5 ++ [(⟨v3, x6⟩ : Z4)])
 else none
 else
 F70_i1_j20 K v11 v3 v5
 else
 F70_i1_j14 K v11 v3 v5
 else none
 else none
def F70_i1 (K : Nat) (a0 : (List Z4)) (a1 : (List Z4)) : Option ((List Z4)) :=
 (F86 K a0 a1).bind fun v2 =>
 (F108_i1 K (F70_i1_y22 K) 0 false [] v2.1 v2.2).bind fun v23 =>
 some v23.2.2
theorem F70_i1_ok (K : Nat) (a0 : (List Z4)) (a1 : (List Z4)) (r : (List Z4)) (h : F70_i1 K a0 a1 = some r) : ACall P 70 ⟨[(.sl 2 (a0.map Z6) false), (.sl 2 (a1.map Z6) false), (.clo 72 [])], [], (.sl 2 (r.map Z6) false), [], []⟩ := by
 refine Z1v Try.func70 Try.results70 rfl Try.ntmps70 rfl rfl rfl ?_
 intro E Q hP hN hro hret
 obtain ⟨P', nt', w0, F0, p0, S0, β0, ro0⟩ := E
 simp only at hP hN
 subst hP hN
 dsimp only [argT]
 unfold F70_i1 at h
 refine Zb <| Z5 <| Z1 I (Z2r I I I I I) I <| Z1 I (Zd (v := (.sl 2 [] false)) I I) I <| Z7 <| Z8 <| Zb <| Z5 <| Z1 I (Z1x I z45f I I I) I <| Z7 <| Z8 <| Zb <| Z5 <| Z1 I (Z1x I z3 I I I) I <| Z1 I (Z1x I z4 I I I) I <| Z1 I (Z1f (cs := [(.int .i64 0)]) (vs := [(.int .i64 0)]) (ds := [(.int .i64 0)]) (v := (.int .i64 0)) sz3 I I I I I I I I) I <| Z1 I (Z1f (cs := [(.bool false)]) (vs := [(.bool false)]) (ds := [(.bool false)]) (v := (.bool false)) sz4 I I I I I I I I) I <| Z7 <| Z8 <| Zb <| Zb <| Z5 <| Z1 I (Z9 I I) I <| Z1 I (Z9 I I) I ?_
 have ⟨v2, hv2, h⟩ := Z1a h
 refine Z1 I (Z1d (ar := [(.sl 2 (a0.map Z6) false), (.sl 2 (a1.map Z6) false)]) Try.call86 (F86_ok K a0 a1 v2 hv2) I I ⟨I, I, J0⟩ I) I <| Z7 <| Z8 <| Z1t <| Z2p (st' := ⟨[(5, (.ptr 5 0)), (7, (.ptr 7 0)), (8, (.ptr 8 0)), (9, (.ptr 9 0)), (15, (.clo 108 [(.ip [(.sl 2 (v2.1.map Z6) false)]), (.ip [(.sl 2 (v2.2.map Z6) false)])]))], [(5, (.box [(.clo 72 [])])), (7, (.box [(.vs 44)])), (8, (.box [(.int .i64 0)])), (9, (.box [(.bool false)])), (44, (.vec 2 (List.map Z6 ([] : List Z4))))]⟩) (fun a w h => (Z1k _ (Z3l (n := 7) (m := 44) (sz := 2) (j := 0) I I I a w (Z1k ⟨[(5, (.ptr 5 0)), (7, (.ptr 7 0)), (8, (.ptr 8 0)), (9, (.ptr 9 0)), (15, (.clo 108 [(.ip [(.sl 2 (v2.1.map Z6) false)]), (.ip [(.sl 2 (v2.2.map Z6) false)])]))], [(7, (.box [(.sl 2 [] true)])), (5, (.box [(.clo 72 [])])), (8, (.box [(.int .i64 0)])), (9, (.box [(.bool false)]))]⟩ h ⟨I, I, I, I, I, J0⟩ ⟨I, I, I, I, J0⟩)) ⟨I, I, I, I, I, J0⟩ ⟨I, I, I, I, I, J0⟩)) ?_
 have ⟨v23, hv23, h⟩ := Z1a h
 refine Z1r (st' := ⟨[(5, (.ptr 5 0)), (7, (.ptr 7 0)), (8, (.ptr 8 0)), (9, (.ptr 9 0)), (15, (.clo 108 [(.ip [(.sl 2 (v2.1.map Z6) false)]), (.ip [(.sl 2 (v2.2.map Z6) false)])]))], [(5, (.box [(.clo 72 [])])), (7, (.box [(.vs 44)])), (8, (.box [(.int .i64 0)])), (9, (.box [(.bool false)])), (44, (.vec 2 (List.map Z6 [])))]⟩) ⟨I, I, I, I, I, J0⟩ ⟨I, I, I, I, I, J0⟩ ?_
 refine AWp.rangeFunc (n := 1) (f := 108) (caps := [(.ip [(.sl 2 (v2.1.map Z6) false)]), (.ip [(.sl 2 (v2.2.map Z6) false)])]) (ks := [5, 7, 8, 9]) (vs := [(.ptr 5 0), (.ptr 7 0), (.ptr 8 0), (.ptr 9 0)]) (ins := [(44, (.vec 2 (List.map Z6 []))), (5, (.box [(.clo 72 [])])), (7, (.box [(.vs 44)])), (8, (.box [(.int .i64 0)])), (9, (.box [(.bool false)]))]) (outs := [(44, (.vec 2 (List.map Z6 v23.2.2))), (5, (.box [(.clo 72 [])])), (7, (.box [(.vs 44)])), (8, (.box [(.int .i64 v23.1)])), (9, (.box [(.bool v23.2.1)]))]) (res := .tup []) (mv := [44]) (forg := [44]) (jump := none) hro Try.call108 I I I I ⟨I, I, I, I, J0⟩ ⟨I, I, I, I, I, J0⟩ I I I I (fun lr hst hpe hpr has hbd hsz => ?_) (fun _ => ?_) (fun c hc => by cases hc)
 ·have hend := endRec_self hst hpe
  rw [hend]
  have hps : lr.params.size = 2 ∧ True := ⟨by rw [hpr]; rfl, trivial⟩
  have hy : ∀ (x6 : Int) (x7 : Z2a) (v3 : Int) (v4 : Bool) (v5 : (List Z4)) (w : Int × Bool × (List Z4)), F70_i1_y22 K x6 x7 v3 v4 v5 = some w → YCall P lr 1000 ⟨[(.int .i64 x6), (e_A2_Bool x7)], [(1000, .loop lr [5, 7, 8, 9] [(.ptr 1001 0), (.ptr 1002 0), (.ptr 1003 0), (.ptr 1004 0)]), (0, (.vec 2 (List.map Z6 v5))), (1001, (.box [(.clo 72 [])])), (1002, (.box [(.vs 0)])), (1003, (.box [(.int .i64 v3)])), (1004, (.box [(.bool v4)]))], .bool true, [(1000, .loop lr [5, 7, 8, 9] [(.ptr 1001 0), (.ptr 1002 0), (.ptr 1003 0), (.ptr 1004 0)]), (0, (.vec 2 (List.map Z6 w.2.2))), (1001, (.box [(.clo 72 [])])), (1002, (.box [(.vs 0)])), (1003, (.box [(.int .i64 w.1)])), (1004, (.box [(.bool w.2.1)]))], [0]⟩ := by
   intro x6 x7 v3 v4 v5 r h
   unfold F70_i1_y22 at h
   refine ycall_of (ks := [5, 7, 8, 9]) (vs := [(.ptr 1001 0), (.ptr 1002 0), (.ptr 1003 0), (.ptr 1004 0)]) (ps := [16, 17]) rfl hst hsz hpr rfl (by decide) rfl rfl rfl ?_
   intro E Qa Qb hP hN hmid hfin
   obtain ⟨P', nt', w0, F0, p0, S0, β0, ro0⟩ := E
   simp only at hP hN
   subst hP hN
   refine AWp.code has ?_
   dsimp only [List.zip, List.zipWith, List.cons_append, List.nil_append]
   refine Zb <| Z5 <| Z1 I (Zd I I) I <| Z7 <| Z8 <| Z5 <| Z1 I (Z1x I z128 I I I) I <| Z1 I (Z1f sz128 I I I I I I I I) I <| Z7 ?_
   refine hmid _ _ _ rfl ?_
   refine AWp.code hbd <| Z1t <| Zb <| Z5 <| Z1 I (Zs I o112 I I I) I <| Z3b (st' := ⟨[(5, (.ptr 1001 0)), (7, (.ptr 1002 0)), (8, (.ptr 1003 0)), (9, (.ptr 1004 0)), (10, (.int .i64 x6)), (11, (.ip (e_A2_Bool x7).cells)), (18, (.clo 72 []))], [(0, (.vec 2 (List.map Z6 v5))), (1000, (.loop { lr with state := .busy } [5, 7, 8, 9] [(.ptr 1001 0), (.ptr 1002 0), (.ptr 1003 0), (.ptr 1004 0)])), (1001, (.box [(.clo 72 [])])), (1002, (.box [(.vs 0)])), (1003, (.box [(.int .i64 v3)])), (1004, (.box [(.bool v4)]))]⟩) (fun a w h => (Z1k _ (Z34 (m := 11) (cs := (e_A2_Bool x7).cells) I a w (Z1k ⟨[(5, (.ptr 1001 0)), (7, (.ptr 1002 0)), (8, (.ptr 1003 0)), (9, (.ptr 1004 0)), (10, (.int .i64 x6)), (11, (.ptr 11 0)), (18, (.clo 72 []))], [(11, (.box (e_A2_Bool x7).cells)), (0, (.vec 2 (List.map Z6 v5))), (1000, (.loop { lr with state := .busy } [5, 7, 8, 9] [(.ptr 1001 0), (.ptr 1002 0), (.ptr 1003 0), (.ptr 1004 0)])), (1001, (.box [(.clo 72 [])])), (1002, (.box [(.vs 0)])), (1003, (.box [(.int .i64 v3)])), (1004, (.box [(.bool v4)]))]⟩ h ⟨I, I, I, I, I, I, I, J0⟩ ⟨I, I, I, I, I, I, I, J0⟩)) ⟨I, I, I, I, I, I, I, J0⟩ ⟨I, I, I, I, I, I, J0⟩)) ?_
   have ⟨hg8, h⟩ := Zw h
   refine Z1 I (Z2h (k := .i64) (j := (0 : Int)) (l := [x7.e0, x7.e1]) (enc := Z3a) (z := false) (ds := [(.bool (([x7.e0, x7.e1] : List Bool).getD (0 : Int).toNat false))]) I u128 sz4 I I I I els_bool hg8 I) I <| Z1 I (Z1l I o4 I I) I ?_
   have ⟨hg9, h⟩ := Zw h
   refine Z1 I (Z2h (k := .i64) (j := (1 : Int)) (l := [x7.e0, x7.e1]) (enc := Z3a) (z := false) (ds := [(.bool (([x7.e0, x7.e1] : List Bool).getD (1 : Int).toNat false))]) I u128 sz4 I I I I els_bool hg9 I) I <| Z1 I (Z1l I o4 I I) I ?_
   have ⟨v11, hv11, h⟩ := Z1a h
   refine Z1 I (Z1d (ar := [(.bool (([x7.e0, x7.e1] : List Bool).getD (0 : Int).toNat false)), (.bool (([x7.e0, x7.e1] : List Bool).getD (1 : Int).toNat false))]) Try.call72 (F72_ok K (([x7.e0, x7.e1] : List Bool).getD (0 : Int).toNat false) (([x7.e0, x7.e1] : List Bool).getD (1 : Int).toNat false) v11 hv11) I I ⟨I, I, J0⟩ I) I <| Z1 I (Zd I I) I <| Z7 <| Z8 <| Zb ?_
   refine Z2m (V := Int × (List Z4)) (lp := fun v => F70_i1_j14 K v11 v.1 v.2 = some r) (sh := fun v => ⟨[(5, (.ptr 1001 0)), (7, (.ptr 1002 0)), (8, (.ptr 1003 0)), (9, (.ptr 1004 0)), (12, (.bool v11))], [(0, (.vec 2 (List.map Z6 v.2))), (1000, (.loop { lr with state := .busy } [5, 7, 8, 9] [(.ptr 1001 0), (.ptr 1002 0), (.ptr 1003 0), (.ptr 1004 0)])), (1001, (.box [(.clo 72 [])])), (1002, (.box [(.vs 0)])), (1003, (.box [(.int .i64 v.1)])), (1004, (.box [(.bool v4)]))]⟩) ?_ ?_
   ·intro v h
    obtain ⟨v12, v13⟩ := v
    try dsimp only at h ⊢
    unfold F70_i1_j14 at h
    refine Z8 <| Z5 <| Z1 I (Z9 I I) I <| Z1 I (Z1f sz4 I I I I I I I I) I <| Z7 <| Z27 ?_
    have h := Option.some.inj h
    subst h
    refine hfin _ _ _ none .normal rfl rfl rfl ?_
    rw [hend]
    exact ⟨I, I, I, I, I, I, J0⟩
   intro J14
   refine Zb <| Z5 <| Z1 I (Z9 I I) I <| Z1 I (Z9 I I) I ?_
   have hif := Z1h h
   refine Z16 (fun hc => ?_) (fun hc => ?_)
   ·have h := hif.1 hc
    refine Zc I I I I (Zs I o4 I I I) I <| Zc I I I I (Z2c I I) I <| Z1 I (Z19 I I I) I <| Z1 I (Zd I I) I <| Z7 <| Z8 ?_
    refine Z21 (V := Int × (List Z4)) (lp := fun v => F70_i1_j17 K v11 v.1 v.2 = some r) (sh := fun v => ⟨[(5, (.ptr 1001 0)), (7, (.ptr 1002 0)), (8, (.ptr 1003 0)), (9, (.ptr 1004 0)), (12, (.bool v11))], [(0, (.vec 2 (List.map Z6 v.2))), (1000, (.loop { lr with state := .busy } [5, 7, 8, 9] [(.ptr 1001 0), (.ptr 1002 0), (.ptr 1003 0), (.ptr 1004 0)])), (1001, (.box [(.clo 72 [])])), (1002, (.box [(.vs 0)])), (1003, (.box [(.int .i64 v.1)])), (1004, (.box [(.bool v4)]))]⟩) ?_ ?_
    ·intro v h
     obtain ⟨v15, v16⟩ := v
     try dsimp only at h ⊢
     unfold F70_i1_j17 at h
     refine Z27 ?_
     exact Zz (J14 (v15, v16) h) ⟨I, I, I, I, I, J0⟩ ⟨I, I, I, I, I, I, J0⟩
    intro J17
    have hif := Z1h h
    refine Zq I (fun hc => ?_) (fun hc => ?_)
    ·have h := hif.1 hc
     refine Z5 <| Z1 I (Z9 I I) I <| Z1 I (Z1f sz3 I I I I I I I I) I <| Z7 ?_
     exact Zz (J17 (x6, v5) h) ⟨I, I, I, I, I, J0⟩ ⟨I, I, I, I, I, I, J0⟩
    have h := hif.2 hc
    refine Zb <| Z5 <| Z1 I (Z9 I I) I <| Z1 I (Z2c I I) I <| Z1 I (Z9 I I) I ?_
    have hif := Z1h h
    refine Z16 (fun hc => ?_) (fun hc => ?_)
    ·have h := hif.1 hc
     refine Zc I I I I (Zs I o4 I I I) I <| Z1 I (Z19 I I I) I <| Z1 I (Zd I I) I <| Z7 <| Z8 ?_
     have hif := Z1h h
     refine Zq I (fun hc => ?_) (fun hc => ?_)
     ·have h := hif.1 hc
      refine Z5 <| Z1 I (Zs I o45 I I I) I <| Z1 I (Zs I o3 I I I) I <| Z1 I (Z9 I I) I <| Z1 I (Z23 (vs := [(0, (.int .i64 v3)), (1, (.int .i64 x6))]) I st40 ⟨I, I, I, I, J0⟩ I) I <| Z1 I (Z1m (vs := [(.ag [(.int .i64 v3), (.int .i64 x6)])]) (enc := Z6) (l := [(⟨v3, x6⟩ : Z4)]) I el45 I I ⟨I, J0⟩ I Z2u I I I I) I ?_
      have ⟨hg18, h⟩ := Zw h
      refine Z1 I (Z2d (m := 0) (enc := Z6) (l := v5) (l' := [(⟨v3, x6⟩ : Z4)]) (src := (.vs 41)) (rd := [(41, (.vec 2 (List.map Z6 [(⟨v3, x6⟩ : Z4)])))]) I I el45 I u45 I I I I (oneRead I) Z2u hg18) I <| Z1 I (Z1f sz45 I I I I I I I I) I <| Z7 ?_
      exact Zz (J17 (v3, (v5 ++ [(⟨v3, x6⟩ : Z4)])) h) ⟨I, I, I, I, I, J0⟩ ⟨I, I, I, I, I, I, J0⟩
     have h := hif.2 hc
     refine Z14 ?_
     exact Zz (J17 (v3, v5) h) ⟨I, I, I, I, I, J0⟩ ⟨I, I, I, I, I, I, J0⟩
    have h := hif.2 hc
    refine Zg I I I I I I I <| Z1 I (Zy (v := (.bool false)) I I I) I <| Z1 I (Zd (v := (.bool false)) I I) I <| Z7 <| Z8 ?_
    refine Zq (b := false) I (fun hc => ?_) (fun hc => ?_)
    ·cases hc
    refine Z14 ?_
    exact Zz (J17 (v3, v5) h) ⟨I, I, I, I, I, J0⟩ ⟨I, I, I, I, I, I, J0⟩
   have h := hif.2 hc
   refine Zg I I I I I I I <| Zg I I I I I I I <| Z1 I (Zy (v := (.bool false)) I I I) I <| Z1 I (Zd (v := (.bool false)) I I) I <| Z7 <| Z8 ?_
   refine Zq (b := false) I (fun hc => ?_) (fun hc => ?_)
   ·cases hc
   refine Zb <| Z5 <| Z1 I (Z9 I I) I <| Z1 I (Z2c I I) I <| Z1 I (Z9 I I) I ?_
   have hif := Z1h h
   refine Z16 (fun hc => ?_) (fun hc => ?_)
   ·have h := hif.1 hc
    refine Zc I I I I (Zs I o4 I I I) I <| Z1 I (Z19 I I I) I <| Z1 I (Zd I I) I <| Z7 <| Z8 ?_
    refine Z21 (V := (List Z4)) (lp := fun v => F70_i1_j20 K v11 v3 v = some r) (sh := fun v => ⟨[(5, (.ptr 1001 0)), (7, (.ptr 1002 0)), (8, (.ptr 1003 0)), (9, (.ptr 1004 0)), (12, (.bool v11))], [(0, (.vec 2 (List.map Z6 v))), (1000, (.loop { lr with state := .busy } [5, 7, 8, 9] [(.ptr 1001 0), (.ptr 1002 0), (.ptr 1003 0), (.ptr 1004 0)])), (1001, (.box [(.clo 72 [])])), (1002, (.box [(.vs 0)])), (1003, (.box [(.int .i64 v3)])), (1004, (.box [(.bool v4)]))]⟩) ?_ ?_
    ·intro v h
     revert h
     revert v
     intro v19 h
     try dsimp only at h ⊢
     unfold F70_i1_j20 at h
     refine Z27 ?_
     exact Zz (J14 (v3, v19) h) ⟨I, I, I, I, I, J0⟩ ⟨I, I, I, I, I, I, J0⟩
    intro J20
    have hif := Z1h h
    refine Zq I (fun hc => ?_) (fun hc => ?_)
    ·have h := hif.1 hc
     refine Z5 <| Z1 I (Zs I o45 I I I) I <| Z1 I (Zs I o3 I I I) I <| Z1 I (Z9 I I) I <| Z1 I (Z23 (vs := [(0, (.int .i64 v3)), (1, (.int .i64 x6))]) I st40 ⟨I, I, I, I, J0⟩ I) I <| Z1 I (Z1m (vs := [(.ag [(.int .i64 v3), (.int .i64 x6)])]) (enc := Z6) (l := [(⟨v3, x6⟩ : Z4)]) I el45 I I ⟨I, J0⟩ I Z2u I I I I) I ?_
     have ⟨hg21, h⟩ := Zw h
     refine Z1 I (Z2d (m := 0) (enc := Z6) (l := v5) (l' := [(⟨v3, x6⟩ : Z4)]) (src := (.vs 41)) (rd := [(41, (.vec 2 (List.map Z6 [(⟨v3, x6⟩ : Z4)])))]) I I el45 I u45 I I I I (oneRead I) Z2u hg21) I <| Z1 I (Z1f sz45 I I I I I I I I) I <| Z7 ?_
     exact Zz (J20 (v5 ++ [(⟨v3, x6⟩ : Z4)]) h) ⟨I, I, I, I, I, J0⟩ ⟨I, I, I, I, I, I, J0⟩
    have h := hif.2 hc
    refine Z14 ?_
    exact Zz (J20 v5 h) ⟨I, I, I, I, I, J0⟩ ⟨I, I, I, I, I, I, J0⟩
   have h := hif.2 hc
   refine Zg I I I I I I I <| Z1 I (Zy (v := (.bool false)) I I I) I <| Z1 I (Zd (v := (.bool false)) I I) I <| Z7 <| Z8 ?_
   refine Zq (b := false) I (fun hc => ?_) (fun hc => ?_)
   ·cases hc
   refine Z14 <| Z27 ?_
   exact Zz (J14 (v3, v5) h) ⟨I, I, I, I, I, J0⟩ ⟨I, I, I, I, I, I, J0⟩
  exact ((((((F108_i1_ok K (F70_i1_y22 K) 0 false [] v2.1 v2.2 v23 lr hv23 hps.1 hy).sw 1000 1).sw 0 44).sw 1001 5).sw 1002 7).sw 1003 8).sw 1004 9
 refine At.weaken (st' := ⟨[(5, (.ptr 5 0)), (7, (.ptr 7 0)), (8, (.ptr 8 0)), (9, (.ptr 9 0)), (15, (.clo 108 [(.ip [(.sl 2 (v2.1.map Z6) false)]), (.ip [(.sl 2 (v2.2.map Z6) false)])]))], [(5, (.box [(.clo 72 [])])), (7, (.box [(.vs 44)])), (8, (.box [(.int .i64 v23.1)])), (9, (.box [(.bool v23.2.1)])), (44, (.vec 2 (List.map Z6 v23.2.2)))]⟩) ⟨I, I, I, I, I, J0⟩ ⟨I, I, I, I, I, J0⟩ <| Z27 <| Z8 <| Zb <| Z5 <| Z1 I (Zs I o45 I I I) I <| Z1 I (Zd I I) I <| Z7 <| Z8 <| Z1e <| Z2w (st' := ⟨[(6, (.sl 2 (v23.2.2.map Z6) false))], []⟩) (fun a w h => (Z1k _ (Z22 (m := 44) (sz := 2) (es := (List.map Z6 v23.2.2)) a w (Z1k ⟨[(6, (.vs 44))], [(44, (.vec 2 (List.map Z6 v23.2.2)))]⟩ h ⟨I, J0⟩ ⟨I, J0⟩)) ⟨I, J0⟩ J0)) ?_
 have h := Option.some.inj h
 subst h
 refine (hret _ ?_).1
 exact ⟨[(.sl 2 (v23.2.2.map Z6) false)], ⟨I, J0⟩, I, J0⟩
def F48 (K : Nat) (a0 : (List Z4)) (a1 : (List Z4)) : Option ((List Z4)) :=
 (F70_i1 K a0 a1).bind fun v2 =>
 some v2
theorem F48_ok (K : Nat) (a0 : (List Z4)) (a1 : (List Z4)) (r : (List Z4)) (h : F48 K a0 a1 = some r) : ACall P 48 ⟨[(.sl 2 (a0.map Z6) false), (.sl 2 (a1.map Z6) false)], [], (.sl 2 (r.map Z6) false), [], []⟩ := by
 refine Z1v Try.func48 Try.results48 rfl Try.ntmps48 rfl rfl rfl ?_
 intro E Q hP hN hro hret
 obtain ⟨P', nt', w0, F0, p0, S0, β0, ro0⟩ := E
 simp only at hP hN
 subst hP hN
 dsimp only [argT]
 unfold F48 at h
 refine Zb <| Z5 <| Z1 I (Zd (v := (.sl 2 [] false)) I I) I <| Z7 <| Z8 <| Zb <| Z5 <| Z1 I (Z9 I I) I <| Z1 I (Z9 I I) I ?_
 have ⟨v2, hv2, h⟩ := Z1a h
 refine Z1 I (Z1d (ar := [(.sl 2 (a0.map Z6) false), (.sl 2 (a1.map Z6) false), (.clo 72 [])]) Try.call70 (F70_i1_ok K a0 a1 v2 hv2) I I ⟨I, I, I, J0⟩ I) I <| Z1 I (Zd I I) I <| Z7 <| Z8 <| Z1e ?_
 have h := Option.some.inj h
 subst h
 refine (hret _ ?_).1
 exact ⟨[(.sl 2 (v2.map Z6) false)], ⟨I, J0⟩, I, J0⟩
def F21_c5 (K : Nat) (a1 : Zo) (v4 : (List Z4)) : Option ((List Z4)) :=
 (F48 K [a1.When] v4).bind fun v8 =>
 some v8
def F21_j14 (_K : Nat) (b9 : (List Z4) → Int → Option ((List Z4))) (v2 : Int) (v13 : (List Z4)) : Option ((List Z4)) :=
 b9 v13 (IntKind.i64.wrap (v2 + 1))
def F21_j12 (K : Nat) (v1 : (List Z4)) (a0 : Ze) (v2 : Int) (b9 : (List Z4) → Int → Option ((List Z4))) (v11 : Bool) : Option ((List Z4)) :=
 if v11 = true then
 (F47 K v1 [(a0.Silences.getD v2.toNat Zr).When]).bind fun v16 =>
 F21_j14 K b9 v2 v16
 else
 F21_j14 K b9 v2 v1
def F21_l3 (K : Nat) (a0 : Ze) (a1 : Zo) (c6 : (List Z4) → Option ((List Z4))) : Nat → (List Z4) → Int → Option ((List Z4))
 | 0, _, _ => none
 | k3 + 1, v1, v2 =>
 if (decide (v2 < (a0.Silences.length : Int))) = true then
 if (0 : Int) ≤ v2 ∧ v2 < a0.Silences.length then
 if ((a0.Silences.getD v2.toNat Zr).Rule == []) = true then
 if ((a0.Silences.getD v2.toNat Zr).Service == []) = true then
 F21_j12 K v1 a0 v2 (F21_l3 K a0 a1 c6 k3) true
 else
 F21_j12 K v1 a0 v2 (F21_l3 K a0 a1 c6 k3) ((a0.Silences.getD v2.toNat Zr).Service == a1.Service)
 else
 if ((a0.Silences.getD v2.toNat Zr).Rule == a1.Rule) = true then
 if ((a0.Silences.getD v2.toNat Zr).Service == []) = true then
 F21_j12 K v1 a0 v2 (F21_l3 K a0 a1 c6 k3) true
 else
 F21_j12 K v1 a0 v2 (F21_l3 K a0 a1 c6 k3) ((a0.Silences.getD v2.toNat Zr).Service == a1.Service)
 else
 F21_j12 K v1 a0 v2 (F21_l3 K a0 a1 c6 k3) false
 else none
 else
 c6 v1
def F21 (K : Nat) (a0 : Ze) (a1 : Zo) : Option ((List Z4)) :=
 F21_l3 K a0 a1 (F21_c5 K a1) K [] 0
theorem F21_ok (K : Nat) (a0 : Ze) (a1 : Zo) (r : (List Z4)) (h : F21 K a0 a1 = some r) : ACall P 21 ⟨[(Zf a0), (Zh a1)], [], (.sl 2 (r.map Z6) false), [], []⟩ := by
 refine Z1v Try.func21 Try.results21 rfl Try.ntmps21 rfl rfl rfl ?_
 intro E Q hP hN hro hret
 obtain ⟨P', nt', w0, F0, p0, S0, β0, ro0⟩ := E
 simp only at hP hN
 subst hP hN
 dsimp only [argT]
 unfold F21 at h
 refine Zb <| Z5 <| Z1 I (Z2r I I I I I) I <| Z1 I (Z2r I I I I I) I <| Z1 I (Zd (v := (.sl 2 [] false)) I I) I <| Z7 <| Z8 <| Zb <| Z5 <| Z1 I (Zd (v := (.sl 2 [] false)) I I) I <| Z7 <| Z8 <| Zb <| Zb <| Z5 <| Z1 I (Zm I f34_2 I I) I <| Z1 I (Zs I o31 I I I) I <| Z1 I (Z24 (l := a0.Silences) (enc := Zk) I s31 I) I <| Z1 I (Z9 (v := (.int .i64 0)) I I) I <| Z7 <| Z8 <| Z1r (st' := ⟨[(3, (.ptr 3 0)), (5, (.sl 2 ([].map Z6) false)), (9, (.sl 5 (a0.Silences.map Zk) false)), (10, (.int .i64 (a0.Silences.length : Int))), (11, (.int .i64 0))], [(3, (.box (Zh a1).cells))]⟩) ⟨I, I, I, I, I, J0⟩ ⟨I, J0⟩ ?_
 refine Z1o (V := (List Z4) × Int) (X := (List Z4)) (lp := fun k v => F21_l3 K a0 a1 (F21_c5 K a1) k v.1 v.2 = some r) (sh := fun v => ⟨[(3, (.ptr 3 0)), (5, (.sl 2 (v.1.map Z6) false)), (9, (.sl 5 (a0.Silences.map Zk) false)), (10, (.int .i64 (a0.Silences.length : Int))), (11, (.int .i64 v.2))], [(3, (.box (Zh a1).cells))]⟩) (x := fun v => F21_c5 K a1 v = some r) (shx := fun v => ⟨[(3, (.ptr 3 0)), (5, (.sl 2 (v.map Z6) false))], [(3, (.box (Zh a1).cells))]⟩) (k := K) (v := ([], 0)) h ?_ ?_
 ·intro v h
  revert h
  revert v
  intro v4 h
  try dsimp only at h ⊢
  unfold F21_c5 at h
  refine Z8 <| Zb <| Z5 <| Z1 I (Zm I f42_2 I I) I <| Z1 I (Z1n I a40 I I I I) I <| Z1 I (Z1m (vs := [(Z6 a1.When)]) (enc := Z6) (l := [a1.When]) I el45 I I ⟨I, J0⟩ I Z2u I I I I) I <| Z1 I (Z9 I I) I <| Z3b (st' := ⟨[(45, (.sl 2 ([a1.When].map Z6) false)), (46, (.sl 2 (v4.map Z6) false))], []⟩) (fun a w h => (Z1k _ (Z22 (m := 45) (sz := 2) (es := (List.map Z6 [a1.When])) a w (Z1k ⟨[(45, (.vs 45)), (46, (.sl 2 (v4.map Z6) false))], [(45, (.vec 2 (List.map Z6 [a1.When])))]⟩ h ⟨I, I, J0⟩ ⟨I, J0⟩)) ⟨I, I, J0⟩ J0)) ?_
  have ⟨v8, hv8, h⟩ := Z1a h
  refine Z1 I (Z1d (ar := [(.sl 2 ([a1.When].map Z6) false), (.sl 2 (v4.map Z6) false)]) Try.call48 (F48_ok K [a1.When] v4 v8 hv8) I I ⟨I, I, J0⟩ I) I <| Z1 I (Zd I I) I <| Z7 <| Z8 <| Z1e ?_
  have h := Option.some.inj h
  subst h
  refine (hret _ ?_).1
  exact ⟨[(.sl 2 (v8.map Z6) false)], ⟨I, J0⟩, I, J0⟩
 intro N k3 v h IH3 J3
 obtain ⟨v1, v2⟩ := v
 try dsimp only at h IH3 J3 ⊢
 cases k3 with
 | zero => cases h
 | succ k3 =>
  rw [F21_l3] at h
  refine Zb <| Z5 <| Z1 I (Z1c (c := (decide (v2 < (a0.Silences.length : Int)))) I I I I) I <| Z7 <| Z8 <| Zb ?_
  have hif := Z1h h
  refine Zq I (fun hc => ?_) (fun hc => ?_)
  ·have h := hif.1 hc
   refine Z14 <| Z8 <| Zb <| Z1t <| Zb <| Z5 ?_
   have ⟨hg10, h⟩ := Zw h
   refine Z1 I (Z1s (k := .i64) (l := a0.Silences) (enc := Zk) (z := Zr) (n := v2) (full := false) I s31 I I hg10 I) I <| Z1 I (Z28 I a67 I I I) I <| Z1 I (Z1x I z67 I I I) I <| Z1 I (Z1f sz67 I I I I I I I I) I <| Z7 <| Z8 <| Zb ?_
   refine Z21 (V := Bool) (lp := fun v => F21_j12 K v1 a0 v2 (F21_l3 K a0 a1 (F21_c5 K a1) k3) v = some r) (sh := fun v => ⟨[(3, (.ptr 3 0)), (5, (.sl 2 (v1.map Z6) false)), (7, (.ptr 7 0)), (9, (.sl 5 (a0.Silences.map Zk) false)), (10, (.int .i64 (a0.Silences.length : Int))), (11, (.int .i64 v2)), (36, (.bool v))], [(3, (.box (Zh a1).cells)), (7, (.box (Zk (a0.Silences.getD v2.toNat Zr)).cells))]⟩) ?_ ?_
   ·intro v h
    revert h
    revert v
    intro v11 h
    try dsimp only at h ⊢
    unfold F21_j12 at h
    refine Z8 ?_
    refine Z21 (V := (List Z4)) (lp := fun v => F21_j14 K (F21_l3 K a0 a1 (F21_c5 K a1) k3) v2 v = some r) (sh := fun v => ⟨[(3, (.ptr 3 0)), (5, (.sl 2 (v.map Z6) false)), (9, (.sl 5 (a0.Silences.map Zk) false)), (10, (.int .i64 (a0.Silences.length : Int))), (11, (.int .i64 v2))], [(3, (.box (Zh a1).cells))]⟩) ?_ ?_
    ·intro v h
     revert h
     revert v
     intro v13 h
     try dsimp only at h ⊢
     unfold F21_j14 at h
     refine Z27 <| Z8 <| Z5 <| Z1 I (Z1p (k := .i64) (b := 1) (c := (IntKind.i64.wrap (v2 + 1))) I I I I) I <| Z1 I (Z9 I I) I <| Z7 ?_
     exact Zz (IH3 _ (v13, (IntKind.i64.wrap (v2 + 1))) (Nat.lt_succ_self _) h) ⟨I, I, I, I, I, J0⟩ ⟨I, J0⟩
    intro J14
    have hif := Z1h h
    refine Zq I (fun hc => ?_) (fun hc => ?_)
    ·have h := hif.1 hc
     refine Z5 <| Z1 I (Z9 I I) I <| Z1 I (Zm I f67_3 I I) I <| Z1 I (Z1n I a40 I I I I) I <| Z1 I (Z1m (vs := [(Z6 (a0.Silences.getD v2.toNat Zr).When)]) (enc := Z6) (l := [(a0.Silences.getD v2.toNat Zr).When]) I el45 I I ⟨I, J0⟩ I Z2u I I I I) I <| Z3b (st' := ⟨[(3, (.ptr 3 0)), (5, (.sl 2 (v1.map Z6) false)), (9, (.sl 5 (a0.Silences.map Zk) false)), (10, (.int .i64 (a0.Silences.length : Int))), (11, (.int .i64 v2)), (37, (.sl 2 (v1.map Z6) false)), (40, (.sl 2 ([(a0.Silences.getD v2.toNat Zr).When].map Z6) false))], [(3, (.box (Zh a1).cells))]⟩) (fun a w h => (Z1k _ (Z22 (m := 40) (sz := 2) (es := (List.map Z6 [(a0.Silences.getD v2.toNat Zr).When])) a w (Z1k ⟨[(3, (.ptr 3 0)), (5, (.sl 2 (v1.map Z6) false)), (9, (.sl 5 (a0.Silences.map Zk) false)), (10, (.int .i64 (a0.Silences.length : Int))), (11, (.int .i64 v2)), (37, (.sl 2 (v1.map Z6) false)), (40, (.vs 40))], [(40, (.vec 2 (List.map Z6 [(a0.Silences.getD v2.toNat Zr).When]))), (3, (.box (Zh a1).cells))]⟩ h ⟨I, I, I, I, I, I, I, J0⟩ ⟨I, I, J0⟩)) ⟨I, I, I, I, I, I, I, J0⟩ ⟨I, J0⟩)) ?_
     have ⟨v16, hv16, h⟩ := Z1a h
     refine Z1 I (Z1d (ar := [(.sl 2 (v1.map Z6) false), (.sl 2 ([(a0.Silences.getD v2.toNat Zr).When].map Z6) false)]) Try.call47 (F47_ok K v1 [(a0.Silences.getD v2.toNat Zr).When] v16 hv16) I I ⟨I, I, J0⟩ I) I <| Z1 I (Zd I I) I <| Z7 ?_
     exact Zz (J14 v16 h) ⟨I, I, I, I, I, J0⟩ ⟨I, J0⟩
    have h := hif.2 hc
    refine Z14 ?_
    exact Zz (J14 v1 h) ⟨I, I, I, I, I, J0⟩ ⟨I, J0⟩
   intro J12
   refine Z5 <| Z1 I (Zm I f67_1 I I) I <| Z1 I (Zs I o9 I I I) I <| Z1 I (Z2z (b := []) (c := ((a0.Silences.getD v2.toNat Zr).Rule == [])) I I I I) I <| Z1 I (Z9 I I) I ?_
   have hif := Z1h h
   refine Z16 (fun hc => ?_) (fun hc => ?_)
   ·have h := hif.1 hc
    iterate 5 refine Zg I I I I I I I ?_
    refine Z1 I (Z19 (v := (.bool true)) I I I) I <| Z1 I (Z9 (v := (.bool true)) I I) I <| Zc I I I I (Zm I f67_2 I I) I <| Zc I I I I (Zs I o9 I I I) I <| Zc I I I I (Z2z (b := []) (c := ((a0.Silences.getD v2.toNat Zr).Service == [])) I I I I) I <| Zc I I I I (Z9 I I) I ?_
    have hif := Z1h h
    refine Z16 (fun hc => ?_) (fun hc => ?_)
    ·have h := hif.1 hc
     iterate 5 refine Zg I I I I I I I ?_
     refine Zc I I I I (Z19 (v := (.bool true)) I I I) I <| Z1 I (Z19 (v := (.bool true)) I I I) I <| Z7 ?_
     exact Zz (J12 true h) ⟨I, I, I, I, I, I, I, J0⟩ ⟨I, I, J0⟩
    have h := hif.2 hc
    refine Zc I I I I (Zm I f67_2 I I) I <| Zc I I I I (Zs I o9 I I I) I <| Zc I I I I (Zm I f42_1 I I) I <| Zc I I I I (Zs I o9 I I I) I <| Zc I I I I (Z2z (c := ((a0.Silences.getD v2.toNat Zr).Service == a1.Service)) I I I I) I <| Zc I I I I (Zy I I I) I <| Z1 I (Z19 I I I) I <| Z7 ?_
    exact Zz (J12 ((a0.Silences.getD v2.toNat Zr).Service == a1.Service) h) ⟨I, I, I, I, I, I, I, J0⟩ ⟨I, I, J0⟩
   have h := hif.2 hc
   refine Zc I I I I (Zm I f67_1 I I) I <| Zc I I I I (Zs I o9 I I I) I <| Zc I I I I (Zm I f42_0 I I) I <| Zc I I I I (Zs I o9 I I I) I <| Zc I I I I (Z2z (c := ((a0.Silences.getD v2.toNat Zr).Rule == a1.Rule)) I I I I) I <| Z1 I (Zy I I I) I <| Z1 I (Z9 I I) I ?_
   have hif := Z1h h
   refine Z16 (fun hc => ?_) (fun hc => ?_)
   ·have h := hif.1 hc
    refine Zc I I I I (Zm I f67_2 I I) I <| Zc I I I I (Zs I o9 I I I) I <| Zc I I I I (Z2z (b := []) (c := ((a0.Silences.getD v2.toNat Zr).Service == [])) I I I I) I <| Zc I I I I (Z9 I I) I ?_
    have hif := Z1h h
    refine Z16 (fun hc => ?_) (fun hc => ?_)
    ·have h := hif.1 hc
     iterate 5 refine Zg I I I I I I I ?_
     refine Zc I I I I (Z19 (v := (.bool true)) I I I) I <| Z1 I (Z19 (v := (.bool true)) I I I) I <| Z7 ?_
     exact Zz (J12 true h) ⟨I, I, I, I, I, I, I, J0⟩ ⟨I, I, J0⟩
    have h := hif.2 hc
    refine Zc I I I I (Zm I f67_2 I I) I <| Zc I I I I (Zs I o9 I I I) I <| Zc I I I I (Zm I f42_1 I I) I <| Zc I I I I (Zs I o9 I I I) I <| Zc I I I I (Z2z (c := ((a0.Silences.getD v2.toNat Zr).Service == a1.Service)) I I I I) I <| Zc I I I I (Zy I I I) I <| Z1 I (Z19 I I I) I <| Z7 ?_
    exact Zz (J12 ((a0.Silences.getD v2.toNat Zr).Service == a1.Service) h) ⟨I, I, I, I, I, I, I, J0⟩ ⟨I, I, J0⟩
   have h := hif.2 hc
   iterate 4 refine Zg I I I I I I I ?_
   iterate 5 refine Zg (u := .tup []) I I I I I I I ?_
   refine Zg I I I I I I I <| Z1 I (Zy (v := (.bool false)) I I I) I <| Z7 ?_
   exact Zz (J12 false h) ⟨I, I, I, I, I, I, I, J0⟩ ⟨I, I, J0⟩
  have h := hif.2 hc
  refine Z1u <| Z26 ?_
  exact Zz (J3 v1 h) ⟨I, I, J0⟩ ⟨I, J0⟩
def F23_c5 (_K : Nat) (v4 : (List Z4)) : Option ((List Z4)) :=
 some v4
def F23_j12 (_K : Nat) (b7 : (List Z4) → Int → Option ((List Z4))) (v2 : Int) (v11 : (List Z4)) : Option ((List Z4)) :=
 b7 v11 (IntKind.i64.wrap (v2 + 1))
def F23_l3 (K : Nat) (a0 : Ze) (a1 : Str) (c6 : (List Z4) → Option ((List Z4))) : Nat → (List Z4) → Int → Option ((List Z4))
 | 0, _, _ => none
 | k3 + 1, v1, v2 =>
 if (decide (v2 < (a0.Firings.length : Int))) = true then
 if (0 : Int) ≤ v2 ∧ v2 < a0.Firings.length then
 (F18 K a0.Policy (a0.Firings.getD v2.toNat Z12)).bind fun v10 =>
 if (v10 == a1) = true then
 (F21 K a0 (a0.Firings.getD v2.toNat Z12)).bind fun v14 =>
 (F47 K v1 v14).bind fun v16 =>
 F23_j12 K (F23_l3 K a0 a1 c6 k3) v2 v16
 else
 F23_j12 K (F23_l3 K a0 a1 c6 k3) v2 v1
 else none
 else
 c6 v1
def F23 (K : Nat) (a0 : Ze) (a1 : Str) : Option ((List Z4)) :=
 F23_l3 K a0 a1 (F23_c5 K) K [] 0
theorem F23_ok (K : Nat) (a0 : Ze) (a1 : Str) (r : (List Z4)) (h : F23 K a0 a1 = some r) : ACall P 23 ⟨[(Zf a0), (.str a1)], [], (.sl 2 (r.map Z6) false), [], []⟩ := by
 refine Z1v Try.func23 Try.results23 rfl Try.ntmps23 rfl rfl rfl ?_
 intro E Q hP hN hro hret
 obtain ⟨P', nt', w0, F0, p0, S0, β0, ro0⟩ := E
 simp only at hP hN
 subst hP hN
 dsimp only [argT]
 unfold F23 at h
 refine Zb <| Z5 <| Z1 I (Z2r I I I I I) I <| Z1 I (Zd (v := (.sl 2 [] false)) I I) I <| Z7 <| Z8 <| Zb <| Z5 <| Z1 I (Zd (v := (.sl 2 [] false)) I I) I <| Z7 <| Z8 <| Zb <| Zb <| Z5 <| Z1 I (Zm I f34_1 I I) I <| Z1 I (Zs I o30 I I I) I <| Z1 I (Z24 (l := a0.Firings) (enc := Zh) I s30 I) I <| Z1 I (Z9 (v := (.int .i64 0)) I I) I <| Z7 <| Z8 <| Z1r (st' := ⟨[(1, (.str a1)), (2, (.ptr 2 0)), (5, (.sl 2 ([].map Z6) false)), (9, (.sl 4 (a0.Firings.map Zh) false)), (10, (.int .i64 (a0.Firings.length : Int))), (11, (.int .i64 0))], [(2, (.box (Zf a0).cells))]⟩) ⟨I, I, I, I, I, I, J0⟩ ⟨I, J0⟩ ?_
 refine Z1o (V := (List Z4) × Int) (X := (List Z4)) (lp := fun k v => F23_l3 K a0 a1 (F23_c5 K) k v.1 v.2 = some r) (sh := fun v => ⟨[(1, (.str a1)), (2, (.ptr 2 0)), (5, (.sl 2 (v.1.map Z6) false)), (9, (.sl 4 (a0.Firings.map Zh) false)), (10, (.int .i64 (a0.Firings.length : Int))), (11, (.int .i64 v.2))], [(2, (.box (Zf a0).cells))]⟩) (x := fun v => F23_c5 K v = some r) (shx := fun v => ⟨[(5, (.sl 2 (v.map Z6) false))], []⟩) (k := K) (v := ([], 0)) h ?_ ?_
 ·intro v h
  revert h
  revert v
  intro v4 h
  try dsimp only at h ⊢
  unfold F23_c5 at h
  refine Z8 <| Zb <| Z5 <| Z1 I (Z9 I I) I <| Z1 I (Zd I I) I <| Z7 <| Z8 <| Z1e ?_
  have h := Option.some.inj h
  subst h
  refine (hret _ ?_).1
  exact ⟨[(.sl 2 (v4.map Z6) false)], ⟨I, J0⟩, I, J0⟩
 intro N k3 v h IH3 J3
 obtain ⟨v1, v2⟩ := v
 try dsimp only at h IH3 J3 ⊢
 cases k3 with
 | zero => cases h
 | succ k3 =>
  rw [F23_l3] at h
  refine Zb <| Z5 <| Z1 I (Z1c (c := (decide (v2 < (a0.Firings.length : Int)))) I I I I) I <| Z7 <| Z8 <| Zb ?_
  have hif := Z1h h
  refine Zq I (fun hc => ?_) (fun hc => ?_)
  ·have h := hif.1 hc
   refine Z14 <| Z8 <| Zb <| Z1t <| Zb <| Z5 ?_
   have ⟨hg8, h⟩ := Zw h
   refine Z1 I (Z1s (k := .i64) (l := a0.Firings) (enc := Zh) (z := Z12) (n := v2) (full := false) I s30 I I hg8 I) I <| Z1 I (Z28 I a42 I I I) I <| Z1 I (Z1x I z42 I I I) I <| Z1 I (Z1f sz42 I I I I I I I I) I <| Z7 <| Z8 <| Zb <| Z5 <| Z1 I (Zm I f34_0 I I) I <| Z1 I (Z1n I a29 I I I I) I <| Z1 I (Z1n I a42 I I I I) I ?_
   have ⟨v10, hv10, h⟩ := Z1a h
   refine Z1 I (Z1d (ar := [(Z2i a0.Policy), (Zh (a0.Firings.getD v2.toNat Z12))]) Try.call18 (F18_ok K a0.Policy (a0.Firings.getD v2.toNat Z12) v10 hv10) I I ⟨I, I, J0⟩ I) I <| Z1 I (Z9 I I) I <| Z1 I (Z2z (c := (v10 == a1)) I I I I) I <| Z7 <| Z8 ?_
   refine Z21 (V := (List Z4)) (lp := fun v => F23_j12 K (F23_l3 K a0 a1 (F23_c5 K) k3) v2 v = some r) (sh := fun v => ⟨[(1, (.str a1)), (2, (.ptr 2 0)), (5, (.sl 2 (v.map Z6) false)), (9, (.sl 4 (a0.Firings.map Zh) false)), (10, (.int .i64 (a0.Firings.length : Int))), (11, (.int .i64 v2))], [(2, (.box (Zf a0).cells))]⟩) ?_ ?_
   ·intro v h
    revert h
    revert v
    intro v11 h
    try dsimp only at h ⊢
    unfold F23_j12 at h
    refine Z27 <| Z8 <| Z5 <| Z1 I (Z1p (k := .i64) (b := 1) (c := (IntKind.i64.wrap (v2 + 1))) I I I I) I <| Z1 I (Z9 I I) I <| Z7 ?_
    exact Zz (IH3 _ (v11, (IntKind.i64.wrap (v2 + 1))) (Nat.lt_succ_self _) h) ⟨I, I, I, I, I, I, J0⟩ ⟨I, J0⟩
   intro J12
   have hif := Z1h h
   refine Zq I (fun hc => ?_) (fun hc => ?_)
   ·have h := hif.1 hc
    refine Z5 <| Z1 I (Z9 I I) I <| Z1 I (Z1n I a34 I I I I) I <| Z1 I (Z1n I a42 I I I I) I ?_
    have ⟨v14, hv14, h⟩ := Z1a h
    refine Z1 I (Z1d (ar := [(Zf a0), (Zh (a0.Firings.getD v2.toNat Z12))]) Try.call21 (F21_ok K a0 (a0.Firings.getD v2.toNat Z12) v14 hv14) I I ⟨I, I, J0⟩ I) I ?_
    have ⟨v16, hv16, h⟩ := Z1a h
    refine Z1 I (Z1d (ar := [(.sl 2 (v1.map Z6) false), (.sl 2 (v14.map Z6) false)]) Try.call47 (F47_ok K v1 v14 v16 hv16) I I ⟨I, I, J0⟩ I) I <| Z1 I (Zd I I) I <| Z7 ?_
    exact Zz (J12 v16 h) ⟨I, I, I, I, I, I, J0⟩ ⟨I, J0⟩
   have h := hif.2 hc
   refine Z14 ?_
   exact Zz (J12 v1 h) ⟨I, I, I, I, I, I, J0⟩ ⟨I, J0⟩
  have h := hif.2 hc
  refine Z1u <| Z26 ?_
  exact Zz (J3 v1 h) ⟨I, J0⟩ trivial
def F52 (_K : Nat) (a0 : Ze) (a1 : Str) (a2 : Z4) (a3 : Int) : Option (Ze × Str × Z4 × Int) :=
 some (a0, a1, a2, a3)
theorem F52_ok (K : Nat) (a0 : Ze) (a1 : Str) (a2 : Z4) (a3 : Int) (r : Ze × Str × Z4 × Int) (h : F52 K a0 a1 a2 a3 = some r) : ACall P 52 ⟨[(Zf a0), (.str a1), (Z6 a2), (.int .i64 a3)], [], (.clo 75 [(.ip (Zf r.1).cells), (.ip [(.str r.2.1)]), (.ip (Z6 r.2.2.1).cells), (.ip [(.int .i64 r.2.2.2)])]), [], []⟩ := by
 refine Z1v Try.func52 Try.results52 rfl Try.ntmps52 rfl rfl rfl ?_
 intro E Q hP hN hro hret
 obtain ⟨P', nt', w0, F0, p0, S0, β0, ro0⟩ := E
 simp only at hP hN
 subst hP hN
 dsimp only [argT]
 unfold F52 at h
 refine Zb <| Z5 ?_
 iterate 4 refine Z1 I (Z2r I I I I I) I ?_
 refine Z1 I (Zd (v := .nilf) I I) I <| Z7 <| Z8 <| Zb <| Z5 <| Z1 I (stx_makeFunc (vs := [(.ptr 4 0), (.ptr 5 0), (.ptr 6 0), (.ptr 7 0)]) I ⟨I, I, I, I, J0⟩) I <| Z1 I (Zd I I) I <| Z7 <| Z8 <| Z1e <| Z2w (st' := ⟨[(8, (.clo 75 [(.ip (Zf a0).cells), (.ip [(.str a1)]), (.ip (Z6 a2).cells), (.ip [(.int .i64 a3)])]))], []⟩) (fun a w h => (Z1k _ (Z34 (m := 7) (cs := [(.int .i64 a3)]) I a w (Z1k ⟨[(8, (.clo 75 [(.ip (Zf a0).cells), (.ip [(.str a1)]), (.ip (Z6 a2).cells), (.ptr 7 0)]))], [(7, (.box [(.int .i64 a3)]))]⟩ (Z1k ⟨[(8, (.clo 75 [(.ip (Zf a0).cells), (.ip [(.str a1)]), (.ip (Z6 a2).cells), (.ptr 7 0)]))], [(7, (.box [(.int .i64 a3)]))]⟩ (Z34 (m := 6) (cs := (Z6 a2).cells) I a w (Z1k ⟨[(8, (.clo 75 [(.ip (Zf a0).cells), (.ip [(.str a1)]), (.ptr 6 0), (.ptr 7 0)]))], [(6, (.box (Z6 a2).cells)), (7, (.box [(.int .i64 a3)]))]⟩ (Z1k ⟨[(8, (.clo 75 [(.ip (Zf a0).cells), (.ip [(.str a1)]), (.ptr 6 0), (.ptr 7 0)]))], [(6, (.box (Z6 a2).cells)), (7, (.box [(.int .i64 a3)]))]⟩ (Z34 (m := 5) (cs := [(.str a1)]) I a w (Z1k ⟨[(8, (.clo 75 [(.ip (Zf a0).cells), (.ptr 5 0), (.ptr 6 0), (.ptr 7 0)]))], [(5, (.box [(.str a1)])), (6, (.box (Z6 a2).cells)), (7, (.box [(.int .i64 a3)]))]⟩ (Z1k ⟨[(8, (.clo 75 [(.ip (Zf a0).cells), (.ptr 5 0), (.ptr 6 0), (.ptr 7 0)]))], [(5, (.box [(.str a1)])), (6, (.box (Z6 a2).cells)), (7, (.box [(.int .i64 a3)]))]⟩ (Z34 (m := 4) (cs := (Zf a0).cells) I a w (Z1k ⟨[(8, (.clo 75 [(.ptr 4 0), (.ptr 5 0), (.ptr 6 0), (.ptr 7 0)]))], [(4, (.box (Zf a0).cells)), (5, (.box [(.str a1)])), (6, (.box (Z6 a2).cells)), (7, (.box [(.int .i64 a3)]))]⟩ h ⟨I, J0⟩ ⟨I, I, I, I, J0⟩)) ⟨I, J0⟩ ⟨I, I, I, J0⟩) ⟨I, J0⟩ ⟨I, I, I, J0⟩)) ⟨I, J0⟩ ⟨I, I, J0⟩) ⟨I, J0⟩ ⟨I, I, J0⟩)) ⟨I, J0⟩ ⟨I, J0⟩) ⟨I, J0⟩ ⟨I, J0⟩)) ⟨I, J0⟩ J0)) ?_
 have h := Option.some.inj h
 subst h
 refine (hret _ ?_).1
 exact ⟨[(.clo 75 [(.ip (Zf a0).cells), (.ip [(.str a1)]), (.ip (Z6 a2).cells), (.ip [(.int .i64 a3)])])], ⟨I, J0⟩, I, J0⟩
def F58_c5 (_K : Nat) (v4 : Int) : Option (Int) :=
 some v4
def F58_j9 (_K : Nat) (b7 : Int → Int → Option (Int)) (v2 : Int) (v8 : Int) : Option (Int) :=
 b7 v8 (IntKind.i64.wrap (v2 + 1))
def F58_j12 (K : Nat) (b7 : Int → Int → Option (Int)) (v2 : Int) (v11 : Int) : Option (Int) :=
 F58_j9 K b7 v2 v11
def F58_l3 (K : Nat) (a0 : Ze) (a1 : Str) (a2 : Z4) (c6 : Int → Option (Int)) : Nat → Int → Int → Option (Int)
 | 0, _, _ => none
 | k3 + 1, v1, v2 =>
 if (decide (v2 < (a0.Acks.length : Int))) = true then
 if (0 : Int) ≤ v2 ∧ v2 < a0.Acks.length then
 if ((a0.Acks.getD v2.toNat Z1q).Group == a1) = true then
 if (decide ((a0.Acks.getD v2.toNat Z1q).At ≥ a2.From)) = true then
 F58_j12 K (F58_l3 K a0 a1 a2 c6 k3) v2 (if (a0.Acks.getD v2.toNat Z1q).At < v1 then (a0.Acks.getD v2.toNat Z1q).At else v1)
 else
 F58_j12 K (F58_l3 K a0 a1 a2 c6 k3) v2 v1
 else
 F58_j9 K (F58_l3 K a0 a1 a2 c6 k3) v2 v1
 else none
 else
 c6 v1
def F58 (K : Nat) (a0 : Ze) (a1 : Str) (a2 : Z4) : Option (Int) :=
 F58_l3 K a0 a1 a2 (F58_c5 K) K a2.To 0
theorem F58_ok (K : Nat) (a0 : Ze) (a1 : Str) (a2 : Z4) (r : Int) (h : F58 K a0 a1 a2 = some r) : ACall P 58 ⟨[(Zf a0), (.str a1), (Z6 a2)], [], (.int .i64 r), [], []⟩ := by
 refine Z1v Try.func58 Try.results58 rfl Try.ntmps58 rfl rfl rfl ?_
 intro E Q hP hN hro hret
 obtain ⟨P', nt', w0, F0, p0, S0, β0, ro0⟩ := E
 simp only at hP hN
 subst hP hN
 dsimp only [argT]
 unfold F58 at h
 refine Zb <| Z5 <| Z1 I (Z2r I I I I I) I <| Z1 I (Z2r I I I I I) I <| Z1 I (Zd (v := (.int .i64 0)) I I) I <| Z7 <| Z8 <| Zb <| Z5 <| Z1 I (Zm I f40_1 I I) I <| Z1 I (Zs I o3 I I I) I <| Z1 I (Zd I I) I <| Z7 <| Z8 <| Zb <| Zb <| Z5 <| Z1 I (Zm I f34_3 I I) I <| Z1 I (Zs I o32 I I I) I <| Z1 I (Z24 (l := a0.Acks) (enc := Zp) I s32 I) I <| Z1 I (Z9 (v := (.int .i64 0)) I I) I <| Z7 <| Z8 <| Z1r (st' := ⟨[(1, (.str a1)), (5, (.ptr 5 0)), (7, (.int .i64 a2.To)), (13, (.sl 3 (a0.Acks.map Zp) false)), (14, (.int .i64 (a0.Acks.length : Int))), (15, (.int .i64 0))], [(5, (.box (Z6 a2).cells))]⟩) ⟨I, I, I, I, I, I, J0⟩ ⟨I, J0⟩ ?_
 refine Z1o (V := Int × Int) (X := Int) (lp := fun k v => F58_l3 K a0 a1 a2 (F58_c5 K) k v.1 v.2 = some r) (sh := fun v => ⟨[(1, (.str a1)), (5, (.ptr 5 0)), (7, (.int .i64 v.1)), (13, (.sl 3 (a0.Acks.map Zp) false)), (14, (.int .i64 (a0.Acks.length : Int))), (15, (.int .i64 v.2))], [(5, (.box (Z6 a2).cells))]⟩) (x := fun v => F58_c5 K v = some r) (shx := fun v => ⟨[(7, (.int .i64 v))], []⟩) (k := K) (v := (a2.To, 0)) h ?_ ?_
 ·intro v h
  revert h
  revert v
  intro v4 h
  try dsimp only at h ⊢
  unfold F58_c5 at h
  refine Z8 <| Zb <| Z5 <| Z1 I (Z9 I I) I <| Z1 I (Zd I I) I <| Z7 <| Z8 <| Z1e ?_
  have h := Option.some.inj h
  subst h
  refine (hret _ ?_).1
  exact ⟨[(.int .i64 v4)], ⟨I, J0⟩, I, J0⟩
 intro N k3 v h IH3 J3
 obtain ⟨v1, v2⟩ := v
 try dsimp only at h IH3 J3 ⊢
 cases k3 with
 | zero => cases h
 | succ k3 =>
  rw [F58_l3] at h
  refine Zb <| Z5 <| Z1 I (Z1c (c := (decide (v2 < (a0.Acks.length : Int)))) I I I I) I <| Z7 <| Z8 <| Zb ?_
  have hif := Z1h h
  refine Zq I (fun hc => ?_) (fun hc => ?_)
  ·have h := hif.1 hc
   refine Z14 <| Z8 <| Zb ?_
   refine Z2m (V := Int) (lp := fun v => F58_j9 K (F58_l3 K a0 a1 a2 (F58_c5 K) k3) v2 v = some r) (sh := fun v => ⟨[(1, (.str a1)), (5, (.ptr 5 0)), (7, (.int .i64 v)), (13, (.sl 3 (a0.Acks.map Zp) false)), (14, (.int .i64 (a0.Acks.length : Int))), (15, (.int .i64 v2))], [(5, (.box (Z6 a2).cells))]⟩) ?_ ?_
   ·intro v h
    revert h
    revert v
    intro v8 h
    try dsimp only at h ⊢
    unfold F58_j9 at h
    refine Z8 <| Z5 <| Z1 I (Z1p (k := .i64) (b := 1) (c := (IntKind.i64.wrap (v2 + 1))) I I I I) I <| Z1 I (Z9 I I) I <| Z7 ?_
    exact Zz (IH3 _ (v8, (IntKind.i64.wrap (v2 + 1))) (Nat.lt_succ_self _) h) ⟨I, I, I, I, I, I, J0⟩ ⟨I, J0⟩
   intro J9
   refine Zb <| Z5 ?_
   have ⟨hg10, h⟩ := Zw h
   refine Z1 I (Z1s (k := .i64) (l := a0.Acks) (enc := Zp) (z := Z1q) (n := v2) (full := false) I s32 I I hg10 I) I <| Z1 I (Z28 I a63 I I I) I <| Z1 I (Z1x I z63 I I I) I <| Z1 I (Z1f sz63 I I I I I I I I) I <| Z7 <| Z8 <| Zb <| Z5 <| Z1 I (Zm I f63_0 I I) I <| Z1 I (Zs I o9 I I I) I <| Z1 I (Z9 I I) I <| Z1 I (Z2z (c := ((a0.Acks.getD v2.toNat Z1q).Group == a1)) I I I I) I <| Z1 I (Z9 I I) I ?_
   have hif := Z1h h
   refine Z16 (fun hc => ?_) (fun hc => ?_)
   ·have h := hif.1 hc
    refine Zc I I I I (Zm I f63_2 I I) I <| Zc I I I I (Zs I o3 I I I) I <| Zc I I I I (Zm I f40_0 I I) I <| Zc I I I I (Zs I o3 I I I) I <| Zc I I I I (Z1c (c := (decide ((a0.Acks.getD v2.toNat Z1q).At ≥ a2.From))) I I I I) I <| Z1 I (Z19 I I I) I <| Z7 <| Z8 ?_
    refine Z21 (V := Int) (lp := fun v => F58_j12 K (F58_l3 K a0 a1 a2 (F58_c5 K) k3) v2 v = some r) (sh := fun v => ⟨[(1, (.str a1)), (5, (.ptr 5 0)), (7, (.int .i64 v)), (13, (.sl 3 (a0.Acks.map Zp) false)), (14, (.int .i64 (a0.Acks.length : Int))), (15, (.int .i64 v2))], [(5, (.box (Z6 a2).cells))]⟩) ?_ ?_
    ·intro v h
     revert h
     revert v
     intro v11 h
     try dsimp only at h ⊢
     unfold F58_j12 at h
     refine Z27 ?_
     exact Zz (J9 v11 h) ⟨I, I, I, I, I, I, J0⟩ ⟨I, J0⟩
    intro J12
    have hif := Z1h h
    refine Zq I (fun hc => ?_) (fun hc => ?_)
    ·have h := hif.1 hc
     refine Z5 <| Z1 I (Z9 I I) I <| Z1 I (Zm I f63_2 I I) I <| Z1 I (Zs I o3 I I I) I <| Z1 I (st_min (k := .i64) (a := v1) (b := (a0.Acks.getD v2.toNat Z1q).At) I I I) I <| Z1 I (Zd I I) I <| Z7 ?_
     exact Zz (J12 (if (a0.Acks.getD v2.toNat Z1q).At < v1 then (a0.Acks.getD v2.toNat Z1q).At else v1) h) ⟨I, I, I, I, I, I, J0⟩ ⟨I, J0⟩
    have h := hif.2 hc
    refine Z14 ?_
    exact Zz (J12 v1 h) ⟨I, I, I, I, I, I, J0⟩ ⟨I, J0⟩
   have h := hif.2 hc
   iterate 5 refine Zg I I I I I I I ?_
   refine Z1 I (Zy (v := (.bool false)) I I I) I <| Z7 <| Z8 ?_
   refine Zq (b := false) I (fun hc => ?_) (fun hc => ?_)
   ·cases hc
   refine Z14 <| Z27 ?_
   exact Zz (J9 v1 h) ⟨I, I, I, I, I, I, J0⟩ ⟨I, J0⟩
  have h := hif.2 hc
  refine Z1u <| Z26 ?_
  exact Zz (J3 v1 h) ⟨I, J0⟩ trivial
def F82 (_K : Nat) (a0 : Int) (a1 : (List Z4)) (a2 : Int) : Option (Bool) :=
 if (0 : Int) ≤ a0 ∧ a0 < a1.length then
 some (decide ((a1.getD a0.toNat Z10).To > a2))
 else none
theorem F82_ok (K : Nat) (a0 : Int) (a1 : (List Z4)) (a2 : Int) (r : Bool) (h : F82 K a0 a1 a2 = some r) : ACall P 82 ⟨[(.int .i64 a0), (.ip [(.sl 2 (a1.map Z6) false)]), (.ip [(.int .i64 a2)])], [], (.bool r), [], []⟩ := by
 refine Z1v Try.func82 Try.results82 rfl Try.ntmps82 rfl rfl rfl ?_
 intro E Q hP hN hro hret
 obtain ⟨P', nt', w0, F0, p0, S0, β0, ro0⟩ := E
 simp only at hP hN
 subst hP hN
 dsimp only [argT]
 unfold F82 at h
 refine Zb <| Z5 <| Z1 I (Zd (v := (.bool false)) I I) I <| Z7 <| Z8 <| Zb <| Z1y mixed <| Za 0 I (Z1l I o45 I I) <| Za 1 I (Z9 I I) ?_
 have ⟨hg1, h⟩ := Zw h
 refine Za 2 I (Z1s (k := .i64) (l := a1) (enc := Z6) (z := Z10) (n := a0) (full := false) I s45 I I hg1 I) <| Za 3 I (Z1w I f40_1 I I I) <| Za 4 I (Z1l I o3 I I) <| Za 5 I (Z1l I o3 I I) <| Za 6 I (Z1c (c := (decide ((a1.getD a0.toNat Z10).To > a2))) I I I I) <| Za 7 I (Zd I I) <| Z1z (by kernel_rfl) I <| Z8 <| Z1e ?_
 have h := Option.some.inj h
 subst h
 refine (hret _ ?_).1
 exact ⟨[(.bool (decide ((a1.getD a0.toNat Z10).To > a2)))], ⟨I, J0⟩, I, J0⟩
def F81_c5 (_K : Nat) (v4 : Int) : Option (Int) :=
 some v4
def F81_j13 (_K : Nat) (b7 : Int → Int → Option (Int)) (v11 : Int) (v12 : Int) : Option (Int) :=
 b7 v11 v12
def F81_l3 (K : Nat) (a100 : (List Z4)) (a101 : Int) (c6 : Int → Option (Int)) : Nat → Int → Int → Option (Int)
 | 0, _, _ => none
 | k3 + 1, v1, v2 =>
 if (decide (v1 < v2)) = true then
 if (0 : Int) ≤ 1 then
 (F82 K (IntKind.i64.wrap ((IntKind.u64.wrap (IntKind.i64.wrap (v1 + v2))).fdiv (2 ^ (min (1 : Int).toNat IntKind.u64.bits)))) a100 a101).bind fun v10 =>
 if (!v10) = true then
 F81_j13 K (F81_l3 K a100 a101 c6 k3) (IntKind.i64.wrap ((IntKind.i64.wrap ((IntKind.u64.wrap (IntKind.i64.wrap (v1 + v2))).fdiv (2 ^ (min (1 : Int).toNat IntKind.u64.bits)))) + 1)) v2
 else
 F81_j13 K (F81_l3 K a100 a101 c6 k3) v1 (IntKind.i64.wrap ((IntKind.u64.wrap (IntKind.i64.wrap (v1 + v2))).fdiv (2 ^ (min (1 : Int).toNat IntKind.u64.bits))))
 else none
 else
 c6 v1
def F81 (K : Nat) (a0 : Int) (a100 : (List Z4)) (a101 : Int) : Option (Int) :=
 F81_l3 K a100 a101 (F81_c5 K) K 0 a0
theorem F81_ok (K : Nat) (a0 : Int) (a100 : (List Z4)) (a101 : Int) (r : Int) (h : F81 K a0 a100 a101 = some r) : ACall P 81 ⟨[(.int .i64 a0), (.clo 82 [(.ip [(.sl 2 (a100.map Z6) false)]), (.ip [(.int .i64 a101)])])], [], (.int .i64 r), [], []⟩ := by
 refine Z1v Try.func81 Try.results81 rfl Try.ntmps81 rfl rfl rfl ?_
 intro E Q hP hN hro hret
 obtain ⟨P', nt', w0, F0, p0, S0, β0, ro0⟩ := E
 simp only at hP hN
 subst hP hN
 dsimp only [argT]
 unfold F81 at h
 refine Zb <| Z5 <| Z1 I (Zd (v := (.int .i64 0)) I I) I <| Z7 <| Z8 <| Zb <| Z5 <| Z1 I (Z9 I I) I <| Z1 I (Zd (v := (.int .i64 0)) I I) I <| Z1 I (Zd I I) I <| Z7 <| Z8 <| Zb <| Z1r (st' := ⟨[(1, (.clo 82 [(.ip [(.sl 2 (a100.map Z6) false)]), (.ip [(.int .i64 a101)])])), (5, (.int .i64 0)), (6, (.int .i64 a0))], []⟩) ⟨I, I, I, J0⟩ J0 ?_
 refine Z1o (V := Int × Int) (X := Int) (lp := fun k v => F81_l3 K a100 a101 (F81_c5 K) k v.1 v.2 = some r) (sh := fun v => ⟨[(1, (.clo 82 [(.ip [(.sl 2 (a100.map Z6) false)]), (.ip [(.int .i64 a101)])])), (5, (.int .i64 v.1)), (6, (.int .i64 v.2))], []⟩) (x := fun v => F81_c5 K v = some r) (shx := fun v => ⟨[(5, (.int .i64 v))], []⟩) (k := K) (v := (0, a0)) h ?_ ?_
 ·intro v h
  revert h
  revert v
  intro v4 h
  try dsimp only at h ⊢
  unfold F81_c5 at h
  refine Z8 <| Zb <| Z5 <| Z1 I (Z9 I I) I <| Z1 I (Zd I I) I <| Z7 <| Z8 <| Z1e ?_
  have h := Option.some.inj h
  subst h
  refine (hret _ ?_).1
  exact ⟨[(.int .i64 v4)], ⟨I, J0⟩, I, J0⟩
 intro N k3 v h IH3 J3
 obtain ⟨v1, v2⟩ := v
 try dsimp only at h IH3 J3 ⊢
 cases k3 with
 | zero => cases h
 | succ k3 =>
  rw [F81_l3] at h
  refine Zb <| Zb <| Z5 <| Z1 I (Z9 I I) I <| Z1 I (Z9 I I) I <| Z1 I (Z1c (c := (decide (v1 < v2))) I I I I) I <| Z7 <| Z8 ?_
  have hif := Z1h h
  refine Zq I (fun hc => ?_) (fun hc => ?_)
  ·have h := hif.1 hc
   refine Z14 <| Z8 <| Z1t <| Zb <| Z5 <| Z1 I (Z9 I I) I <| Z1 I (Z9 I I) I <| Z1 I (Z1p (k := .i64) (c := (IntKind.i64.wrap (v1 + v2))) I I I I) I <| Z1 I (st_conv I us3 u115 I) I ?_
   have ⟨hg8, h⟩ := Zw h
   refine Z1 I (st_shift (k := .u64) (j := .u64) (a := (IntKind.u64.wrap (IntKind.i64.wrap (v1 + v2)))) (b := 1) (c := ((IntKind.u64.wrap (IntKind.i64.wrap (v1 + v2))).fdiv (2 ^ (min (1 : Int).toNat IntKind.u64.bits)))) I I I I hg8) I <| Z1 I (st_conv I us115 u3 I) I <| Z1 I (Zd I I) I <| Z7 <| Z8 <| Zb <| Z5 <| Z1 I (Z9 I I) I <| Z1 I (Z9 I I) I ?_
   have ⟨v10, hv10, h⟩ := Z1a h
   refine Z1 I (Z1d (ar := [(.int .i64 (IntKind.i64.wrap ((IntKind.u64.wrap (IntKind.i64.wrap (v1 + v2))).fdiv (2 ^ (min (1 : Int).toNat IntKind.u64.bits)))))]) Try.call82 (F82_ok K (IntKind.i64.wrap ((IntKind.u64.wrap (IntKind.i64.wrap (v1 + v2))).fdiv (2 ^ (min (1 : Int).toNat IntKind.u64.bits)))) a100 a101 v10 hv10) I I ⟨I, J0⟩ I) I <| Z1 I (Z2c I I) I <| Z7 <| Z8 ?_
   refine Z21 (V := Int × Int) (lp := fun v => F81_j13 K (F81_l3 K a100 a101 (F81_c5 K) k3) v.1 v.2 = some r) (sh := fun v => ⟨[(1, (.clo 82 [(.ip [(.sl 2 (a100.map Z6) false)]), (.ip [(.int .i64 a101)])])), (5, (.int .i64 v.1)), (6, (.int .i64 v.2))], []⟩) ?_ ?_
   ·intro v h
    obtain ⟨v11, v12⟩ := v
    try dsimp only at h ⊢
    unfold F81_j13 at h
    refine Z27 ?_
    exact Zz (IH3 _ (v11, v12) (Nat.lt_succ_self _) h) ⟨I, I, I, J0⟩ trivial
   intro J13
   have hif := Z1h h
   refine Zq I (fun hc => ?_) (fun hc => ?_)
   ·have h := hif.1 hc
    refine Z5 <| Z1 I (Z9 I I) I <| Z1 I (Z1p (k := .i64) (b := 1) (c := (IntKind.i64.wrap ((IntKind.i64.wrap ((IntKind.u64.wrap (IntKind.i64.wrap (v1 + v2))).fdiv (2 ^ (min (1 : Int).toNat IntKind.u64.bits)))) + 1))) I I I I) I <| Z1 I (Zd I I) I <| Z7 ?_
    exact Zz (J13 ((IntKind.i64.wrap ((IntKind.i64.wrap ((IntKind.u64.wrap (IntKind.i64.wrap (v1 + v2))).fdiv (2 ^ (min (1 : Int).toNat IntKind.u64.bits)))) + 1)), v2) h) ⟨I, I, I, J0⟩ trivial
   have h := hif.2 hc
   refine Z5 <| Z1 I (Z9 I I) I <| Z1 I (Zd I I) I <| Z7 ?_
   exact Zz (J13 (v1, (IntKind.i64.wrap ((IntKind.u64.wrap (IntKind.i64.wrap (v1 + v2))).fdiv (2 ^ (min (1 : Int).toNat IntKind.u64.bits))))) h) ⟨I, I, I, J0⟩ trivial
  have h := hif.2 hc
  refine Z1u <| Z26 ?_
  exact Zz (J3 v1 h) ⟨I, J0⟩ trivial
def F57 (K : Nat) (a0 : (List Z4)) (a1 : Int) : Option (Int) :=
 (F81 K (a0.length : Int) a0 a1).bind fun v2 =>
 some v2
theorem F57_ok (K : Nat) (a0 : (List Z4)) (a1 : Int) (r : Int) (h : F57 K a0 a1 = some r) : ACall P 57 ⟨[(.sl 2 (a0.map Z6) false), (.int .i64 a1)], [], (.int .i64 r), [], []⟩ := by
 refine Z1v Try.func57 Try.results57 rfl Try.ntmps57 rfl rfl rfl ?_
 intro E Q hP hN hro hret
 obtain ⟨P', nt', w0, F0, p0, S0, β0, ro0⟩ := E
 simp only at hP hN
 subst hP hN
 dsimp only [argT]
 unfold F57 at h
 refine Zb <| Z5 <| Z1 I (Z2r I I I I I) I <| Z1 I (Z2r I I I I I) I <| Z1 I (Zd (v := (.int .i64 0)) I I) I <| Z7 <| Z8 <| Zb <| Z5 <| Z1 I (Zs I o45 I I I) I <| Z1 I (Z24 (l := a0) (enc := Z6) I s45 I) I <| Z1 I (stx_makeFunc (vs := [(.ptr 2 0), (.ptr 3 0)]) I ⟨I, I, J0⟩) I ?_
 have ⟨v2, hv2, h⟩ := Z1a h
 refine Z1 I (st_callB (rd := [(2, (.box [(.sl 2 (a0.map Z6) false)])), (3, (.box [(.int .i64 a1)]))]) (ar := [(.int .i64 (a0.length : Int)), (.clo 82 [(.ptr 2 0), (.ptr 3 0)])]) Try.call81 (F81_ok K (a0.length : Int) a0 a1 v2 hv2) I I ⟨I, I, J0⟩ (subS_mem ⟨I, I, J0⟩) I I I) I <| Z1 I (Zd I I) I <| Z7 <| Z8 <| Z1e ?_
 have h := Option.some.inj h
 subst h
 refine (hret _ ?_).1
 exact ⟨[(.int .i64 v2)], ⟨I, J0⟩, I, J0⟩
def F31 (K : Nat) (a0 : (List Z4)) (a1 : Int) : Option (Bool) :=
 (F57 K a0 a1).bind fun v2 =>
 if (decide (v2 < (a0.length : Int))) = true then
 if (0 : Int) ≤ v2 ∧ v2 < a0.length then
 some (decide ((a0.getD v2.toNat Z10).From ≤ a1))
 else none
 else
 some false
theorem F31_ok (K : Nat) (a0 : (List Z4)) (a1 : Int) (r : Bool) (h : F31 K a0 a1 = some r) : ACall P 31 ⟨[(.sl 2 (a0.map Z6) false), (.int .i64 a1)], [], (.bool r), [], []⟩ := by
 refine Z1v Try.func31 Try.results31 rfl Try.ntmps31 rfl rfl rfl ?_
 intro E Q hP hN hro hret
 obtain ⟨P', nt', w0, F0, p0, S0, β0, ro0⟩ := E
 simp only at hP hN
 subst hP hN
 dsimp only [argT]
 unfold F31 at h
 refine Zb <| Z5 <| Z1 I (Zd (v := (.bool false)) I I) I <| Z7 <| Z8 <| Zb <| Z5 <| Z1 I (Z9 I I) I <| Z1 I (Z9 I I) I ?_
 have ⟨v2, hv2, h⟩ := Z1a h
 refine Z1 I (Z1d (ar := [(.sl 2 (a0.map Z6) false), (.int .i64 a1)]) Try.call57 (F57_ok K a0 a1 v2 hv2) I I ⟨I, I, J0⟩ I) I <| Z1 I (Zd I I) I <| Z7 <| Z8 <| Zb <| Z5 <| Z1 I (Z9 I I) I <| Z1 I (Z9 I I) I <| Z1 I (Z24 (l := a0) (enc := Z6) I s45 I) I <| Z1 I (Z1c (c := (decide (v2 < (a0.length : Int)))) I I I I) I <| Z1 I (Z9 I I) I ?_
 have hif := Z1h h
 refine Z16 (fun hc => ?_) (fun hc => ?_)
 ·have h := hif.1 hc
  refine Zc I I I I (Z9 I I) I <| Zc I I I I (Z9 I I) I ?_
  have ⟨hg3, h⟩ := Zw h
  refine Zc I I I I (Z1s (k := .i64) (l := a0) (enc := Z6) (z := Z10) (n := v2) (full := false) I s45 I I hg3 I) I <| Zc I I I I (Z1w I f40_0 I I I) I <| Zc I I I I (Z1l I o3 I I) I <| Zc I I I I (Z9 I I) I <| Zc I I I I (Z1c (c := (decide ((a0.getD v2.toNat Z10).From ≤ a1))) I I I I) I <| Z1 I (Z19 I I I) I <| Z1 I (Zd I I) I <| Z7 <| Z8 <| Z1e ?_
  have h := Option.some.inj h
  subst h
  refine (hret _ ?_).1
  exact ⟨[(.bool (decide ((a0.getD v2.toNat Z10).From ≤ a1)))], ⟨I, J0⟩, I, J0⟩
 have h := hif.2 hc
 iterate 7 refine Zg I I I I I I I ?_
 refine Z1 I (Zy (v := (.bool false)) I I I) I <| Z1 I (Zd (v := (.bool false)) I I) I <| Z7 <| Z8 <| Z1e ?_
 have h := Option.some.inj h
 subst h
 refine (hret _ ?_).1
 exact ⟨[(.bool false)], ⟨I, J0⟩, I, J0⟩
def F50_c3 (_K : Nat) (a0 : (List Str)) : Option ((List Str)) :=
 some a0
def F50_c18 (_K : Nat) (v16 : Int) (v17 : (List Str)) : Option ((List Str)) :=
 if (0 : Int) ≤ v16 ∧ v16 ≤ (v17.length : Int) ∧ (v17.length : Int) ≤ (v17.length : Nat) then
 if (0 + v16.toNat) + ((v17.length : Int).toNat - v16.toNat) ≤ v17.length then
 if (0 + v16.toNat) + ((v17.length : Int).toNat - v16.toNat) ≤ v17.length then
 if (0 : Int) ≤ 0 ∧ 0 ≤ v16 ∧ v16 ≤ ((v17.take (0 + v16.toNat) ++ List.replicate ((v17.length : Int).toNat - v16.toNat) [] ++ v17.drop ((0 + v16.toNat) + ((v17.length : Int).toNat - v16.toNat))).length : Nat) then
 if (0 + (0 : Int).toNat) + (v16.toNat - (0 : Int).toNat) ≤ (v17.take (0 + v16.toNat) ++ List.replicate ((v17.length : Int).toNat - v16.toNat) [] ++ v17.drop ((0 + v16.toNat) + ((v17.length : Int).toNat - v16.toNat))).length then
 some (((v17.take (0 + v16.toNat) ++ List.replicate ((v17.length : Int).toNat - v16.toNat) [] ++ v17.drop ((0 + v16.toNat) + ((v17.length : Int).toNat - v16.toNat))).drop (0 + (0 : Int).toNat)).take (v16.toNat - (0 : Int).toNat))
 else none
 else none
 else none
 else none
 else none
def F50_j35 (_K : Nat) (b25 : Int → Int → (List Str) → Option ((List Str))) (v13 : Int) (v33 : Int) (v34 : (List Str)) : Option ((List Str)) :=
 b25 v33 (IntKind.i64.wrap (v13 + 1)) v34
def F50_l15 (K : Nat) (v1 : Int) (a0 : (List Str)) (c19 : Int → (List Str) → Option ((List Str))) : Nat → Int → Int → (List Str) → Option ((List Str))
 | 0, _, _, _ => none
 | k15 + 1, v12, v13, v14 =>
 if (0 + v1.toNat) + ((a0.length : Int).toNat - v1.toNat) ≤ v14.length then
 if (decide (v13 < ((((a0.length : Int).toNat - v1.toNat) : Nat) : Int))) = true then
 if (0 + v1.toNat) + ((a0.length : Int).toNat - v1.toNat) ≤ v14.length then
 if (0 : Int) ≤ v13 ∧ v13 < (((a0.length : Int).toNat - v1.toNat) : Nat) then
 if ((0 + v1.toNat) + v13.toNat) < v14.length then
 if (0 + v1.toNat) + ((a0.length : Int).toNat - v1.toNat) ≤ v14.length then
 if (0 : Int) ≤ (IntKind.i64.wrap (v13 - 1)) ∧ (IntKind.i64.wrap (v13 - 1)) < (((a0.length : Int).toNat - v1.toNat) : Nat) then
 if ((0 + v1.toNat) + (IntKind.i64.wrap (v13 - 1)).toNat) < v14.length then
 if (!((v14.getD ((0 + v1.toNat) + v13.toNat) []) == (v14.getD ((0 + v1.toNat) + (IntKind.i64.wrap (v13 - 1)).toNat) []))) = true then
 if (0 + v1.toNat) + ((a0.length : Int).toNat - v1.toNat) ≤ v14.length then
 if (0 : Int) ≤ v13 ∧ v13 < (((a0.length : Int).toNat - v1.toNat) : Nat) then
 if ((0 + v1.toNat) + v13.toNat) < v14.length then
 if (0 : Int) ≤ v12 ∧ v12 < (v14.length : Nat) then
 if v12.toNat < v14.length then
 F50_j35 K (F50_l15 K v1 a0 c19 k15) v13 (IntKind.i64.wrap (v12 + 1)) (v14.set v12.toNat (v14.getD ((0 + v1.toNat) + v13.toNat) []))
 else none
 else none
 else none
 else none
 else none
 else
 F50_j35 K (F50_l15 K v1 a0 c19 k15) v13 v12 v14
 else none
 else none
 else none
 else none
 else none
 else none
 else
 c19 v12 v14
 else none
def F50_l2 (K : Nat) (a0 : (List Str)) (c4 : Option ((List Str))) : Nat → Int → Option ((List Str))
 | 0, _ => none
 | k2 + 1, v1 =>
 if (decide (v1 < (a0.length : Int))) = true then
 if (0 : Int) ≤ v1 ∧ v1 < (a0.length : Nat) then
 if v1.toNat < a0.length then
 if (0 : Int) ≤ (IntKind.i64.wrap (v1 - 1)) ∧ (IntKind.i64.wrap (v1 - 1)) < (a0.length : Nat) then
 if (IntKind.i64.wrap (v1 - 1)).toNat < a0.length then
 if ((a0.getD v1.toNat []) == (a0.getD (IntKind.i64.wrap (v1 - 1)).toNat [])) = true then
 if (0 : Int) ≤ v1 ∧ v1 ≤ (a0.length : Int) ∧ (a0.length : Int) ≤ (a0.length : Nat) then
 if (0 + v1.toNat) + ((a0.length : Int).toNat - v1.toNat) ≤ a0.length then
 F50_l15 K v1 a0 (F50_c18 K) K v1 1 a0
 else none
 else none
 else
 (F50_l2 K a0 c4 k2) (IntKind.i64.wrap (v1 + 1))
 else none
 else none
 else none
 else none
 else
 c4
def F50 (K : Nat) (a0 : (List Str)) : Option ((List Str)) :=
 if (decide ((a0.length : Int) < 2)) = true then
 some a0
 else
 F50_l2 K a0 (F50_c3 K a0) K 1
theorem F50_ok (K : Nat) (a0 : (List Str)) (r : (List Str)) (h : F50 K a0 = some r) : ACall P 50 ⟨[(.vs 0)], [(0, .vec 1 (List.map Z1i a0))], .vs 0, [(0, .vec 1 (List.map Z1i r))], [0]⟩ := by
 refine Z1v Try.func50 Try.results50 rfl Try.ntmps50 rfl rfl rfl ?_
 intro E Q hP hN hro hret
 obtain ⟨P', nt', w0, F0, p0, S0, β0, ro0⟩ := E
 simp only at hP hN
 subst hP hN
 dsimp only [argT]
 unfold F50 at h
 refine Zb <| Z5 <| Z1 I (Zd (v := (.sl 1 [] false)) I I) I <| Z7 <| Z8 <| Zb <| Zb <| Z5 <| Z1 I (Z9 I I) I <| Z1 I (stx_lenV I u36 I I) I <| Z1 I (Z1c (b := 2) (c := (decide ((a0.length : Int) < 2))) I I I I) I <| Z7 <| Z8 ?_
 have hif := Z1h h
 refine Zq I (fun hc => ?_) (fun hc => ?_)
 ·have h := hif.1 hc
  refine Zb <| Z5 <| Z1 I (Z9 I I) I <| Z1 I (Zd I I) I <| Z7 <| Z8 <| Z1e <| Zx ?_
  have h := Option.some.inj h
  subst h
  refine (hret _ ?_).1
  exact ⟨[(.vs 0)], ⟨I, J0⟩, I, ⟨I, J0⟩⟩
 have h := hif.2 hc
 refine Z14 <| Z8 <| Zb <| Zb <| Z5 <| Z1 I (Zd (v := (.int .i64 1)) I I) I <| Z7 <| Z8 <| Z1r (st' := ⟨[(0, (.vs 0)), (3, (.int .i64 1))], [(0, (.vec 1 (List.map Z1i a0)))]⟩) ⟨I, I, J0⟩ ⟨I, J0⟩ ?_
 refine Z1o (V := Int) (X := Unit) (lp := fun k v => F50_l2 K a0 (F50_c3 K a0) k v = some r) (sh := fun v => ⟨[(0, (.vs 0)), (3, (.int .i64 v))], [(0, (.vec 1 (List.map Z1i a0)))]⟩) (x := fun v => F50_c3 K a0 = some r) (shx := fun v => ⟨[(0, (.vs 0))], [(0, (.vec 1 (List.map Z1i a0)))]⟩) (k := K) (v := 1) h ?_ ?_
 ·intro v h
  try dsimp only at h ⊢
  unfold F50_c3 at h
  refine Z8 <| Zb <| Z5 <| Z1 I (Z9 I I) I <| Z1 I (Zd I I) I <| Z7 <| Z8 <| Z1e ?_
  have h := Option.some.inj h
  subst h
  refine (hret _ ?_).1
  exact ⟨[(.vs 0)], ⟨I, J0⟩, I, ⟨I, J0⟩⟩
 intro N k2 v h IH2 J2
 revert h
 revert v
 intro v1 h
 try dsimp only at h IH2 J2 ⊢
 cases k2 with
 | zero => cases h
 | succ k2 =>
  rw [F50_l2] at h
  refine Zb <| Zb <| Z5 <| Z1 I (Z9 I I) I <| Z1 I (Z9 I I) I <| Z1 I (stx_lenV I u36 I I) I <| Z1 I (Z1c (c := (decide (v1 < (a0.length : Int)))) I I I I) I <| Z7 <| Z8 ?_
  have hif := Z1h h
  refine Zq I (fun hc => ?_) (fun hc => ?_)
  ·have h := hif.1 hc
   refine Z14 <| Z8 <| Zb <| Z1t <| Zb <| Z1y mixed <| Za 0 I (Z9 I I) <| Za 1 I (Z9 I I) ?_
   have ⟨hg6, h⟩ := Zw h
   refine Za 2 I (Z32 (k := .i64) (v := (.vs 0)) (n := 0) (off := 0) (len := a0.length) (es := (List.map Z1i a0)) (j := v1) (m := v1.toNat) I s36 I I (Z31 _ _ _) I hg6 (Nat.zero_add _)) ?_
   have ⟨hg7, h⟩ := Zw h
   refine Za 3 I (Z3o (l := a0) (enc := Z1i) (z := []) (v := (.str (a0.getD v1.toNat []))) I o9 I I hg7 I) <| Za 4 I (Z9 I I) <| Za 5 I (Z9 I I) <| Za 6 I (Z1p (k := .i64) (b := 1) (c := (IntKind.i64.wrap (v1 - 1))) I I I I) ?_
   have ⟨hg8, h⟩ := Zw h
   refine Za 7 I (Z32 (k := .i64) (v := (.vs 0)) (n := 0) (off := 0) (len := a0.length) (es := (List.map Z1i a0)) (j := (IntKind.i64.wrap (v1 - 1))) (m := (IntKind.i64.wrap (v1 - 1)).toNat) I s36 I I (Z31 _ _ _) I hg8 (Nat.zero_add _)) ?_
   have ⟨hg9, h⟩ := Zw h
   refine Za 8 I (Z3o (l := a0) (enc := Z1i) (z := []) (v := (.str (a0.getD (IntKind.i64.wrap (v1 - 1)).toNat []))) I o9 I I hg9 I) <| Za 9 I (Z2z (c := ((a0.getD v1.toNat []) == (a0.getD (IntKind.i64.wrap (v1 - 1)).toNat []))) I I I I) <| Z1z (by kernel_rfl) I <| Z8 ?_
   have hif := Z1h h
   refine Zq I (fun hc => ?_) (fun hc => ?_)
   ·have h := hif.1 hc
    refine Zb <| Z5 <| Z1 I (Z9 I I) I <| Z1 I (Z9 I I) I ?_
    have ⟨hg10, h⟩ := Zw h
    have ⟨hg11, h⟩ := Zw h
    refine Z1 I (stx_sliceVL (v := (.vs 0)) (n := 0) (off := 0) (len := a0.length) (l := a0) (enc := Z1i) (kl := .i64) (lo := v1) I s36 I I (Z31 _ _ _) I hg10 I) I <| Z1 I (Zd I I) I <| Z7 <| Z8 <| Zb <| Zb <| Z5 <| Z1 I (Zd (v := (.int .i64 1)) I I) I <| Z7 <| Z8 <| Z1r (st' := ⟨[(0, (.vs 0)), (3, (.int .i64 v1)), (4, (.vsub 0 (0 + v1.toNat) ((a0.length : Int).toNat - v1.toNat) false)), (5, (.int .i64 1))], [(0, (.vec 1 (List.map Z1i a0)))]⟩) ⟨I, I, I, I, J0⟩ ⟨I, J0⟩ ?_
    refine Z1o (V := Int × Int × (List Str)) (X := Int × (List Str)) (lp := fun k v => F50_l15 K v1 a0 (F50_c18 K) k v.1 v.2.1 v.2.2 = some r) (sh := fun v => ⟨[(0, (.vs 0)), (3, (.int .i64 v.1)), (4, (.vsub 0 (0 + v1.toNat) ((a0.length : Int).toNat - v1.toNat) false)), (5, (.int .i64 v.2.1))], [(0, (.vec 1 (List.map Z1i v.2.2)))]⟩) (x := fun v => F50_c18 K v.1 v.2 = some r) (shx := fun v => ⟨[(0, (.vs 0)), (3, (.int .i64 v.1))], [(0, (.vec 1 (List.map Z1i v.2)))]⟩) (k := K) (v := (v1, 1, a0)) h ?_ ?_
    ·intro v h
     obtain ⟨v16, v17⟩ := v
     try dsimp only at h ⊢
     unfold F50_c18 at h
     refine Z8 <| Zb <| Z5 <| Z1 I (Z9 I I) I <| Z1 I (Z9 I I) I ?_
     have ⟨hg20, h⟩ := Zw h
     have ⟨hg21, h⟩ := Zw h
     refine Z1 I (stx_sliceVL (v := (.vs 0)) (n := 0) (off := 0) (len := v17.length) (l := v17) (enc := Z1i) (kl := .i64) (lo := v16) I s36 I I (Z31 _ _ _) I hg20 I) I ?_
     have ⟨hg22, h⟩ := Zw h
     refine Z1 I (st_clear (v := (.vsub 0 (0 + v16.toNat) ((v17.length : Int).toNat - v16.toNat) false)) (n := 0) (off := (0 + v16.toNat)) (len := ((v17.length : Int).toNat - v16.toNat)) (l := v17) (enc := Z1i) el36 ze9 I I I (vecR_sub hg22) Z39) I <| Z7 <| Z8 <| Zb <| Z5 <| Z1 I (Z9 I I) I <| Z1 I (Z9 I I) I ?_
     have ⟨hg23, h⟩ := Zw h
     have ⟨hg24, h⟩ := Zw h
     refine Z1 I (stx_sliceVH (v := (.vs 0)) (n := 0) (off := 0) (len := (v17.take (0 + v16.toNat) ++ List.replicate ((v17.length : Int).toNat - v16.toNat) [] ++ v17.drop ((0 + v16.toNat) + ((v17.length : Int).toNat - v16.toNat))).length) (l := (v17.take (0 + v16.toNat) ++ List.replicate ((v17.length : Int).toNat - v16.toNat) [] ++ v17.drop ((0 + v16.toNat) + ((v17.length : Int).toNat - v16.toNat)))) (enc := Z1i) (kh := .i64) (hi := v16) I s36 I I (Z31 _ _ _) I hg23 I) I <| Z1 I (Zd I I) I <| Z7 <| Z8 <| Z1e <| Z18 <| Zx ?_
     refine Zx (Z18 ?_)
     refine Zx <| Z2w (st' := ⟨[(2, (.vs 0))], [(0, (.vec 1 (List.map Z1i (((v17.take (0 + v16.toNat) ++ List.replicate ((v17.length : Int).toNat - v16.toNat) [] ++ v17.drop ((0 + v16.toNat) + ((v17.length : Int).toNat - v16.toNat))).drop (0 + (0 : Int).toNat)).take (v16.toNat - (0 : Int).toNat)))))]⟩) (fun a w h => (Z1k _ (ghost_trunc (k := 2) (m := 0) (sz := 1) (off := (0 + (0 : Int).toNat)) (len := (v16.toNat - (0 : Int).toNat)) (enc := Z1i) (l := (v17.take (0 + v16.toNat) ++ List.replicate ((v17.length : Int).toNat - v16.toNat) [] ++ v17.drop ((0 + v16.toNat) + ((v17.length : Int).toNat - v16.toNat)))) I hg24 a w (Z1k ⟨[(2, (.vsub 0 (0 + (0 : Int).toNat) (v16.toNat - (0 : Int).toNat) false))], [(0, (.vec 1 (List.map Z1i (v17.take (0 + v16.toNat) ++ List.replicate ((v17.length : Int).toNat - v16.toNat) [] ++ v17.drop ((0 + v16.toNat) + ((v17.length : Int).toNat - v16.toNat))))))]⟩ h ⟨I, J0⟩ ⟨I, J0⟩)) ⟨I, J0⟩ ⟨I, J0⟩)) ?_
     have h := Option.some.inj h
     subst h
     refine (hret _ ?_).1
     exact ⟨[(.vs 0)], ⟨I, J0⟩, I, ⟨I, J0⟩⟩
    intro N k15 v h IH15 J15
    obtain ⟨v12, v13, v14⟩ := v
    try dsimp only at h IH15 J15 ⊢
    cases k15 with
    | zero => cases h
    | succ k15 =>
     rw [F50_l15] at h
     refine Zb <| Zb <| Z5 <| Z1 I (Z9 I I) I <| Z1 I (Z9 I I) I ?_
     have ⟨hg26, h⟩ := Zw h
     refine Z1 I (stx_lenVS (v := (.vsub 0 (0 + v1.toNat) ((a0.length : Int).toNat - v1.toNat) false)) (n := 0) (off := (0 + v1.toNat)) (len := ((a0.length : Int).toNat - v1.toNat)) (l := v14) (enc := Z1i) I u36 I I (vecR_sub hg26)) I <| Z1 I (Z1c (c := (decide (v13 < ((((a0.length : Int).toNat - v1.toNat) : Nat) : Int)))) I I I I) I <| Z7 <| Z8 ?_
     have hif := Z1h h
     refine Zq I (fun hc => ?_) (fun hc => ?_)
     ·have h := hif.1 hc
      refine Z14 <| Z8 <| Zb <| Z1t <| Zb <| Z1y mixed <| Za 0 I (Z9 I I) <| Za 1 I (Z9 I I) ?_
      have ⟨hg27, h⟩ := Zw h
      have ⟨hg28, h⟩ := Zw h
      refine Za 2 I (Z32 (k := .i64) (v := (.vsub 0 (0 + v1.toNat) ((a0.length : Int).toNat - v1.toNat) false)) (n := 0) (off := (0 + v1.toNat)) (len := ((a0.length : Int).toNat - v1.toNat)) (es := (List.map Z1i v14)) (j := v13) (m := ((0 + v1.toNat) + v13.toNat)) I s36 I I (vecR_sub hg27) I hg28 (I)) ?_
      have ⟨hg29, h⟩ := Zw h
      refine Za 3 I (Z3o (l := v14) (enc := Z1i) (z := []) (v := (.str (v14.getD ((0 + v1.toNat) + v13.toNat) []))) I o9 I I hg29 I) <| Za 4 I (Z9 I I) <| Za 5 I (Z9 I I) <| Za 6 I (Z1p (k := .i64) (b := 1) (c := (IntKind.i64.wrap (v13 - 1))) I I I I) ?_
      have ⟨hg30, h⟩ := Zw h
      have ⟨hg31, h⟩ := Zw h
      refine Za 7 I (Z32 (k := .i64) (v := (.vsub 0 (0 + v1.toNat) ((a0.length : Int).toNat - v1.toNat) false)) (n := 0) (off := (0 + v1.toNat)) (len := ((a0.length : Int).toNat - v1.toNat)) (es := (List.map Z1i v14)) (j := (IntKind.i64.wrap (v13 - 1))) (m := ((0 + v1.toNat) + (IntKind.i64.wrap (v13 - 1)).toNat)) I s36 I I (vecR_sub hg30) I hg31 (I)) ?_
      have ⟨hg32, h⟩ := Zw h
      refine Za 8 I (Z3o (l := v14) (enc := Z1i) (z := []) (v := (.str (v14.getD ((0 + v1.toNat) + (IntKind.i64.wrap (v13 - 1)).toNat) []))) I o9 I I hg32 I) <| Za 9 I (Z2z (c := (!((v14.getD ((0 + v1.toNat) + v13.toNat) []) == (v14.getD ((0 + v1.toNat) + (IntKind.i64.wrap (v13 - 1)).toNat) [])))) I I I I) <| Z1z (by kernel_rfl) I <| Z8 ?_
      refine Z21 (V := Int × (List Str)) (lp := fun v => F50_j35 K (F50_l15 K v1 a0 (F50_c18 K) k15) v13 v.1 v.2 = some r) (sh := fun v => ⟨[(0, (.vs 0)), (3, (.int .i64 v.1)), (4, (.vsub 0 (0 + v1.toNat) ((a0.length : Int).toNat - v1.toNat) false)), (5, (.int .i64 v13))], [(0, (.vec 1 (List.map Z1i v.2)))]⟩) ?_ ?_
      ·intro v h
       obtain ⟨v33, v34⟩ := v
       try dsimp only at h ⊢
       unfold F50_j35 at h
       refine Z27 <| Z8 <| Z5 <| Z1 I (Z9 I I) I <| Z1 I (Z1p (k := .i64) (b := 1) (c := (IntKind.i64.wrap (v13 + 1))) I I I I) I <| Z1 I (Zd I I) I <| Z7 ?_
       exact Zz (IH15 _ (v33, (IntKind.i64.wrap (v13 + 1)), v34) (Nat.lt_succ_self _) h) ⟨I, I, I, I, J0⟩ ⟨I, J0⟩
      intro J35
      have hif := Z1h h
      refine Zq I (fun hc => ?_) (fun hc => ?_)
      ·have h := hif.1 hc
       refine Zb <| Z5 ?_
       iterate 4 refine Z1 I (Z9 I I) I ?_
       have ⟨hg36, h⟩ := Zw h
       have ⟨hg37, h⟩ := Zw h
       refine Z1 I (Z32 (k := .i64) (v := (.vsub 0 (0 + v1.toNat) ((a0.length : Int).toNat - v1.toNat) false)) (n := 0) (off := (0 + v1.toNat)) (len := ((a0.length : Int).toNat - v1.toNat)) (es := (List.map Z1i v14)) (j := v13) (m := ((0 + v1.toNat) + v13.toNat)) I s36 I I (vecR_sub hg36) I hg37 (I)) I ?_
       have ⟨hg38, h⟩ := Zw h
       refine Z1 I (Z3o (l := v14) (enc := Z1i) (z := []) (v := (.str (v14.getD ((0 + v1.toNat) + v13.toNat) []))) I o9 I I hg38 I) I ?_
       have ⟨hg39, h⟩ := Zw h
       refine Z1 I (Z32 (k := .i64) (v := (.vs 0)) (n := 0) (off := 0) (len := v14.length) (es := (List.map Z1i v14)) (j := v12) (m := v12.toNat) I s36 I I (Z31 _ _ _) I hg39 (Nat.zero_add _)) I ?_
       have ⟨hg40, h⟩ := Zw h
       refine Z1 I (st_storeV (l := v14) (enc := Z1i) (z := []) (a := (v14.getD ((0 + v1.toNat) + v13.toNat) [])) (v := (.str (v14.getD ((0 + v1.toNat) + v13.toNat) []))) sz9 I I hg40 I Z39 I I I I) I <| Z7 <| Z8 <| Z5 <| Z1 I (Z9 I I) I <| Z1 I (Z1p (k := .i64) (b := 1) (c := (IntKind.i64.wrap (v12 + 1))) I I I I) I <| Z1 I (Zd I I) I <| Z7 ?_
       exact Zz (J35 ((IntKind.i64.wrap (v12 + 1)), (v14.set v12.toNat (v14.getD ((0 + v1.toNat) + v13.toNat) []))) h) ⟨I, I, I, I, J0⟩ ⟨I, J0⟩
      have h := hif.2 hc
      refine Z14 ?_
      exact Zz (J35 (v12, v14) h) ⟨I, I, I, I, J0⟩ ⟨I, J0⟩
     have h := hif.2 hc
     refine Z1u <| Z26 ?_
     exact Zz (J15 (v12, v14) h) ⟨I, I, J0⟩ ⟨I, J0⟩
   have h := hif.2 hc
   refine Z14 <| Z27 <| Z8 <| Z5 <| Z1 I (Z9 I I) I <| Z1 I (Z1p (k := .i64) (b := 1) (c := (IntKind.i64.wrap (v1 + 1))) I I I I) I <| Z1 I (Zd I I) I <| Z7 ?_
   exact Zz (IH2 _ (IntKind.i64.wrap (v1 + 1)) (Nat.lt_succ_self _) h) ⟨I, I, J0⟩ ⟨I, J0⟩
  have h := hif.2 hc
  refine Z1u <| Z26 ?_
  exact Zz (J2 () h) ⟨I, J0⟩ ⟨I, J0⟩
def F25_c5 (K : Nat) (v4 : (List Str)) : Option ((List Str)) :=
 (sortS v4).bind fun v8 =>
 (F50 K v8).bind fun v10 =>
 some v10
def F25_j13 (_K : Nat) (b11 : Int → (List Str) → Option ((List Str))) (v1 : Int) (v12 : (List Str)) : Option ((List Str)) :=
 b11 (IntKind.i64.wrap (v1 + 1)) v12
def F25_j22 (K : Nat) (b11 : Int → (List Str) → Option ((List Str))) (v1 : Int) (v21 : (List Str)) : Option ((List Str)) :=
 F25_j13 K b11 v1 v21
def F25_l3 (K : Nat) (a0 : Ze) (a1 : Str) (a2 : Int) (c6 : (List Str) → Option ((List Str))) : Nat → Int → (List Str) → Option ((List Str))
 | 0, _, _ => none
 | k3 + 1, v1, v2 =>
 if (decide (v1 < (a0.Firings.length : Int))) = true then
 if (0 : Int) ≤ v1 ∧ v1 < a0.Firings.length then
 (F18 K a0.Policy (a0.Firings.getD v1.toNat Z12)).bind fun v16 =>
 if (v16 == a1) = true then
 (F21 K a0 (a0.Firings.getD v1.toNat Z12)).bind fun v18 =>
 (F31 K v18 a2).bind fun v20 =>
 if v20 = true then
 if v2.length + [(a0.Firings.getD v1.toNat Z12).Rule].length ≤ 1073741824 then
 F25_j22 K (F25_l3 K a0 a1 a2 c6 k3) v1 (v2 ++ [(a0.Firings.getD v1.toNat Z12).Rule])
 else none
 else
 F25_j22 K (F25_l3 K a0 a1 a2 c6 k3) v1 v2
 else
 F25_j13 K (F25_l3 K a0 a1 a2 c6 k3) v1 v2
 else none
 else
 c6 v2
def F25 (K : Nat) (a0 : Ze) (a1 : Str) (a2 : Int) : Option ((List Str)) :=
 F25_l3 K a0 a1 a2 (F25_c5 K) K 0 []
theorem F25_ok (K : Nat) (a0 : Ze) (a1 : Str) (a2 : Int) (r : (List Str)) (h : F25 K a0 a1 a2 = some r) : ACall P 25 ⟨[(Zf a0), (.str a1), (.int .i64 a2)], [], (.sl 1 (r.map Z1i) false), [], []⟩ := by
 refine Z1v Try.func25 Try.results25 rfl Try.ntmps25 rfl rfl rfl ?_
 intro E Q hP hN hro hret
 obtain ⟨P', nt', w0, F0, p0, S0, β0, ro0⟩ := E
 simp only at hP hN
 subst hP hN
 dsimp only [argT]
 unfold F25 at h
 refine Zb <| Z5 <| Z1 I (Z2r I I I I I) I <| Z1 I (Zd (v := (.sl 1 [] true)) I I) I <| Z7 <| Z8 <| Zb <| Z5 <| Z1 I (Zd (v := (.sl 1 [] true)) I I) I <| Z7 <| Z8 <| Zb <| Zb <| Z5 <| Z1 I (Zm I f34_1 I I) I <| Z1 I (Zs I o30 I I I) I <| Z1 I (Z24 (l := a0.Firings) (enc := Zh) I s30 I) I <| Z1 I (Z9 (v := (.int .i64 0)) I I) I <| Z7 <| Z8 <| Z2p (st' := ⟨[(1, (.str a1)), (2, (.int .i64 a2)), (3, (.ptr 3 0)), (7, (.vs 7)), (11, (.sl 4 (a0.Firings.map Zh) false)), (12, (.int .i64 (a0.Firings.length : Int))), (13, (.int .i64 0))], [(3, (.box (Zf a0).cells)), (7, (.vec 1 (List.map Z1i ([] : List Str))))]⟩) (fun a w h => (Z1k _ (ghost_own (k := 7) (m := 7) (sz := 1) I I a w (Z1k ⟨[(7, (.sl 1 [] true)), (1, (.str a1)), (2, (.int .i64 a2)), (3, (.ptr 3 0)), (11, (.sl 4 (a0.Firings.map Zh) false)), (12, (.int .i64 (a0.Firings.length : Int))), (13, (.int .i64 0))], [(3, (.box (Zf a0).cells))]⟩ h ⟨I, I, I, I, I, I, I, J0⟩ ⟨I, J0⟩)) ⟨I, I, I, I, I, I, I, J0⟩ ⟨I, I, J0⟩)) <| Z1r (st' := ⟨[(1, (.str a1)), (2, (.int .i64 a2)), (3, (.ptr 3 0)), (7, (.vs 7)), (11, (.sl 4 (a0.Firings.map Zh) false)), (12, (.int .i64 (a0.Firings.length : Int))), (13, (.int .i64 0))], [(3, (.box (Zf a0).cells)), (7, (.vec 1 (List.map Z1i [])))]⟩) ⟨I, I, I, I, I, I, I, J0⟩ ⟨I, I, J0⟩ ?_
 refine Z1o (V := Int × (List Str)) (X := (List Str)) (lp := fun k v => F25_l3 K a0 a1 a2 (F25_c5 K) k v.1 v.2 = some r) (sh := fun v => ⟨[(1, (.str a1)), (2, (.int .i64 a2)), (3, (.ptr 3 0)), (7, (.vs 7)), (11, (.sl 4 (a0.Firings.map Zh) false)), (12, (.int .i64 (a0.Firings.length : Int))), (13, (.int .i64 v.1))], [(3, (.box (Zf a0).cells)), (7, (.vec 1 (List.map Z1i v.2)))]⟩) (x := fun v => F25_c5 K v = some r) (shx := fun v => ⟨[(7, (.vs 7))], [(7, (.vec 1 (List.map Z1i v)))]⟩) (k := K) (v := (0, [])) h ?_ ?_
 ·intro v h
  revert h
  revert v
  intro v4 h
  try dsimp only at h ⊢
  unfold F25_c5 at h
  refine Z8 <| Zb <| Z5 <| Z1 I (Z9 I I) I ?_
  have ⟨v8, hv8, h⟩ := Z1a h
  refine Z1 I (st_call (d := some 37) (c := ⟨[(.vs 7)], [(7, (.vec 1 (List.map Z1i v4)))], .tup [], [(7, .vec 1 (List.map Z1i v8))], []⟩) (ar := [(.vs 7)]) (caps := []) (news := []) (forg := []) Try.call49 (sortS_ok (n := 7) (enc := Z1i) (l := v4) sortC49 (fun _ => I) hv8) I I ⟨I, J0⟩ I ⟨I, J0⟩ I) I <| Z7 <| Z8 <| Zb <| Z5 <| Z1 I (Z9 I I) I ?_
  have ⟨v10, hv10, h⟩ := Z1a h
  refine Z1 I (st_call (d := some 39) (c := ⟨[(.vs 7)] ++ [], [(7, (.vec 1 (List.map Z1i v8)))], .vs 7, [(7, .vec 1 (List.map Z1i v10))], [7]⟩) (ar := [(.vs 7)]) (caps := []) (news := []) (forg := [7]) Try.call50 ((F50_ok K v8 v10 hv10).sw 0 7) I I ⟨I, J0⟩ I ⟨I, J0⟩ I) I <| Z1 I (Zd I I) I <| Z7 <| Z8 <| Z1e <| Z2w (st' := ⟨[(6, (.sl 1 (v10.map Z1i) false))], []⟩) (fun a w h => (Z1k _ (Z22 (m := 7) (sz := 1) (es := (List.map Z1i v10)) a w (Z1k ⟨[(6, (.vs 7))], [(7, (.vec 1 (List.map Z1i v10)))]⟩ h ⟨I, J0⟩ ⟨I, J0⟩)) ⟨I, J0⟩ J0)) ?_
  have h := Option.some.inj h
  subst h
  refine (hret _ ?_).1
  exact ⟨[(.sl 1 (v10.map Z1i) false)], ⟨I, J0⟩, I, J0⟩
 intro N k3 v h IH3 J3
 obtain ⟨v1, v2⟩ := v
 try dsimp only at h IH3 J3 ⊢
 cases k3 with
 | zero => cases h
 | succ k3 =>
  rw [F25_l3] at h
  refine Zb <| Z5 <| Z1 I (Z1c (c := (decide (v1 < (a0.Firings.length : Int)))) I I I I) I <| Z7 <| Z8 <| Zb ?_
  have hif := Z1h h
  refine Zq I (fun hc => ?_) (fun hc => ?_)
  ·have h := hif.1 hc
   refine Z14 <| Z8 <| Zb ?_
   refine Z2m (V := (List Str)) (lp := fun v => F25_j13 K (F25_l3 K a0 a1 a2 (F25_c5 K) k3) v1 v = some r) (sh := fun v => ⟨[(1, (.str a1)), (2, (.int .i64 a2)), (3, (.ptr 3 0)), (7, (.vs 7)), (11, (.sl 4 (a0.Firings.map Zh) false)), (12, (.int .i64 (a0.Firings.length : Int))), (13, (.int .i64 v1))], [(3, (.box (Zf a0).cells)), (7, (.vec 1 (List.map Z1i v)))]⟩) ?_ ?_
   ·intro v h
    revert h
    revert v
    intro v12 h
    try dsimp only at h ⊢
    unfold F25_j13 at h
    refine Z8 <| Z5 <| Z1 I (Z1p (k := .i64) (b := 1) (c := (IntKind.i64.wrap (v1 + 1))) I I I I) I <| Z1 I (Z9 I I) I <| Z7 ?_
    exact Zz (IH3 _ ((IntKind.i64.wrap (v1 + 1)), v12) (Nat.lt_succ_self _) h) ⟨I, I, I, I, I, I, I, J0⟩ ⟨I, I, J0⟩
   intro J13
   refine Zb <| Z5 ?_
   have ⟨hg14, h⟩ := Zw h
   refine Z1 I (Z1s (k := .i64) (l := a0.Firings) (enc := Zh) (z := Z12) (n := v1) (full := false) I s30 I I hg14 I) I <| Z1 I (Z28 I a42 I I I) I <| Z1 I (Z1x I z42 I I I) I <| Z1 I (Z1f sz42 I I I I I I I I) I <| Z7 <| Z8 <| Zb <| Z5 <| Z1 I (Zm I f34_0 I I) I <| Z1 I (Z1n I a29 I I I I) I <| Z1 I (Z1n I a42 I I I I) I ?_
   have ⟨v16, hv16, h⟩ := Z1a h
   refine Z1 I (Z1d (ar := [(Z2i a0.Policy), (Zh (a0.Firings.getD v1.toNat Z12))]) Try.call18 (F18_ok K a0.Policy (a0.Firings.getD v1.toNat Z12) v16 hv16) I I ⟨I, I, J0⟩ I) I <| Z1 I (Z9 I I) I <| Z1 I (Z2z (c := (v16 == a1)) I I I I) I <| Z1 I (Z9 I I) I ?_
   have hif := Z1h h
   refine Z16 (fun hc => ?_) (fun hc => ?_)
   ·have h := hif.1 hc
    refine Zc I I I I (Z1n I a34 I I I I) I <| Zc I I I I (Z1n I a42 I I I I) I ?_
    have ⟨v18, hv18, h⟩ := Z1a h
    refine Zc I I I I (Z1d (ar := [(Zf a0), (Zh (a0.Firings.getD v1.toNat Z12))]) Try.call21 (F21_ok K a0 (a0.Firings.getD v1.toNat Z12) v18 hv18) I I ⟨I, I, J0⟩ I) I <| Zc I I I I (Z9 I I) I ?_
    have ⟨v20, hv20, h⟩ := Z1a h
    refine Zc I I I I (Z1d (ar := [(.sl 2 (v18.map Z6) false), (.int .i64 a2)]) Try.call31 (F31_ok K v18 a2 v20 hv20) I I ⟨I, I, J0⟩ I) I <| Z1 I (Z19 I I I) I <| Z7 <| Z8 ?_
    refine Z21 (V := (List Str)) (lp := fun v => F25_j22 K (F25_l3 K a0 a1 a2 (F25_c5 K) k3) v1 v = some r) (sh := fun v => ⟨[(1, (.str a1)), (2, (.int .i64 a2)), (3, (.ptr 3 0)), (7, (.vs 7)), (11, (.sl 4 (a0.Firings.map Zh) false)), (12, (.int .i64 (a0.Firings.length : Int))), (13, (.int .i64 v1))], [(3, (.box (Zf a0).cells)), (7, (.vec 1 (List.map Z1i v)))]⟩) ?_ ?_
    ·intro v h
     revert h
     revert v
     intro v21 h
     try dsimp only at h ⊢
     unfold F25_j22 at h
     refine Z27 ?_
     exact Zz (J13 v21 h) ⟨I, I, I, I, I, I, I, J0⟩ ⟨I, I, J0⟩
    intro J22
    have hif := Z1h h
    refine Zq I (fun hc => ?_) (fun hc => ?_)
    ·have h := hif.1 hc
     refine Z5 <| Z1 I (Z9 I I) I <| Z1 I (Zm I f42_0 I I) I <| Z1 I (Zs I o9 I I I) I <| Z1 I (Z1m (vs := [(.str (a0.Firings.getD v1.toNat Z12).Rule)]) (enc := Z1i) (l := [(a0.Firings.getD v1.toNat Z12).Rule]) I el36 I I ⟨I, J0⟩ I Z39 I I I I) I ?_
     have ⟨hg23, h⟩ := Zw h
     refine Z1 I (Z2d (m := 7) (enc := Z1i) (l := v2) (l' := [(a0.Firings.getD v1.toNat Z12).Rule]) (src := (.vs 33)) (rd := [(33, (.vec 1 (List.map Z1i [(a0.Firings.getD v1.toNat Z12).Rule])))]) I I el36 I u36 I I I I (oneRead I) Z39 hg23) I <| Z1 I (Zd I I) I <| Z7 ?_
     exact Zz (J22 (v2 ++ [(a0.Firings.getD v1.toNat Z12).Rule]) h) ⟨I, I, I, I, I, I, I, J0⟩ ⟨I, I, J0⟩
    have h := hif.2 hc
    refine Z14 ?_
    exact Zz (J22 v2 h) ⟨I, I, I, I, I, I, I, J0⟩ ⟨I, I, J0⟩
   have h := hif.2 hc
   iterate 5 refine Zg I I I I I I I ?_
   refine Z1 I (Zy (v := (.bool false)) I I I) I <| Z7 <| Z8 ?_
   refine Zq (b := false) I (fun hc => ?_) (fun hc => ?_)
   ·cases hc
   refine Z14 <| Z27 ?_
   exact Zz (J13 v2 h) ⟨I, I, I, I, I, I, I, J0⟩ ⟨I, I, J0⟩
  have h := hif.2 hc
  refine Z1u <| Z26 ?_
  exact Zz (J3 v2 h) ⟨I, J0⟩ ⟨I, J0⟩
end Go.AM.Noti
