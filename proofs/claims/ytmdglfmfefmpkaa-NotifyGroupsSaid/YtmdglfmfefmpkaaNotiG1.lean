/- What these functions compute, each with its walk: F70, F47, F72, F108_i1, F70_i1, F48, F21, F23, F52, F58, F82, F81, F57, F31, F50, F25. -/
import Derived.Test.YtmdglfmfefmpkaaNotiT
import Derived.Test.YtmdglfmfefmpkaaNotiG0
namespace Go.AM.Noti
open Go Go.AM Go.Proofs
set_option maxRecDepth 100000
set_option maxHeartbeats 2000000
def F70_j14 (K : Nat) (v11 : Bool) (v12 : Int) (v13 : (List Z4)) : Option (Int × Bool × (List Z4)) :=
 some (v12, v11, v13)
def F70_j17 (K : Nat) (v11 : Bool) (v15 : Int) (v16 : (List Z4)) : Option (Int × Bool × (List Z4)) :=
 F70_j14 K v11 v15 v16
def F70_j20 (K : Nat) (v11 : Bool) (v3 : Int) (v19 : (List Z4)) : Option (Int × Bool × (List Z4)) :=
 F70_j14 K v11 v3 v19
def F70_y22 (K : Nat) (x6 : Int) (x7 : A2_Bool) (v3 : Int) (v4 : Bool) (v5 : (List Z4)) : Option (Int × Bool × (List Z4)) :=
 if (0 : Int) ≤ 0 ∧ (0 : Int) < (2 : Nat) then
  if (0 : Int) ≤ 1 ∧ (1 : Int) < (2 : Nat) then
   (F71 K (([x7.e0, x7.e1] : List Bool).getD (0 : Int).toNat false) (([x7.e0, x7.e1] : List Bool).getD (1 : Int).toNat false)).bind fun v11 =>
    if v11 = true then
     if (!v4) = true then
      F70_j17 K v11 x6 v5
     else
      if (!v11) = true then
       if v4 = true then
        if v5.length + [(⟨v3, x6⟩ : Z4)].length ≤ 1073741824 then
         F70_j17 K v11 v3 (v5 ++ [(⟨v3, x6⟩ : Z4)])
        else none
       else
        F70_j17 K v11 v3 v5
      else
       F70_j17 K v11 v3 v5
    else
     if (!v11) = true then
      if v4 = true then
       if v5.length + [(⟨v3, x6⟩ : Z4)].length ≤ 1073741824 then
        F70_j20 K v11 v3 (v5 ++ [(⟨v3, x6⟩ : Z4)])
       else none
      else
       F70_j20 K v11 v3 v5
     else
      F70_j14 K v11 v3 v5
  else none
 else none
def F70 (K : Nat) (a0 : (List Z4)) (a1 : (List Z4)) : Option ((List Z4)) :=
 (F86 K a0 a1).bind fun v2 =>
  (F108 K (F70_y22 K) 0 false [] v2.1 v2.2).bind fun v23 =>
   some v23.2.2
theorem F70_ok (K : Nat) (a0 : (List Z4)) (a1 : (List Z4)) (r : (List Z4)) (h : F70 K a0 a1 = some r) : ACall P 70 ⟨[(.sl 2 (a0.map Z2) false), (.sl 2 (a1.map Z2) false), (.clo 71 [])], [], (.sl 2 (r.map Z2) false), [], []⟩ := by
 refine acall_of Try.func70 Try.results70 rfl Try.ntmps70 rfl rfl rfl ?_
 intro E Q hP hN hro hret
 obtain ⟨P', nt', w0, F0, p0, S0, β0, ro0⟩ := E
 simp only at hP hN
 subst hP hN
 dsimp only [argT]
 unfold F70 at h
 refine Zf <| Z7 <| Z1 I (st_box (v := (.clo 71 [])) (cs := [(.clo 71 [])]) I I I I I) I <| Z1 I (Zg (v := (.sl 2 [] false)) I I) I <| Za <| Zd <| Zf <| Z7 ?_
 refine Z1 I (st_alloc (cs := [(.sl 2 [] true)]) I z45f I I I) I <| Za <| Zd <| Zf <| Z7 <| Z1 I (st_alloc (cs := [(.int .i64 0)]) I z3 I I I) I <| Z1 I (st_alloc (cs := [(.bool false)]) I z4 I I I) I <| Z1 I (Z1k (cs := [(.int .i64 0)]) (vs := [(.int .i64 0)]) (ds := [(.int .i64 0)]) (v := (.int .i64 0)) sz3 I I I I I I I I) I ?_
 refine Z1 I (Z1k (cs := [(.bool false)]) (vs := [(.bool false)]) (ds := [(.bool false)]) (v := (.bool false)) sz4 I I I I I I I I) I <| Za <| Zd <| Zf <| Zf <| Z7 <| Z1 I (Ze (v := (.sl 2 (a0.map Z2) false)) I I) I <| Z1 I (Ze (v := (.sl 2 (a1.map Z2) false)) I I) I ?_
 have ⟨v2, hv2, h⟩ := Z17 h
 refine Z1 I (Z1b (ar := [(.sl 2 (a0.map Z2) false), (.sl 2 (a1.map Z2) false)]) (caps := []) Try.call86 (F86_ok K a0 a1 v2 hv2) I I ⟨rfl, rfl, trivial⟩ I) I <| Za <| Zd <| AWp.block <| AWp.ghost (st' := ⟨[(5, (.ptr 5 0)), (7, (.ptr 7 0)), (8, (.ptr 8 0)), (9, (.ptr 9 0)), (15, (.clo 108 [(.ip [(.sl 2 (v2.1.map Z2) false)]), (.ip [(.sl 2 (v2.2.map Z2) false)])]))], [(5, (.box [(.clo 71 [])])), (7, (.box [(.vs 44)])), (8, (.box [(.int .i64 0)])), (9, (.box [(.bool false)])), (44, (.vec 2 (List.map Z2 ([] : List Z4))))]⟩) (fun a w h => (Z1h ⟨[(5, (.ptr 5 0)), (7, (.ptr 7 0)), (8, (.ptr 8 0)), (9, (.ptr 9 0)), (15, (.clo 108 [(.ip [(.sl 2 (v2.1.map Z2) false)]), (.ip [(.sl 2 (v2.2.map Z2) false)])]))], [(5, (.box [(.clo 71 [])])), (7, (.box [(.vs 44)])), (8, (.box [(.int .i64 0)])), (9, (.box [(.bool false)])), (44, (.vec 2 (List.map Z2 ([] : List Z4))))]⟩ (ghost_ownB (n := 7) (m := 44) (sz := 2) (j := 0) I I I a w (Z1h ⟨[(5, (.ptr 5 0)), (7, (.ptr 7 0)), (8, (.ptr 8 0)), (9, (.ptr 9 0)), (15, (.clo 108 [(.ip [(.sl 2 (v2.1.map Z2) false)]), (.ip [(.sl 2 (v2.2.map Z2) false)])]))], [(7, (.box [(.sl 2 [] true)])), (5, (.box [(.clo 71 [])])), (8, (.box [(.int .i64 0)])), (9, (.box [(.bool false)]))]⟩ h ⟨rfl, rfl, rfl, rfl, rfl, trivial⟩ ⟨rfl, rfl, rfl, rfl, trivial⟩)) ⟨rfl, rfl, rfl, rfl, rfl, trivial⟩ ⟨rfl, rfl, rfl, rfl, rfl, trivial⟩)) ?_
 have ⟨v23, hv23, h⟩ := Z17 h
 refine AWp.weaken (st' := ⟨[(5, (.ptr 5 0)), (7, (.ptr 7 0)), (8, (.ptr 8 0)), (9, (.ptr 9 0)), (15, (.clo 108 [(.ip [(.sl 2 (v2.1.map Z2) false)]), (.ip [(.sl 2 (v2.2.map Z2) false)])]))], [(5, (.box [(.clo 71 [])])), (7, (.box [(.vs 44)])), (8, (.box [(.int .i64 0)])), (9, (.box [(.bool false)])), (44, (.vec 2 (List.map Z2 [])))]⟩) ⟨rfl, rfl, rfl, rfl, rfl, trivial⟩ ⟨rfl, rfl, rfl, rfl, rfl, trivial⟩ ?_
 refine AWp.rangeFunc (n := 1) (f := 108) (caps := [(.ip [(.sl 2 (v2.1.map Z2) false)]), (.ip [(.sl 2 (v2.2.map Z2) false)])]) (ks := [5, 7, 8, 9]) (vs := [(.ptr 5 0), (.ptr 7 0), (.ptr 8 0), (.ptr 9 0)]) (ins := [(44, (.vec 2 (List.map Z2 []))), (5, (.box [(.clo 71 [])])), (7, (.box [(.vs 44)])), (8, (.box [(.int .i64 0)])), (9, (.box [(.bool false)]))]) (outs := [(44, (.vec 2 (List.map Z2 v23.2.2))), (5, (.box [(.clo 71 [])])), (7, (.box [(.vs 44)])), (8, (.box [(.int .i64 v23.1)])), (9, (.box [(.bool v23.2.1)]))]) (res := .tup []) (mv := [44]) (forg := [44]) (jump := none) hro Try.call108 I I I I ⟨rfl, rfl, rfl, rfl, trivial⟩ ⟨rfl, rfl, rfl, rfl, rfl, trivial⟩ I I I I (fun lr hst hpe hpr has hbd hsz => ?_) (fun _ => ?_) (fun c hc => by cases hc)
 ·have hend := endRec_self hst hpe
  rw [hend]
  have hps : lr.params.size = 2 ∧ True := ⟨by rw [hpr]; rfl, trivial⟩
  have hy : ∀ (x6 : Int) (x7 : A2_Bool) (v3 : Int) (v4 : Bool) (v5 : (List Z4)) (w : Int × Bool × (List Z4)), F70_y22 K x6 x7 v3 v4 v5 = some w → YCall P lr 1000 ⟨[(.int .i64 x6), (e_A2_Bool x7)], [(1000, .loop lr [5, 7, 8, 9] [(.ptr 1001 0), (.ptr 1002 0), (.ptr 1003 0), (.ptr 1004 0)]), (0, (.vec 2 (List.map Z2 v5))), (1001, (.box [(.clo 71 [])])), (1002, (.box [(.vs 0)])), (1003, (.box [(.int .i64 v3)])), (1004, (.box [(.bool v4)]))], .bool true, [(1000, .loop lr [5, 7, 8, 9] [(.ptr 1001 0), (.ptr 1002 0), (.ptr 1003 0), (.ptr 1004 0)]), (0, (.vec 2 (List.map Z2 w.2.2))), (1001, (.box [(.clo 71 [])])), (1002, (.box [(.vs 0)])), (1003, (.box [(.int .i64 w.1)])), (1004, (.box [(.bool w.2.1)]))], [0]⟩ := by
   intro x6 x7 v3 v4 v5 r h
   unfold F70_y22 at h
   refine ycall_of (ks := [5, 7, 8, 9]) (vs := [(.ptr 1001 0), (.ptr 1002 0), (.ptr 1003 0), (.ptr 1004 0)]) (ps := [16, 17]) rfl hst hsz hpr rfl (by decide) rfl rfl rfl ?_
   intro E Qa Qb hP hN hmid hfin
   obtain ⟨P', nt', w0, F0, p0, S0, β0, ro0⟩ := E
   simp only at hP hN
   subst hP hN
   refine AWp.code has ?_
   dsimp only [List.zip, List.zipWith, List.cons_append, List.nil_append]
   refine Zf <| Z7 <| Z1 I (Zg (v := (.int .i64 x6)) I I) I <| Za <| Zd <| Z7 <| Z1 I (st_alloc (cs := [(.bool false), (.bool false)]) I z128 I I I) I <| Z1 I (Z1k (cs := [(.bool false), (.bool false)]) (vs := (e_A2_Bool x7).cells) (ds := (e_A2_Bool x7).cells) (v := (e_A2_Bool x7)) sz128 I I I I I I I I) I ?_
   refine Za ?_
   refine hmid _ _ _ rfl ?_
   refine AWp.code hbd <| AWp.block <| Zf <| Z7 <| Z1 I (Z11 (cs := [(.clo 71 [])]) (v := (.clo 71 [])) I o112 I I I) I <| AOps.ghost (st' := ⟨[(5, (.ptr 1001 0)), (7, (.ptr 1002 0)), (8, (.ptr 1003 0)), (9, (.ptr 1004 0)), (10, (.int .i64 x6)), (11, (.ip (e_A2_Bool x7).cells)), (18, (.clo 71 []))], [(0, (.vec 2 (List.map Z2 v5))), (1000, (.loop { lr with state := .busy } [5, 7, 8, 9] [(.ptr 1001 0), (.ptr 1002 0), (.ptr 1003 0), (.ptr 1004 0)])), (1001, (.box [(.clo 71 [])])), (1002, (.box [(.vs 0)])), (1003, (.box [(.int .i64 v3)])), (1004, (.box [(.bool v4)]))]⟩) (fun a w h => (Z1h ⟨[(5, (.ptr 1001 0)), (7, (.ptr 1002 0)), (8, (.ptr 1003 0)), (9, (.ptr 1004 0)), (10, (.int .i64 x6)), (11, (.ip (e_A2_Bool x7).cells)), (18, (.clo 71 []))], [(0, (.vec 2 (List.map Z2 v5))), (1000, (.loop { lr with state := .busy } [5, 7, 8, 9] [(.ptr 1001 0), (.ptr 1002 0), (.ptr 1003 0), (.ptr 1004 0)])), (1001, (.box [(.clo 71 [])])), (1002, (.box [(.vs 0)])), (1003, (.box [(.int .i64 v3)])), (1004, (.box [(.bool v4)]))]⟩ (ghost_freezeB (m := 11) (cs := (e_A2_Bool x7).cells) I a w (Z1h ⟨[(5, (.ptr 1001 0)), (7, (.ptr 1002 0)), (8, (.ptr 1003 0)), (9, (.ptr 1004 0)), (10, (.int .i64 x6)), (11, (.ptr 11 0)), (18, (.clo 71 []))], [(11, (.box (e_A2_Bool x7).cells)), (0, (.vec 2 (List.map Z2 v5))), (1000, (.loop { lr with state := .busy } [5, 7, 8, 9] [(.ptr 1001 0), (.ptr 1002 0), (.ptr 1003 0), (.ptr 1004 0)])), (1001, (.box [(.clo 71 [])])), (1002, (.box [(.vs 0)])), (1003, (.box [(.int .i64 v3)])), (1004, (.box [(.bool v4)]))]⟩ h ⟨rfl, rfl, rfl, rfl, rfl, rfl, rfl, trivial⟩ ⟨rfl, rfl, rfl, rfl, rfl, rfl, rfl, trivial⟩)) ⟨rfl, rfl, rfl, rfl, rfl, rfl, rfl, trivial⟩ ⟨rfl, rfl, rfl, rfl, rfl, rfl, trivial⟩)) ?_
   have ⟨hg8, h⟩ := Zz h
   refine Z1 I (st_indexIL (k := .i64) (j := (0 : Int)) (l := [x7.e0, x7.e1]) (enc := e_bool) (z := false) (cs := (e_A2_Bool x7).cells) (ds := [(.bool (([x7.e0, x7.e1] : List Bool).getD (0 : Int).toNat false))]) I u128 sz4 I I I I els_bool hg8 I) I <| Z1 I (Z1m (cs := [(.bool (([x7.e0, x7.e1] : List Bool).getD (0 : Int).toNat false))]) (v := (.bool (([x7.e0, x7.e1] : List Bool).getD (0 : Int).toNat false))) I o4 I I) I ?_
   have ⟨hg9, h⟩ := Zz h
   refine Z1 I (st_indexIL (k := .i64) (j := (1 : Int)) (l := [x7.e0, x7.e1]) (enc := e_bool) (z := false) (cs := (e_A2_Bool x7).cells) (ds := [(.bool (([x7.e0, x7.e1] : List Bool).getD (1 : Int).toNat false))]) I u128 sz4 I I I I els_bool hg9 I) I <| Z1 I (Z1m (cs := [(.bool (([x7.e0, x7.e1] : List Bool).getD (1 : Int).toNat false))]) (v := (.bool (([x7.e0, x7.e1] : List Bool).getD (1 : Int).toNat false))) I o4 I I) I ?_
   have ⟨v11, hv11, h⟩ := Z17 h
   refine Z1 I (Z1b (ar := [(.bool (([x7.e0, x7.e1] : List Bool).getD (0 : Int).toNat false)), (.bool (([x7.e0, x7.e1] : List Bool).getD (1 : Int).toNat false))]) (caps := []) Try.call71 (F71_ok K (([x7.e0, x7.e1] : List Bool).getD (0 : Int).toNat false) (([x7.e0, x7.e1] : List Bool).getD (1 : Int).toNat false) v11 hv11) I I ⟨rfl, rfl, trivial⟩ I) I <| Z1 I (Zg (v := (.bool v11)) I I) I <| Za <| Zd <| Zf ?_
   refine AWp.blockJoin (V := Int × (List Z4)) (lp := fun v => F70_j14 K v11 v.1 v.2 = some r) (sh := fun v => ⟨[(5, (.ptr 1001 0)), (7, (.ptr 1002 0)), (8, (.ptr 1003 0)), (9, (.ptr 1004 0)), (12, (.bool v11))], [(0, (.vec 2 (List.map Z2 v.2))), (1000, (.loop { lr with state := .busy } [5, 7, 8, 9] [(.ptr 1001 0), (.ptr 1002 0), (.ptr 1003 0), (.ptr 1004 0)])), (1001, (.box [(.clo 71 [])])), (1002, (.box [(.vs 0)])), (1003, (.box [(.int .i64 v.1)])), (1004, (.box [(.bool v4)]))]⟩) ?_ ?_
   ·intro v h
    obtain ⟨v12, v13⟩ := v
    try dsimp only at h ⊢
    unfold F70_j14 at h
    refine Zd <| Z7 <| Z1 I (Ze (v := (.bool v11)) I I) I <| Z1 I (Z1k (cs := [(.bool v4)]) (vs := [(.bool v11)]) (ds := [(.bool v11)]) (v := (.bool v11)) sz4 I I I I I I I I) I <| Za <| At.end ?_
    have h := Option.some.inj h
    subst h
    refine hfin _ _ _ none .normal rfl rfl rfl ?_
    rw [hend]
    exact ⟨rfl, rfl, rfl, rfl, rfl, rfl, trivial⟩
   ·intro J14
    refine Zf <| Z7 <| Z1 I (Ze (v := (.bool v11)) I I) I <| Z1 I (Ze (v := (.bool v11)) I I) I ?_
    have hif := Z1g h
    refine Z15 (fun hc => ?_) (fun hc => ?_)
    ·have h := hif.1 hc
     refine Zh I I I I (Z11 (cs := [(.bool v4)]) (v := (.bool v4)) I o4 I I I) I <| Zh I I I I (st_not (b := v4) I I) I <| Z1 I (Z1d (v := (.bool (!v4))) I I I) I <| Z1 I (Zg (v := (.bool (!v4))) I I) I <| Za <| Zd ?_
     refine AWp.join (V := Int × (List Z4)) (lp := fun v => F70_j17 K v11 v.1 v.2 = some r) (sh := fun v => ⟨[(5, (.ptr 1001 0)), (7, (.ptr 1002 0)), (8, (.ptr 1003 0)), (9, (.ptr 1004 0)), (12, (.bool v11))], [(0, (.vec 2 (List.map Z2 v.2))), (1000, (.loop { lr with state := .busy } [5, 7, 8, 9] [(.ptr 1001 0), (.ptr 1002 0), (.ptr 1003 0), (.ptr 1004 0)])), (1001, (.box [(.clo 71 [])])), (1002, (.box [(.vs 0)])), (1003, (.box [(.int .i64 v.1)])), (1004, (.box [(.bool v4)]))]⟩) ?_ ?_
     ·intro v h
      obtain ⟨v15, v16⟩ := v
      try dsimp only at h ⊢
      unfold F70_j17 at h
      refine At.end ?_
      exact Zp (st' := ⟨[(5, (.ptr 1001 0)), (7, (.ptr 1002 0)), (8, (.ptr 1003 0)), (9, (.ptr 1004 0)), (12, (.bool v11))], [(0, (.vec 2 (List.map Z2 v16))), (1000, (.loop { lr with state := .busy } [5, 7, 8, 9] [(.ptr 1001 0), (.ptr 1002 0), (.ptr 1003 0), (.ptr 1004 0)])), (1001, (.box [(.clo 71 [])])), (1002, (.box [(.vs 0)])), (1003, (.box [(.int .i64 v15)])), (1004, (.box [(.bool v4)]))]⟩) ⟨rfl, rfl, rfl, rfl, rfl, trivial⟩ ⟨rfl, rfl, rfl, rfl, rfl, rfl, trivial⟩ (J14 (v15, v16) h)
     ·intro J17
      have hif := Z1g h
      refine Zs I (fun hc => ?_) (fun hc => ?_)
      ·have h := hif.1 hc
       refine Z7 <| Z1 I (Ze (v := (.int .i64 x6)) I I) I <| Z1 I (Z1k (cs := [(.int .i64 v3)]) (vs := [(.int .i64 x6)]) (ds := [(.int .i64 x6)]) (v := (.int .i64 x6)) sz3 I I I I I I I I) I <| Za ?_
       exact Zp (st' := ⟨[(5, (.ptr 1001 0)), (7, (.ptr 1002 0)), (8, (.ptr 1003 0)), (9, (.ptr 1004 0)), (12, (.bool v11))], [(0, (.vec 2 (List.map Z2 v5))), (1000, (.loop { lr with state := .busy } [5, 7, 8, 9] [(.ptr 1001 0), (.ptr 1002 0), (.ptr 1003 0), (.ptr 1004 0)])), (1001, (.box [(.clo 71 [])])), (1002, (.box [(.vs 0)])), (1003, (.box [(.int .i64 x6)])), (1004, (.box [(.bool v4)]))]⟩) ⟨rfl, rfl, rfl, rfl, rfl, trivial⟩ ⟨rfl, rfl, rfl, rfl, rfl, rfl, trivial⟩ (J17 (x6, v5) h)
      ·have h := hif.2 hc
       refine Zf <| Z7 <| Z1 I (Ze (v := (.bool v11)) I I) I <| Z1 I (st_not (b := v11) I I) I <| Z1 I (Ze (v := (.bool (!v11))) I I) I ?_
       have hif := Z1g h
       refine Z15 (fun hc => ?_) (fun hc => ?_)
       ·have h := hif.1 hc
        refine Zh I I I I (Z11 (cs := [(.bool v4)]) (v := (.bool v4)) I o4 I I I) I <| Z1 I (Z1d (v := (.bool v4)) I I I) I <| Z1 I (Zg (v := (.bool v4)) I I) I <| Za <| Zd ?_
        have hif := Z1g h
        refine Zs I (fun hc => ?_) (fun hc => ?_)
        ·have h := hif.1 hc
         refine Z7 <| Z1 I (Z11 (cs := [(.vs 0)]) (v := (.vs 0)) I o45 I I I) I <| Z1 I (Z11 (cs := [(.int .i64 v3)]) (v := (.int .i64 v3)) I o3 I I I) I <| Z1 I (Ze (v := (.int .i64 x6)) I I) I <| Z1 I (stx_build (vs := [(0, (.int .i64 v3)), (1, (.int .i64 x6))]) (cs := [(.int .i64 v3), (.int .i64 x6)]) I st40 ⟨rfl, rfl, rfl, rfl, trivial⟩ I) I <| Z1 I (Z1n (vs := [(.ag [(.int .i64 v3), (.int .i64 x6)])]) (enc := Z2) (l := [(⟨v3, x6⟩ : Z4)]) I el45 I I ⟨rfl, trivial⟩ I els_Tapi_Interval I I I I) I ?_
         have ⟨hg18, h⟩ := Zz h
         refine Z1 I (st_append (m := 0) (enc := Z2) (l := v5) (l' := [(⟨v3, x6⟩ : Z4)]) (src := (.vs 41)) (rd := [(41, (.vec 2 (List.map Z2 [(⟨v3, x6⟩ : Z4)])))]) I I el45 I u45 I I I I (oneRead I) els_Tapi_Interval hg18) I <| Z1 I (Z1k (cs := [.undef]) (vs := [(.vs 0)]) (ds := [(.vs 0)]) (v := (.vs 0)) sz45 I I I I I I I I) I <| Za ?_
         exact Zp (st' := ⟨[(5, (.ptr 1001 0)), (7, (.ptr 1002 0)), (8, (.ptr 1003 0)), (9, (.ptr 1004 0)), (12, (.bool v11))], [(0, (.vec 2 (List.map Z2 (v5 ++ [(⟨v3, x6⟩ : Z4)])))), (1000, (.loop { lr with state := .busy } [5, 7, 8, 9] [(.ptr 1001 0), (.ptr 1002 0), (.ptr 1003 0), (.ptr 1004 0)])), (1001, (.box [(.clo 71 [])])), (1002, (.box [(.vs 0)])), (1003, (.box [(.int .i64 v3)])), (1004, (.box [(.bool v4)]))]⟩) ⟨rfl, rfl, rfl, rfl, rfl, trivial⟩ ⟨rfl, rfl, rfl, rfl, rfl, rfl, trivial⟩ (J17 (v3, (v5 ++ [(⟨v3, x6⟩ : Z4)])) h)
        ·have h := hif.2 hc
         refine Zx ?_
         exact Zp (st' := ⟨[(5, (.ptr 1001 0)), (7, (.ptr 1002 0)), (8, (.ptr 1003 0)), (9, (.ptr 1004 0)), (12, (.bool v11))], [(0, (.vec 2 (List.map Z2 v5))), (1000, (.loop { lr with state := .busy } [5, 7, 8, 9] [(.ptr 1001 0), (.ptr 1002 0), (.ptr 1003 0), (.ptr 1004 0)])), (1001, (.box [(.clo 71 [])])), (1002, (.box [(.vs 0)])), (1003, (.box [(.int .i64 v3)])), (1004, (.box [(.bool v4)]))]⟩) ⟨rfl, rfl, rfl, rfl, rfl, trivial⟩ ⟨rfl, rfl, rfl, rfl, rfl, rfl, trivial⟩ (J17 (v3, v5) h)
       ·have h := hif.2 hc
        refine Z5 I I I I I I I <| Z1 I (Z10 (v := (.bool false)) I I I) I <| Z1 I (Zg (v := (.bool false)) I I) I <| Za <| Zd ?_
        refine Zs (b := false) I (fun hc => ?_) (fun hc => ?_)
        ·cases hc
        refine Zx ?_
        exact Zp (st' := ⟨[(5, (.ptr 1001 0)), (7, (.ptr 1002 0)), (8, (.ptr 1003 0)), (9, (.ptr 1004 0)), (12, (.bool v11))], [(0, (.vec 2 (List.map Z2 v5))), (1000, (.loop { lr with state := .busy } [5, 7, 8, 9] [(.ptr 1001 0), (.ptr 1002 0), (.ptr 1003 0), (.ptr 1004 0)])), (1001, (.box [(.clo 71 [])])), (1002, (.box [(.vs 0)])), (1003, (.box [(.int .i64 v3)])), (1004, (.box [(.bool v4)]))]⟩) ⟨rfl, rfl, rfl, rfl, rfl, trivial⟩ ⟨rfl, rfl, rfl, rfl, rfl, rfl, trivial⟩ (J17 (v3, v5) h)
    ·have h := hif.2 hc
     refine Z5 I I I I I I I <| Z5 I I I I I I I <| Z1 I (Z10 (v := (.bool false)) I I I) I <| Z1 I (Zg (v := (.bool false)) I I) I <| Za <| Zd ?_
     refine Zs (b := false) I (fun hc => ?_) (fun hc => ?_)
     ·cases hc
     refine Zf <| Z7 <| Z1 I (Ze (v := (.bool v11)) I I) I <| Z1 I (st_not (b := v11) I I) I <| Z1 I (Ze (v := (.bool (!v11))) I I) I ?_
     have hif := Z1g h
     refine Z15 (fun hc => ?_) (fun hc => ?_)
     ·have h := hif.1 hc
      refine Zh I I I I (Z11 (cs := [(.bool v4)]) (v := (.bool v4)) I o4 I I I) I <| Z1 I (Z1d (v := (.bool v4)) I I I) I <| Z1 I (Zg (v := (.bool v4)) I I) I <| Za <| Zd ?_
      refine AWp.join (V := (List Z4)) (lp := fun v => F70_j20 K v11 v3 v = some r) (sh := fun v => ⟨[(5, (.ptr 1001 0)), (7, (.ptr 1002 0)), (8, (.ptr 1003 0)), (9, (.ptr 1004 0)), (12, (.bool v11))], [(0, (.vec 2 (List.map Z2 v))), (1000, (.loop { lr with state := .busy } [5, 7, 8, 9] [(.ptr 1001 0), (.ptr 1002 0), (.ptr 1003 0), (.ptr 1004 0)])), (1001, (.box [(.clo 71 [])])), (1002, (.box [(.vs 0)])), (1003, (.box [(.int .i64 v3)])), (1004, (.box [(.bool v4)]))]⟩) ?_ ?_
      ·intro v h
       revert h
       revert v
       intro v19 h
       try dsimp only at h ⊢
       unfold F70_j20 at h
       refine At.end ?_
       exact Zp (st' := ⟨[(5, (.ptr 1001 0)), (7, (.ptr 1002 0)), (8, (.ptr 1003 0)), (9, (.ptr 1004 0)), (12, (.bool v11))], [(0, (.vec 2 (List.map Z2 v19))), (1000, (.loop { lr with state := .busy } [5, 7, 8, 9] [(.ptr 1001 0), (.ptr 1002 0), (.ptr 1003 0), (.ptr 1004 0)])), (1001, (.box [(.clo 71 [])])), (1002, (.box [(.vs 0)])), (1003, (.box [(.int .i64 v3)])), (1004, (.box [(.bool v4)]))]⟩) ⟨rfl, rfl, rfl, rfl, rfl, trivial⟩ ⟨rfl, rfl, rfl, rfl, rfl, rfl, trivial⟩ (J14 (v3, v19) h)
      ·intro J20
       have hif := Z1g h
       refine Zs I (fun hc => ?_) (fun hc => ?_)
       ·have h := hif.1 hc
        refine Z7 <| Z1 I (Z11 (cs := [(.vs 0)]) (v := (.vs 0)) I o45 I I I) I <| Z1 I (Z11 (cs := [(.int .i64 v3)]) (v := (.int .i64 v3)) I o3 I I I) I <| Z1 I (Ze (v := (.int .i64 x6)) I I) I <| Z1 I (stx_build (vs := [(0, (.int .i64 v3)), (1, (.int .i64 x6))]) (cs := [(.int .i64 v3), (.int .i64 x6)]) I st40 ⟨rfl, rfl, rfl, rfl, trivial⟩ I) I <| Z1 I (Z1n (vs := [(.ag [(.int .i64 v3), (.int .i64 x6)])]) (enc := Z2) (l := [(⟨v3, x6⟩ : Z4)]) I el45 I I ⟨rfl, trivial⟩ I els_Tapi_Interval I I I I) I ?_
        have ⟨hg21, h⟩ := Zz h
        refine Z1 I (st_append (m := 0) (enc := Z2) (l := v5) (l' := [(⟨v3, x6⟩ : Z4)]) (src := (.vs 41)) (rd := [(41, (.vec 2 (List.map Z2 [(⟨v3, x6⟩ : Z4)])))]) I I el45 I u45 I I I I (oneRead I) els_Tapi_Interval hg21) I <| Z1 I (Z1k (cs := [.undef]) (vs := [(.vs 0)]) (ds := [(.vs 0)]) (v := (.vs 0)) sz45 I I I I I I I I) I <| Za ?_
        exact Zp (st' := ⟨[(5, (.ptr 1001 0)), (7, (.ptr 1002 0)), (8, (.ptr 1003 0)), (9, (.ptr 1004 0)), (12, (.bool v11))], [(0, (.vec 2 (List.map Z2 (v5 ++ [(⟨v3, x6⟩ : Z4)])))), (1000, (.loop { lr with state := .busy } [5, 7, 8, 9] [(.ptr 1001 0), (.ptr 1002 0), (.ptr 1003 0), (.ptr 1004 0)])), (1001, (.box [(.clo 71 [])])), (1002, (.box [(.vs 0)])), (1003, (.box [(.int .i64 v3)])), (1004, (.box [(.bool v4)]))]⟩) ⟨rfl, rfl, rfl, rfl, rfl, trivial⟩ ⟨rfl, rfl, rfl, rfl, rfl, rfl, trivial⟩ (J20 (v5 ++ [(⟨v3, x6⟩ : Z4)]) h)
       ·have h := hif.2 hc
        refine Zx ?_
        exact Zp (st' := ⟨[(5, (.ptr 1001 0)), (7, (.ptr 1002 0)), (8, (.ptr 1003 0)), (9, (.ptr 1004 0)), (12, (.bool v11))], [(0, (.vec 2 (List.map Z2 v5))), (1000, (.loop { lr with state := .busy } [5, 7, 8, 9] [(.ptr 1001 0), (.ptr 1002 0), (.ptr 1003 0), (.ptr 1004 0)])), (1001, (.box [(.clo 71 [])])), (1002, (.box [(.vs 0)])), (1003, (.box [(.int .i64 v3)])), (1004, (.box [(.bool v4)]))]⟩) ⟨rfl, rfl, rfl, rfl, rfl, trivial⟩ ⟨rfl, rfl, rfl, rfl, rfl, rfl, trivial⟩ (J20 v5 h)
     ·have h := hif.2 hc
      refine Z5 I I I I I I I <| Z1 I (Z10 (v := (.bool false)) I I I) I <| Z1 I (Zg (v := (.bool false)) I I) I <| Za <| Zd ?_
      refine Zs (b := false) I (fun hc => ?_) (fun hc => ?_)
      ·cases hc
      refine Zx <| At.end ?_
      exact Zp (st' := ⟨[(5, (.ptr 1001 0)), (7, (.ptr 1002 0)), (8, (.ptr 1003 0)), (9, (.ptr 1004 0)), (12, (.bool v11))], [(0, (.vec 2 (List.map Z2 v5))), (1000, (.loop { lr with state := .busy } [5, 7, 8, 9] [(.ptr 1001 0), (.ptr 1002 0), (.ptr 1003 0), (.ptr 1004 0)])), (1001, (.box [(.clo 71 [])])), (1002, (.box [(.vs 0)])), (1003, (.box [(.int .i64 v3)])), (1004, (.box [(.bool v4)]))]⟩) ⟨rfl, rfl, rfl, rfl, rfl, trivial⟩ ⟨rfl, rfl, rfl, rfl, rfl, rfl, trivial⟩ (J14 (v3, v5) h)
  exact ((((((F108_ok K (F70_y22 K) 0 false [] v2.1 v2.2 v23 lr hv23 hps.1 hy).sw 1000 1).sw 0 44).sw 1001 5).sw 1002 7).sw 1003 8).sw 1004 9
 ·refine Zp (st' := ⟨[(5, (.ptr 5 0)), (7, (.ptr 7 0)), (8, (.ptr 8 0)), (9, (.ptr 9 0)), (15, (.clo 108 [(.ip [(.sl 2 (v2.1.map Z2) false)]), (.ip [(.sl 2 (v2.2.map Z2) false)])]))], [(5, (.box [(.clo 71 [])])), (7, (.box [(.vs 44)])), (8, (.box [(.int .i64 v23.1)])), (9, (.box [(.bool v23.2.1)])), (44, (.vec 2 (List.map Z2 v23.2.2)))]⟩) ⟨rfl, rfl, rfl, rfl, rfl, trivial⟩ ⟨rfl, rfl, rfl, rfl, rfl, trivial⟩ <| At.end <| Zd <| Zf <| Z7 <| Z1 I (Z11 (cs := [(.vs 44)]) (v := (.vs 44)) I o45 I I I) I <| Z1 I (Zg (v := (.vs 44)) I I) I <| Za ?_
  refine Zd <| Z18 <| At.ghost (st' := ⟨[(6, (.sl 2 (v23.2.2.map Z2) false))], []⟩) (fun a w h => (Z1h ⟨[(6, (.sl 2 (v23.2.2.map Z2) false))], []⟩ (ghost_freeze (m := 44) (sz := 2) (es := (List.map Z2 v23.2.2)) a w (Z1h ⟨[(6, (.vs 44))], [(44, (.vec 2 (List.map Z2 v23.2.2)))]⟩ h ⟨rfl, trivial⟩ ⟨rfl, trivial⟩)) ⟨rfl, trivial⟩ trivial)) ?_
  have h := Option.some.inj h
  subst h
  refine (hret _ ?_).1
  exact ⟨[(.sl 2 (v23.2.2.map Z2) false)], ⟨rfl, trivial⟩, rfl, trivial⟩
def F47 (K : Nat) (a0 : (List Z4)) (a1 : (List Z4)) : Option ((List Z4)) :=
 (F70 K a0 a1).bind fun v2 =>
  some v2
theorem F47_ok (K : Nat) (a0 : (List Z4)) (a1 : (List Z4)) (r : (List Z4)) (h : F47 K a0 a1 = some r) : ACall P 47 ⟨[(.sl 2 (a0.map Z2) false), (.sl 2 (a1.map Z2) false)], [], (.sl 2 (r.map Z2) false), [], []⟩ := by
 refine acall_of Try.func47 Try.results47 rfl Try.ntmps47 rfl rfl rfl ?_
 intro E Q hP hN hro hret
 obtain ⟨P', nt', w0, F0, p0, S0, β0, ro0⟩ := E
 simp only at hP hN
 subst hP hN
 dsimp only [argT]
 unfold F47 at h
 refine Zf <| Z7 <| Z1 I (Zg (v := (.sl 2 [] false)) I I) I <| Za <| Zd <| Zf <| Z7 <| Z1 I (Ze (v := (.sl 2 (a0.map Z2) false)) I I) I ?_
 refine Z1 I (Ze (v := (.sl 2 (a1.map Z2) false)) I I) I ?_
 have ⟨v2, hv2, h⟩ := Z17 h
 refine Z1 I (Z1b (ar := [(.sl 2 (a0.map Z2) false), (.sl 2 (a1.map Z2) false), (.clo 71 [])]) (caps := []) Try.call70 (F70_ok K a0 a1 v2 hv2) I I ⟨rfl, rfl, rfl, trivial⟩ I) I <| Z1 I (Zg (v := (.sl 2 (v2.map Z2) false)) I I) I <| Za <| Zd <| Z18 ?_
 have h := Option.some.inj h
 subst h
 refine (hret _ ?_).1
 exact ⟨[(.sl 2 (v2.map Z2) false)], ⟨rfl, trivial⟩, rfl, trivial⟩
def F72 (K : Nat) (a0 : Bool) (a1 : Bool) : Option (Bool) :=
 if a0 = true then
  some (!a1)
 else
  some false
theorem F72_ok (K : Nat) (a0 : Bool) (a1 : Bool) (r : Bool) (h : F72 K a0 a1 = some r) : ACall P 72 ⟨[(.bool a0), (.bool a1)], [], (.bool r), [], []⟩ := by
 refine acall_of Try.func72 Try.results72 rfl Try.ntmps72 rfl rfl rfl ?_
 intro E Q hP hN hro hret
 obtain ⟨P', nt', w0, F0, p0, S0, β0, ro0⟩ := E
 simp only at hP hN
 subst hP hN
 dsimp only [argT]
 unfold F72 at h
 refine Zf <| Z7 <| Z1 I (Zg (v := (.bool false)) I I) I <| Za <| Zd <| Zf <| Z7 <| Z1 I (Ze (v := (.bool a0)) I I) I ?_
 refine Z1 I (Ze (v := (.bool a0)) I I) I ?_
 have hif := Z1g h
 refine Z15 (fun hc => ?_) (fun hc => ?_)
 ·have h := hif.1 hc
  refine Zh I I I I (Ze (v := (.bool a1)) I I) I <| Zh I I I I (st_not (b := a1) I I) I <| Z1 I (Z1d (v := (.bool (!a1))) I I I) I <| Z1 I (Zg (v := (.bool (!a1))) I I) I <| Za <| Zd <| Z18 ?_
  have h := Option.some.inj h
  subst h
  refine (hret _ ?_).1
  exact ⟨[(.bool (!a1))], ⟨rfl, trivial⟩, rfl, trivial⟩
 ·have h := hif.2 hc
  refine Z5 I I I I I I I <| Z5 I I I I I I I <| Z1 I (Z10 (v := (.bool false)) I I I) I <| Z1 I (Zg (v := (.bool false)) I I) I <| Za <| Zd <| Z18 ?_
  have h := Option.some.inj h
  subst h
  refine (hret _ ?_).1
  exact ⟨[(.bool false)], ⟨rfl, trivial⟩, rfl, trivial⟩
def F108_i1_c10 (K : Nat) (v7 : (List Z4)) (v8 : Int) (v9 : Bool) : Option (Int × Bool × (List Z4)) :=
 some (v8, v9, v7)
def F108_i1_j18 (K : Nat) (b12 : Int → Int → (List Z4) → Int → Bool → Option (Int × Bool × (List Z4))) (v13 : Int) (v14 : Int) (v15 : (List Z4)) (v16 : Int) (v17 : Bool) : Option (Int × Bool × (List Z4)) :=
 b12 v13 v14 v15 v16 v17
def F108_i1_j30 (K : Nat) (a899 : Int → A2_Bool → Int → Bool → (List Z4) → Option (Int × Bool × (List Z4))) (v25 : Int) (v27 : Int) (v4 : Int) (v5 : Bool) (v3 : (List Z4)) (b12 : Int → Int → (List Z4) → Int → Bool → Option (Int × Bool × (List Z4))) (v29 : Int) : Option (Int × Bool × (List Z4)) :=
 (a899 v25 (⟨((v27.tmod 2) == 1), ((v29.tmod 2) == 1)⟩ : A2_Bool) v4 v5 v3).bind fun v31 =>
  F108_i1_j18 K b12 v27 v29 v31.2.2 v31.1 v31.2.1
def F108_i1_j28 (K : Nat) (v22 : Int × Bool) (v25 : Int) (a899 : Int → A2_Bool → Int → Bool → (List Z4) → Option (Int × Bool × (List Z4))) (v4 : Int) (v5 : Bool) (v3 : (List Z4)) (b12 : Int → Int → (List Z4) → Int → Bool → Option (Int × Bool × (List Z4))) (v2 : Int) (v27 : Int) : Option (Int × Bool × (List Z4)) :=
 if v22.2 = true then
  if (v22.1 == v25) = true then
   F108_i1_j30 K a899 v25 v27 v4 v5 v3 b12 (IntKind.i64.wrap (v2 + 1))
  else
   F108_i1_j30 K a899 v25 v27 v4 v5 v3 b12 v2
 else
  (a899 v25 (⟨((v27.tmod 2) == 1), ((v2.tmod 2) == 1)⟩ : A2_Bool) v4 v5 v3).bind fun v32 =>
   F108_i1_j18 K b12 v27 v2 v32.2.2 v32.1 v32.2.1
def F108_i1_j34 (K : Nat) (a899 : Int → A2_Bool → Int → Bool → (List Z4) → Option (Int × Bool × (List Z4))) (v25 : Int) (v1 : Int) (v4 : Int) (v5 : Bool) (v3 : (List Z4)) (b12 : Int → Int → (List Z4) → Int → Bool → Option (Int × Bool × (List Z4))) (v33 : Int) : Option (Int × Bool × (List Z4)) :=
 (a899 v25 (⟨((v1.tmod 2) == 1), ((v33.tmod 2) == 1)⟩ : A2_Bool) v4 v5 v3).bind fun v35 =>
  F108_i1_j18 K b12 v1 v33 v35.2.2 v35.1 v35.2.1
def F108_i1_j26 (K : Nat) (v20 : Int × Bool) (v22 : Int × Bool) (a899 : Int → A2_Bool → Int → Bool → (List Z4) → Option (Int × Bool × (List Z4))) (v4 : Int) (v5 : Bool) (v3 : (List Z4)) (b12 : Int → Int → (List Z4) → Int → Bool → Option (Int × Bool × (List Z4))) (v2 : Int) (v1 : Int) (v25 : Int) : Option (Int × Bool × (List Z4)) :=
 if v20.2 = true then
  if (v20.1 == v25) = true then
   F108_i1_j28 K v22 v25 a899 v4 v5 v3 b12 v2 (IntKind.i64.wrap (v1 + 1))
  else
   F108_i1_j28 K v22 v25 a899 v4 v5 v3 b12 v2 v1
 else
  if v22.2 = true then
   if (v22.1 == v25) = true then
    F108_i1_j34 K a899 v25 v1 v4 v5 v3 b12 (IntKind.i64.wrap (v2 + 1))
   else
    F108_i1_j34 K a899 v25 v1 v4 v5 v3 b12 v2
  else
   (a899 v25 (⟨((v1.tmod 2) == 1), ((v2.tmod 2) == 1)⟩ : A2_Bool) v4 v5 v3).bind fun v36 =>
    F108_i1_j18 K b12 v1 v2 v36.2.2 v36.1 v36.2.1
def F108_i1_j24 (K : Nat) (v20 : Int × Bool) (v22 : Int × Bool) (a899 : Int → A2_Bool → Int → Bool → (List Z4) → Option (Int × Bool × (List Z4))) (v4 : Int) (v5 : Bool) (v3 : (List Z4)) (b12 : Int → Int → (List Z4) → Int → Bool → Option (Int × Bool × (List Z4))) (v2 : Int) (v1 : Int) (v23 : Bool) : Option (Int × Bool × (List Z4)) :=
 if v23 = true then
  F108_i1_j26 K v20 v22 a899 v4 v5 v3 b12 v2 v1 v22.1
 else
  F108_i1_j26 K v20 v22 a899 v4 v5 v3 b12 v2 v1 v20.1
def F108_i1_j42 (K : Nat) (b12 : Int → Int → (List Z4) → Int → Bool → Option (Int × Bool × (List Z4))) (v37 : Int) (v38 : Int) (v39 : (List Z4)) (v40 : Int) (v41 : Bool) : Option (Int × Bool × (List Z4)) :=
 b12 v37 v38 v39 v40 v41
def F108_i1_j54 (K : Nat) (a899 : Int → A2_Bool → Int → Bool → (List Z4) → Option (Int × Bool × (List Z4))) (v49 : Int) (v51 : Int) (v4 : Int) (v5 : Bool) (v3 : (List Z4)) (b12 : Int → Int → (List Z4) → Int → Bool → Option (Int × Bool × (List Z4))) (v53 : Int) : Option (Int × Bool × (List Z4)) :=
 (a899 v49 (⟨((v51.tmod 2) == 1), ((v53.tmod 2) == 1)⟩ : A2_Bool) v4 v5 v3).bind fun v55 =>
  F108_i1_j42 K b12 v51 v53 v55.2.2 v55.1 v55.2.1
def F108_i1_j52 (K : Nat) (v46 : Int × Bool) (v49 : Int) (a899 : Int → A2_Bool → Int → Bool → (List Z4) → Option (Int × Bool × (List Z4))) (v4 : Int) (v5 : Bool) (v3 : (List Z4)) (b12 : Int → Int → (List Z4) → Int → Bool → Option (Int × Bool × (List Z4))) (v2 : Int) (v51 : Int) : Option (Int × Bool × (List Z4)) :=
 if v46.2 = true then
  if (v46.1 == v49) = true then
   F108_i1_j54 K a899 v49 v51 v4 v5 v3 b12 (IntKind.i64.wrap (v2 + 1))
  else
   F108_i1_j54 K a899 v49 v51 v4 v5 v3 b12 v2
 else
  (a899 v49 (⟨((v51.tmod 2) == 1), ((v2.tmod 2) == 1)⟩ : A2_Bool) v4 v5 v3).bind fun v56 =>
   F108_i1_j42 K b12 v51 v2 v56.2.2 v56.1 v56.2.1
def F108_i1_j58 (K : Nat) (a899 : Int → A2_Bool → Int → Bool → (List Z4) → Option (Int × Bool × (List Z4))) (v49 : Int) (v1 : Int) (v4 : Int) (v5 : Bool) (v3 : (List Z4)) (b12 : Int → Int → (List Z4) → Int → Bool → Option (Int × Bool × (List Z4))) (v57 : Int) : Option (Int × Bool × (List Z4)) :=
 (a899 v49 (⟨((v1.tmod 2) == 1), ((v57.tmod 2) == 1)⟩ : A2_Bool) v4 v5 v3).bind fun v59 =>
  F108_i1_j42 K b12 v1 v57 v59.2.2 v59.1 v59.2.1
def F108_i1_j50 (K : Nat) (v44 : Int × Bool) (v46 : Int × Bool) (a899 : Int → A2_Bool → Int → Bool → (List Z4) → Option (Int × Bool × (List Z4))) (v4 : Int) (v5 : Bool) (v3 : (List Z4)) (b12 : Int → Int → (List Z4) → Int → Bool → Option (Int × Bool × (List Z4))) (v2 : Int) (v1 : Int) (v49 : Int) : Option (Int × Bool × (List Z4)) :=
 if v44.2 = true then
  if (v44.1 == v49) = true then
   F108_i1_j52 K v46 v49 a899 v4 v5 v3 b12 v2 (IntKind.i64.wrap (v1 + 1))
  else
   F108_i1_j52 K v46 v49 a899 v4 v5 v3 b12 v2 v1
 else
  if v46.2 = true then
   if (v46.1 == v49) = true then
    F108_i1_j58 K a899 v49 v1 v4 v5 v3 b12 (IntKind.i64.wrap (v2 + 1))
   else
    F108_i1_j58 K a899 v49 v1 v4 v5 v3 b12 v2
  else
   (a899 v49 (⟨((v1.tmod 2) == 1), ((v2.tmod 2) == 1)⟩ : A2_Bool) v4 v5 v3).bind fun v60 =>
    F108_i1_j42 K b12 v1 v2 v60.2.2 v60.1 v60.2.1
def F108_i1_j48 (K : Nat) (v44 : Int × Bool) (v46 : Int × Bool) (a899 : Int → A2_Bool → Int → Bool → (List Z4) → Option (Int × Bool × (List Z4))) (v4 : Int) (v5 : Bool) (v3 : (List Z4)) (b12 : Int → Int → (List Z4) → Int → Bool → Option (Int × Bool × (List Z4))) (v2 : Int) (v1 : Int) (v47 : Bool) : Option (Int × Bool × (List Z4)) :=
 if v47 = true then
  F108_i1_j50 K v44 v46 a899 v4 v5 v3 b12 v2 v1 v46.1
 else
  F108_i1_j50 K v44 v46 a899 v4 v5 v3 b12 v2 v1 v44.1
def F108_i1_l6 (K : Nat) (a1 : (List Z4)) (a2 : (List Z4)) (a899 : Int → A2_Bool → Int → Bool → (List Z4) → Option (Int × Bool × (List Z4))) (c11 : (List Z4) → Int → Bool → Option (Int × Bool × (List Z4))) : Nat → Int → Int → (List Z4) → Int → Bool → Option (Int × Bool × (List Z4))
 | 0, _, _, _, _, _ => none
 | k6 + 1, v1, v2, v3, v4, v5 =>
  if (decide (v1 < (IntKind.i64.wrap (2 * (a1.length : Int))))) = true then
   (F109 K a1 v1).bind fun v20 =>
    (F109 K a2 v2).bind fun v22 =>
     if (!v20.2) = true then
      F108_i1_j24 K v20 v22 a899 v4 v5 v3 (F108_i1_l6 K a1 a2 a899 c11 k6) v2 v1 true
     else
      if v22.2 = true then
       F108_i1_j24 K v20 v22 a899 v4 v5 v3 (F108_i1_l6 K a1 a2 a899 c11 k6) v2 v1 (decide (v22.1 < v20.1))
      else
       F108_i1_j24 K v20 v22 a899 v4 v5 v3 (F108_i1_l6 K a1 a2 a899 c11 k6) v2 v1 false
  else
   if (decide (v2 < (IntKind.i64.wrap (2 * (a2.length : Int))))) = true then
    (F109 K a1 v1).bind fun v44 =>
     (F109 K a2 v2).bind fun v46 =>
      if (!v44.2) = true then
       F108_i1_j48 K v44 v46 a899 v4 v5 v3 (F108_i1_l6 K a1 a2 a899 c11 k6) v2 v1 true
      else
       if v46.2 = true then
        F108_i1_j48 K v44 v46 a899 v4 v5 v3 (F108_i1_l6 K a1 a2 a899 c11 k6) v2 v1 (decide (v46.1 < v44.1))
       else
        F108_i1_j48 K v44 v46 a899 v4 v5 v3 (F108_i1_l6 K a1 a2 a899 c11 k6) v2 v1 false
   else
    c11 v3 v4 v5
def F108_i1 (K : Nat) (a899 : Int → A2_Bool → Int → Bool → (List Z4) → Option (Int × Bool × (List Z4))) (a900 : Int) (a901 : Bool) (a902 : (List Z4)) (a1 : (List Z4)) (a2 : (List Z4)) : Option (Int × Bool × (List Z4)) :=
 F108_i1_l6 K a1 a2 a899 (F108_i1_c10 K) K 0 0 a902 a900 a901
theorem F108_i1_ok (K : Nat) (a899 : Int → A2_Bool → Int → Bool → (List Z4) → Option (Int × Bool × (List Z4))) (a900 : Int) (a901 : Bool) (a902 : (List Z4)) (a1 : (List Z4)) (a2 : (List Z4)) (r : Int × Bool × (List Z4)) (lr : Go.Loop) (h : F108_i1 K a899 a900 a901 a902 a1 a2 = some r) (hps : lr.params.size = 2) (hy : ∀ (x0 : Int) (x1 : A2_Bool) (a900 : Int) (a901 : Bool) (a902 : (List Z4)) (w : Int × Bool × (List Z4)), a899 x0 x1 a900 a901 a902 = some w → YCall P lr 1000 ⟨[(.int .i64 x0), (e_A2_Bool x1)], [(1000, (.loop lr [5, 7, 8, 9] [(.ptr 1001 0), (.ptr 1002 0), (.ptr 1003 0), (.ptr 1004 0)])), (0, (.vec 2 (List.map Z2 a902))), (1001, (.box [(.clo 72 [])])), (1002, (.box [(.vs 0)])), (1003, (.box [(.int .i64 a900)])), (1004, (.box [(.bool a901)]))], .bool true, [(1000, (.loop lr [5, 7, 8, 9] [(.ptr 1001 0), (.ptr 1002 0), (.ptr 1003 0), (.ptr 1004 0)])), (0, (.vec 2 (List.map Z2 w.2.2))), (1001, (.box [(.clo 72 [])])), (1002, (.box [(.vs 0)])), (1003, (.box [(.int .i64 w.1)])), (1004, (.box [(.bool w.2.1)]))], [0]⟩) : ACall P 108 ⟨[(.yld 1000), (.ip [(.sl 2 (a1.map Z2) false)]), (.ip [(.sl 2 (a2.map Z2) false)])], [(1000, (.loop lr [5, 7, 8, 9] [(.ptr 1001 0), (.ptr 1002 0), (.ptr 1003 0), (.ptr 1004 0)])), (0, (.vec 2 (List.map Z2 a902))), (1001, (.box [(.clo 72 [])])), (1002, (.box [(.vs 0)])), (1003, (.box [(.int .i64 a900)])), (1004, (.box [(.bool a901)]))], .tup [], [(1000, (.loop lr [5, 7, 8, 9] [(.ptr 1001 0), (.ptr 1002 0), (.ptr 1003 0), (.ptr 1004 0)])), (0, (.vec 2 (List.map Z2 r.2.2))), (1001, (.box [(.clo 72 [])])), (1002, (.box [(.vs 0)])), (1003, (.box [(.int .i64 r.1)])), (1004, (.box [(.bool r.2.1)]))], [0]⟩ := by
 refine acall_of Try.func108 Try.results108 rfl Try.ntmps108 rfl rfl rfl ?_
 intro E Q hP hN hro hret
 obtain ⟨P', nt', w0, F0, p0, S0, β0, ro0⟩ := E
 simp only at hP hN
 subst hP hN
 dsimp only [argT]
 unfold F108_i1 at h
 refine Zf <| Z7 <| Z1 I (Zg (v := (.int .i64 0)) I I) I <| Z1 I (Zg (v := (.int .i64 0)) I I) I <| Za <| Zd <| AWp.weaken (st' := ⟨[(0, (.yld 1000)), (1, (.ip [(.sl 2 (a1.map Z2) false)])), (2, (.ip [(.sl 2 (a2.map Z2) false)])), (4, (.int .i64 0)), (5, (.int .i64 0))], [(0, (.vec 2 (List.map Z2 a902))), (1000, (.loop lr [5, 7, 8, 9] [(.ptr 1001 0), (.ptr 1002 0), (.ptr 1003 0), (.ptr 1004 0)])), (1001, (.box [(.clo 72 [])])), (1002, (.box [(.vs 0)])), (1003, (.box [(.int .i64 a900)])), (1004, (.box [(.bool a901)]))]⟩) ⟨rfl, rfl, rfl, rfl, rfl, trivial⟩ ⟨rfl, rfl, rfl, rfl, rfl, rfl, trivial⟩ ?_
 refine Z1l (V := Int × Int × (List Z4) × Int × Bool) (X := (List Z4) × Int × Bool) (lp := fun k v => F108_i1_l6 K a1 a2 a899 (F108_i1_c10 K) k v.1 v.2.1 v.2.2.1 v.2.2.2.1 v.2.2.2.2 = some r) (sh := fun v => ⟨[(0, (.yld 1000)), (1, (.ip [(.sl 2 (a1.map Z2) false)])), (2, (.ip [(.sl 2 (a2.map Z2) false)])), (4, (.int .i64 v.1)), (5, (.int .i64 v.2.1))], [(0, (.vec 2 (List.map Z2 v.2.2.1))), (1000, (.loop lr [5, 7, 8, 9] [(.ptr 1001 0), (.ptr 1002 0), (.ptr 1003 0), (.ptr 1004 0)])), (1001, (.box [(.clo 72 [])])), (1002, (.box [(.vs 0)])), (1003, (.box [(.int .i64 v.2.2.2.1)])), (1004, (.box [(.bool v.2.2.2.2)]))]⟩) (x := fun v => F108_i1_c10 K v.1 v.2.1 v.2.2 = some r) (shx := fun v => ⟨[], [(0, (.vec 2 (List.map Z2 v.1))), (1000, (.loop lr [5, 7, 8, 9] [(.ptr 1001 0), (.ptr 1002 0), (.ptr 1003 0), (.ptr 1004 0)])), (1001, (.box [(.clo 72 [])])), (1002, (.box [(.vs 0)])), (1003, (.box [(.int .i64 v.2.1)])), (1004, (.box [(.bool v.2.2)]))]⟩) (k := K) (v := (0, 0, a902, a900, a901)) h ?_ ?_
 ·intro v h
  obtain ⟨v7, v8, v9⟩ := v
  try dsimp only at h ⊢
  unfold F108_i1_c10 at h
  have h := Option.some.inj h
  subst h
  refine (hret _ ?_).2
  exact ⟨[], trivial, rfl, ⟨rfl, rfl, rfl, rfl, rfl, rfl, trivial⟩⟩
 ·intro N k6 v h IH6 J6
  obtain ⟨v1, v2, v3, v4, v5⟩ := v
  try dsimp only at h IH6 J6 ⊢
  cases k6 with
  | zero => cases h
  | succ k6 =>
   rw [F108_i1_l6] at h
   refine Zf <| Zf <| Z7 <| Z1 I (Ze (v := (.int .i64 v1)) I I) I <| Z1 I (Z1m (cs := [(.sl 2 (a1.map Z2) false)]) (v := (.sl 2 (a1.map Z2) false)) I o45 I I) I <| Z1 I (stx_len (l := a1) (enc := Z2) I s45 I) I <| Z1 I (Z1o (k := .i64) (a := 2) (b := (a1.length : Int)) (c := (IntKind.i64.wrap (2 * (a1.length : Int)))) I I I I) I <| Z1 I (Z1f (k := .i64) (a := v1) (b := (IntKind.i64.wrap (2 * (a1.length : Int)))) (c := (decide (v1 < (IntKind.i64.wrap (2 * (a1.length : Int)))))) I I I I) I ?_
   refine Z1 I (Ze (v := (.bool (decide (v1 < (IntKind.i64.wrap (2 * (a1.length : Int))))))) I I) I ?_
   have hif := Z1g h
   refine Z15 (fun hc => ?_) (fun hc => ?_)
   ·have h := hif.1 hc
    refine Z5 I I I I I I I <| Z5 I I I I I I I <| Z5 I I I I I I I <| Z5 I I I I I I I <| Z5 I I I I I I I <| Z1 I (Z1d (v := (.bool true)) I I I) I <| Za <| Zd ?_
    refine Zs (b := true) I (fun hc => ?_) (fun hc => ?_)
    rotate_left
    ·cases hc
    refine Zx <| Zd ?_
    refine AWp.blockJoin (V := Int × Int × (List Z4) × Int × Bool) (lp := fun v => F108_i1_j18 K (F108_i1_l6 K a1 a2 a899 (F108_i1_c10 K) k6) v.1 v.2.1 v.2.2.1 v.2.2.2.1 v.2.2.2.2 = some r) (sh := fun v => ⟨[(0, (.yld 1000)), (1, (.ip [(.sl 2 (a1.map Z2) false)])), (2, (.ip [(.sl 2 (a2.map Z2) false)])), (4, (.int .i64 v.1)), (5, (.int .i64 v.2.1))], [(0, (.vec 2 (List.map Z2 v.2.2.1))), (1000, (.loop lr [5, 7, 8, 9] [(.ptr 1001 0), (.ptr 1002 0), (.ptr 1003 0), (.ptr 1004 0)])), (1001, (.box [(.clo 72 [])])), (1002, (.box [(.vs 0)])), (1003, (.box [(.int .i64 v.2.2.2.1)])), (1004, (.box [(.bool v.2.2.2.2)]))]⟩) ?_ ?_
    ·intro v h
     obtain ⟨v13, v14, v15, v16, v17⟩ := v
     try dsimp only at h ⊢
     unfold F108_i1_j18 at h
     exact Zp (st' := ⟨[(0, (.yld 1000)), (1, (.ip [(.sl 2 (a1.map Z2) false)])), (2, (.ip [(.sl 2 (a2.map Z2) false)])), (4, (.int .i64 v13)), (5, (.int .i64 v14))], [(0, (.vec 2 (List.map Z2 v15))), (1000, (.loop lr [5, 7, 8, 9] [(.ptr 1001 0), (.ptr 1002 0), (.ptr 1003 0), (.ptr 1004 0)])), (1001, (.box [(.clo 72 [])])), (1002, (.box [(.vs 0)])), (1003, (.box [(.int .i64 v16)])), (1004, (.box [(.bool v17)]))]⟩) ⟨rfl, rfl, rfl, rfl, rfl, trivial⟩ ⟨rfl, rfl, rfl, rfl, rfl, rfl, trivial⟩ (IH6 _ (v13, v14, v15, v16, v17) (Nat.lt_succ_self _) h)
    ·intro J18
     refine Zf <| Z7 <| Z1 I (Z1m (cs := [(.sl 2 (a1.map Z2) false)]) (v := (.sl 2 (a1.map Z2) false)) I o45 I I) I <| Z1 I (Ze (v := (.int .i64 v1)) I I) I ?_
     have ⟨v20, hv20, h⟩ := Z17 h
     refine Z1 I (Z1b (ar := [(.sl 2 (a1.map Z2) false), (.int .i64 v1)]) (caps := []) Try.call109 (F109_ok K a1 v1 v20 hv20) I I ⟨rfl, rfl, trivial⟩ I) I <| Z1 I (Ze (v := (.tup [(.int .i64 v20.1), (.bool v20.2)])) I I) I <| Z1 I (st_extract (vs := [(.int .i64 v20.1), (.bool v20.2)]) (v := (.int .i64 v20.1)) I I I) I <| Z1 I (st_extract (vs := [(.int .i64 v20.1), (.bool v20.2)]) (v := (.bool v20.2)) I I I) I <| Z1 I (Zg (v := (.int .i64 v20.1)) I I) I <| Z1 I (Zg (v := (.bool v20.2)) I I) I <| Za <| Zd ?_
     refine Zf <| Z7 <| Z1 I (Z1m (cs := [(.sl 2 (a2.map Z2) false)]) (v := (.sl 2 (a2.map Z2) false)) I o45 I I) I <| Z1 I (Ze (v := (.int .i64 v2)) I I) I ?_
     have ⟨v22, hv22, h⟩ := Z17 h
     refine Z1 I (Z1b (ar := [(.sl 2 (a2.map Z2) false), (.int .i64 v2)]) (caps := []) Try.call109 (F109_ok K a2 v2 v22 hv22) I I ⟨rfl, rfl, trivial⟩ I) I <| Z1 I (Ze (v := (.tup [(.int .i64 v22.1), (.bool v22.2)])) I I) I <| Z1 I (st_extract (vs := [(.int .i64 v22.1), (.bool v22.2)]) (v := (.int .i64 v22.1)) I I I) I <| Z1 I (st_extract (vs := [(.int .i64 v22.1), (.bool v22.2)]) (v := (.bool v22.2)) I I I) I <| Z1 I (Zg (v := (.int .i64 v22.1)) I I) I <| Z1 I (Zg (v := (.bool v22.2)) I I) I <| Za <| Zd ?_
     refine Zf <| Z7 <| Z1 I (Ze (v := (.int .i64 v20.1)) I I) I <| Z1 I (Zg (v := (.int .i64 v20.1)) I I) I <| Za <| Zd <| Zf <| Zf ?_
     refine AWp.join (V := Bool) (lp := fun v => F108_i1_j24 K v20 v22 a899 v4 v5 v3 (F108_i1_l6 K a1 a2 a899 (F108_i1_c10 K) k6) v2 v1 v = some r) (sh := fun v => ⟨[(0, (.yld 1000)), (1, (.ip [(.sl 2 (a1.map Z2) false)])), (2, (.ip [(.sl 2 (a2.map Z2) false)])), (4, (.int .i64 v1)), (5, (.int .i64 v2)), (6, (.int .i64 v20.1)), (7, (.bool v20.2)), (8, (.int .i64 v22.1)), (9, (.bool v22.2)), (10, (.int .i64 v20.1)), (45, (.bool v))], [(0, (.vec 2 (List.map Z2 v3))), (1000, (.loop lr [5, 7, 8, 9] [(.ptr 1001 0), (.ptr 1002 0), (.ptr 1003 0), (.ptr 1004 0)])), (1001, (.box [(.clo 72 [])])), (1002, (.box [(.vs 0)])), (1003, (.box [(.int .i64 v4)])), (1004, (.box [(.bool v5)]))]⟩) ?_ ?_
     ·intro v h
      revert h
      revert v
      intro v23 h
      try dsimp only at h ⊢
      unfold F108_i1_j24 at h
      refine Zd ?_
      refine AWp.join (V := Int) (lp := fun v => F108_i1_j26 K v20 v22 a899 v4 v5 v3 (F108_i1_l6 K a1 a2 a899 (F108_i1_c10 K) k6) v2 v1 v = some r) (sh := fun v => ⟨[(0, (.yld 1000)), (1, (.ip [(.sl 2 (a1.map Z2) false)])), (2, (.ip [(.sl 2 (a2.map Z2) false)])), (4, (.int .i64 v1)), (5, (.int .i64 v2)), (6, (.int .i64 v20.1)), (7, (.bool v20.2)), (8, (.int .i64 v22.1)), (9, (.bool v22.2)), (10, (.int .i64 v))], [(0, (.vec 2 (List.map Z2 v3))), (1000, (.loop lr [5, 7, 8, 9] [(.ptr 1001 0), (.ptr 1002 0), (.ptr 1003 0), (.ptr 1004 0)])), (1001, (.box [(.clo 72 [])])), (1002, (.box [(.vs 0)])), (1003, (.box [(.int .i64 v4)])), (1004, (.box [(.bool v5)]))]⟩) ?_ ?_
      ·intro v h
       revert h
       revert v
       intro v25 h
       try dsimp only at h ⊢
       unfold F108_i1_j26 at h
       refine Zd <| Zf <| Zf <| Z7 <| Z1 I (Ze (v := (.bool v20.2)) I I) I <| Z1 I (Ze (v := (.bool v20.2)) I I) I ?_
       have hif := Z1g h
       refine Z15 (fun hc => ?_) (fun hc => ?_)
       ·have h := hif.1 hc
        refine Zh I I I I (Ze (v := (.int .i64 v20.1)) I I) I <| Zh I I I I (Ze (v := (.int .i64 v25)) I I) I <| Zh I I I I (Z1f (k := .i64) (a := v20.1) (b := v25) (c := (v20.1 == v25)) I I I I) I <| Z1 I (Z1d (v := (.bool (v20.1 == v25))) I I I) I <| Za <| Zd ?_
        refine AWp.join (V := Int) (lp := fun v => F108_i1_j28 K v22 v25 a899 v4 v5 v3 (F108_i1_l6 K a1 a2 a899 (F108_i1_c10 K) k6) v2 v = some r) (sh := fun v => ⟨[(0, (.yld 1000)), (1, (.ip [(.sl 2 (a1.map Z2) false)])), (2, (.ip [(.sl 2 (a2.map Z2) false)])), (4, (.int .i64 v)), (5, (.int .i64 v2)), (8, (.int .i64 v22.1)), (9, (.bool v22.2)), (10, (.int .i64 v25))], [(0, (.vec 2 (List.map Z2 v3))), (1000, (.loop lr [5, 7, 8, 9] [(.ptr 1001 0), (.ptr 1002 0), (.ptr 1003 0), (.ptr 1004 0)])), (1001, (.box [(.clo 72 [])])), (1002, (.box [(.vs 0)])), (1003, (.box [(.int .i64 v4)])), (1004, (.box [(.bool v5)]))]⟩) ?_ ?_
        ·intro v h
         revert h
         revert v
         intro v27 h
         try dsimp only at h ⊢
         unfold F108_i1_j28 at h
         refine Zd <| Zf <| Zf <| Z7 <| Z1 I (Ze (v := (.bool v22.2)) I I) I <| Z1 I (Ze (v := (.bool v22.2)) I I) I ?_
         have hif := Z1g h
         refine Z15 (fun hc => ?_) (fun hc => ?_)
         ·have h := hif.1 hc
          refine Zh I I I I (Ze (v := (.int .i64 v22.1)) I I) I <| Zh I I I I (Ze (v := (.int .i64 v25)) I I) I <| Zh I I I I (Z1f (k := .i64) (a := v22.1) (b := v25) (c := (v22.1 == v25)) I I I I) I <| Z1 I (Z1d (v := (.bool (v22.1 == v25))) I I I) I <| Za <| Zd ?_
          refine AWp.join (V := Int) (lp := fun v => F108_i1_j30 K a899 v25 v27 v4 v5 v3 (F108_i1_l6 K a1 a2 a899 (F108_i1_c10 K) k6) v = some r) (sh := fun v => ⟨[(0, (.yld 1000)), (1, (.ip [(.sl 2 (a1.map Z2) false)])), (2, (.ip [(.sl 2 (a2.map Z2) false)])), (4, (.int .i64 v27)), (5, (.int .i64 v)), (10, (.int .i64 v25))], [(0, (.vec 2 (List.map Z2 v3))), (1000, (.loop lr [5, 7, 8, 9] [(.ptr 1001 0), (.ptr 1002 0), (.ptr 1003 0), (.ptr 1004 0)])), (1001, (.box [(.clo 72 [])])), (1002, (.box [(.vs 0)])), (1003, (.box [(.int .i64 v4)])), (1004, (.box [(.bool v5)]))]⟩) ?_ ?_
          ·intro v h
           revert h
           revert v
           intro v29 h
           try dsimp only at h ⊢
           unfold F108_i1_j30 at h
           refine Zd <| Zf <| Z7 <| Z1 I (Ze (v := (.yld 1000)) I I) I <| Z1 I (Ze (v := (.int .i64 v25)) I I) I <| Z1 I (Ze (v := (.int .i64 v27)) I I) I <| Z1 I (st_div (k := .i64) (a := v27) (b := 2) (c := (v27.tmod 2)) I I I I (by decide)) I <| Z1 I (Z1f (k := .i64) (a := (v27.tmod 2)) (b := 1) (c := ((v27.tmod 2) == 1)) I I I I) I ?_
           refine Z1 I (Ze (v := (.int .i64 v29)) I I) I <| Z1 I (st_div (k := .i64) (a := v29) (b := 2) (c := (v29.tmod 2)) I I I I (by decide)) I <| Z1 I (Z1f (k := .i64) (a := (v29.tmod 2)) (b := 1) (c := ((v29.tmod 2) == 1)) I I I I) I <| Z1 I (stx_buildA (vs := [(0, (.bool ((v27.tmod 2) == 1))), (1, (.bool ((v29.tmod 2) == 1)))]) (cs := [(.bool ((v27.tmod 2) == 1)), (.bool ((v29.tmod 2) == 1))]) I ar128 ⟨rfl, rfl, rfl, rfl, trivial⟩ I) I ?_
           have ⟨v31, hv31, h⟩ := Z17 h
           refine Z1 I (st_yield (d := some 72) (ks := [5, 7, 8, 9]) (vs := [(.ptr 1001 0), (.ptr 1002 0), (.ptr 1003 0), (.ptr 1004 0)]) (c := ⟨[(.int .i64 v25), (.ag [(.bool ((v27.tmod 2) == 1)), (.bool ((v29.tmod 2) == 1))])], [(1000, (.loop lr [5, 7, 8, 9] [(.ptr 1001 0), (.ptr 1002 0), (.ptr 1003 0), (.ptr 1004 0)])), (0, (.vec 2 (List.map Z2 v3))), (1001, (.box [(.clo 72 [])])), (1002, (.box [(.vs 0)])), (1003, (.box [(.int .i64 v4)])), (1004, (.box [(.bool v5)]))], .bool true, [(1000, (.loop lr [5, 7, 8, 9] [(.ptr 1001 0), (.ptr 1002 0), (.ptr 1003 0), (.ptr 1004 0)])), (0, (.vec 2 (List.map Z2 v31.2.2))), (1001, (.box [(.clo 72 [])])), (1002, (.box [(.vs 0)])), (1003, (.box [(.int .i64 v31.1)])), (1004, (.box [(.bool v31.2.1)]))], [0]⟩) (ar := [(.int .i64 v25), (.ag [(.bool ((v27.tmod 2) == 1)), (.bool ((v29.tmod 2) == 1))])]) (news := []) (forg := [0]) (hy v25 (⟨((v27.tmod 2) == 1), ((v29.tmod 2) == 1)⟩ : A2_Bool) v4 v5 v3 _ hv31) I hps I I ⟨rfl, rfl, trivial⟩ I ⟨rfl, rfl, rfl, rfl, rfl, rfl, trivial⟩ I) I <| Z1 I (st_not (b := true) I I) I <| Za <| Zd ?_
           refine Zs (b := false) I (fun hc => ?_) (fun hc => ?_)
           ·cases hc
           refine Zx <| At.end ?_
           exact Zp (st' := ⟨[(0, (.yld 1000)), (1, (.ip [(.sl 2 (a1.map Z2) false)])), (2, (.ip [(.sl 2 (a2.map Z2) false)])), (4, (.int .i64 v27)), (5, (.int .i64 v29))], [(0, (.vec 2 (List.map Z2 v31.2.2))), (1000, (.loop lr [5, 7, 8, 9] [(.ptr 1001 0), (.ptr 1002 0), (.ptr 1003 0), (.ptr 1004 0)])), (1001, (.box [(.clo 72 [])])), (1002, (.box [(.vs 0)])), (1003, (.box [(.int .i64 v31.1)])), (1004, (.box [(.bool v31.2.1)]))]⟩) ⟨rfl, rfl, rfl, rfl, rfl, trivial⟩ ⟨rfl, rfl, rfl, rfl, rfl, rfl, trivial⟩ (J18 (v27, v29, v31.2.2, v31.1, v31.2.1) h)
          ·intro J30
           have hif := Z1g h
           refine Zs I (fun hc => ?_) (fun hc => ?_)
           ·have h := hif.1 hc
            refine Z7 <| Z1 I (Ze (v := (.int .i64 v2)) I I) I <| Z1 I (Z1o (k := .i64) (a := v2) (b := 1) (c := (IntKind.i64.wrap (v2 + 1))) I I I I) I <| Z1 I (Zg (v := (.int .i64 (IntKind.i64.wrap (v2 + 1)))) I I) I <| Za ?_
            exact Zp (st' := ⟨[(0, (.yld 1000)), (1, (.ip [(.sl 2 (a1.map Z2) false)])), (2, (.ip [(.sl 2 (a2.map Z2) false)])), (4, (.int .i64 v27)), (5, (.int .i64 (IntKind.i64.wrap (v2 + 1)))), (10, (.int .i64 v25))], [(0, (.vec 2 (List.map Z2 v3))), (1000, (.loop lr [5, 7, 8, 9] [(.ptr 1001 0), (.ptr 1002 0), (.ptr 1003 0), (.ptr 1004 0)])), (1001, (.box [(.clo 72 [])])), (1002, (.box [(.vs 0)])), (1003, (.box [(.int .i64 v4)])), (1004, (.box [(.bool v5)]))]⟩) ⟨rfl, rfl, rfl, rfl, rfl, rfl, trivial⟩ ⟨rfl, rfl, rfl, rfl, rfl, rfl, trivial⟩ (J30 (IntKind.i64.wrap (v2 + 1)) h)
           ·have h := hif.2 hc
            refine Zx ?_
            exact Zp (st' := ⟨[(0, (.yld 1000)), (1, (.ip [(.sl 2 (a1.map Z2) false)])), (2, (.ip [(.sl 2 (a2.map Z2) false)])), (4, (.int .i64 v27)), (5, (.int .i64 v2)), (10, (.int .i64 v25))], [(0, (.vec 2 (List.map Z2 v3))), (1000, (.loop lr [5, 7, 8, 9] [(.ptr 1001 0), (.ptr 1002 0), (.ptr 1003 0), (.ptr 1004 0)])), (1001, (.box [(.clo 72 [])])), (1002, (.box [(.vs 0)])), (1003, (.box [(.int .i64 v4)])), (1004, (.box [(.bool v5)]))]⟩) ⟨rfl, rfl, rfl, rfl, rfl, rfl, trivial⟩ ⟨rfl, rfl, rfl, rfl, rfl, rfl, trivial⟩ (J30 v2 h)
         ·have h := hif.2 hc
          refine Z5 I I I I I I I <| Z5 I I I I I I I <| Z5 I I I I I I I <| Z1 I (Z10 (v := (.bool false)) I I I) I <| Za <| Zd ?_
          refine Zs (b := false) I (fun hc => ?_) (fun hc => ?_)
          ·cases hc
          refine Zx <| Zd <| Zf <| Z7 <| Z1 I (Ze (v := (.yld 1000)) I I) I <| Z1 I (Ze (v := (.int .i64 v25)) I I) I <| Z1 I (Ze (v := (.int .i64 v27)) I I) I <| Z1 I (st_div (k := .i64) (a := v27) (b := 2) (c := (v27.tmod 2)) I I I I (by decide)) I ?_
          refine Z1 I (Z1f (k := .i64) (a := (v27.tmod 2)) (b := 1) (c := ((v27.tmod 2) == 1)) I I I I) I <| Z1 I (Ze (v := (.int .i64 v2)) I I) I <| Z1 I (st_div (k := .i64) (a := v2) (b := 2) (c := (v2.tmod 2)) I I I I (by decide)) I <| Z1 I (Z1f (k := .i64) (a := (v2.tmod 2)) (b := 1) (c := ((v2.tmod 2) == 1)) I I I I) I <| Z1 I (stx_buildA (vs := [(0, (.bool ((v27.tmod 2) == 1))), (1, (.bool ((v2.tmod 2) == 1)))]) (cs := [(.bool ((v27.tmod 2) == 1)), (.bool ((v2.tmod 2) == 1))]) I ar128 ⟨rfl, rfl, rfl, rfl, trivial⟩ I) I ?_
          have ⟨v32, hv32, h⟩ := Z17 h
          refine Z1 I (st_yield (d := some 72) (ks := [5, 7, 8, 9]) (vs := [(.ptr 1001 0), (.ptr 1002 0), (.ptr 1003 0), (.ptr 1004 0)]) (c := ⟨[(.int .i64 v25), (.ag [(.bool ((v27.tmod 2) == 1)), (.bool ((v2.tmod 2) == 1))])], [(1000, (.loop lr [5, 7, 8, 9] [(.ptr 1001 0), (.ptr 1002 0), (.ptr 1003 0), (.ptr 1004 0)])), (0, (.vec 2 (List.map Z2 v3))), (1001, (.box [(.clo 72 [])])), (1002, (.box [(.vs 0)])), (1003, (.box [(.int .i64 v4)])), (1004, (.box [(.bool v5)]))], .bool true, [(1000, (.loop lr [5, 7, 8, 9] [(.ptr 1001 0), (.ptr 1002 0), (.ptr 1003 0), (.ptr 1004 0)])), (0, (.vec 2 (List.map Z2 v32.2.2))), (1001, (.box [(.clo 72 [])])), (1002, (.box [(.vs 0)])), (1003, (.box [(.int .i64 v32.1)])), (1004, (.box [(.bool v32.2.1)]))], [0]⟩) (ar := [(.int .i64 v25), (.ag [(.bool ((v27.tmod 2) == 1)), (.bool ((v2.tmod 2) == 1))])]) (news := []) (forg := [0]) (hy v25 (⟨((v27.tmod 2) == 1), ((v2.tmod 2) == 1)⟩ : A2_Bool) v4 v5 v3 _ hv32) I hps I I ⟨rfl, rfl, trivial⟩ I ⟨rfl, rfl, rfl, rfl, rfl, rfl, trivial⟩ I) I <| Z1 I (st_not (b := true) I I) I <| Za <| Zd ?_
          refine Zs (b := false) I (fun hc => ?_) (fun hc => ?_)
          ·cases hc
          refine Zx <| At.end ?_
          exact Zp (st' := ⟨[(0, (.yld 1000)), (1, (.ip [(.sl 2 (a1.map Z2) false)])), (2, (.ip [(.sl 2 (a2.map Z2) false)])), (4, (.int .i64 v27)), (5, (.int .i64 v2))], [(0, (.vec 2 (List.map Z2 v32.2.2))), (1000, (.loop lr [5, 7, 8, 9] [(.ptr 1001 0), (.ptr 1002 0), (.ptr 1003 0), (.ptr 1004 0)])), (1001, (.box [(.clo 72 [])])), (1002, (.box [(.vs 0)])), (1003, (.box [(.int .i64 v32.1)])), (1004, (.box [(.bool v32.2.1)]))]⟩) ⟨rfl, rfl, rfl, rfl, rfl, trivial⟩ ⟨rfl, rfl, rfl, rfl, rfl, rfl, trivial⟩ (J18 (v27, v2, v32.2.2, v32.1, v32.2.1) h)
        ·intro J28
         have hif := Z1g h
         refine Zs I (fun hc => ?_) (fun hc => ?_)
         ·have h := hif.1 hc
          refine Z7 <| Z1 I (Ze (v := (.int .i64 v1)) I I) I <| Z1 I (Z1o (k := .i64) (a := v1) (b := 1) (c := (IntKind.i64.wrap (v1 + 1))) I I I I) I <| Z1 I (Zg (v := (.int .i64 (IntKind.i64.wrap (v1 + 1)))) I I) I <| Za ?_
          exact Zp (st' := ⟨[(0, (.yld 1000)), (1, (.ip [(.sl 2 (a1.map Z2) false)])), (2, (.ip [(.sl 2 (a2.map Z2) false)])), (4, (.int .i64 (IntKind.i64.wrap (v1 + 1)))), (5, (.int .i64 v2)), (8, (.int .i64 v22.1)), (9, (.bool v22.2)), (10, (.int .i64 v25))], [(0, (.vec 2 (List.map Z2 v3))), (1000, (.loop lr [5, 7, 8, 9] [(.ptr 1001 0), (.ptr 1002 0), (.ptr 1003 0), (.ptr 1004 0)])), (1001, (.box [(.clo 72 [])])), (1002, (.box [(.vs 0)])), (1003, (.box [(.int .i64 v4)])), (1004, (.box [(.bool v5)]))]⟩) ⟨rfl, rfl, rfl, rfl, rfl, rfl, rfl, rfl, trivial⟩ ⟨rfl, rfl, rfl, rfl, rfl, rfl, trivial⟩ (J28 (IntKind.i64.wrap (v1 + 1)) h)
         ·have h := hif.2 hc
          refine Zx ?_
          exact Zp (st' := ⟨[(0, (.yld 1000)), (1, (.ip [(.sl 2 (a1.map Z2) false)])), (2, (.ip [(.sl 2 (a2.map Z2) false)])), (4, (.int .i64 v1)), (5, (.int .i64 v2)), (8, (.int .i64 v22.1)), (9, (.bool v22.2)), (10, (.int .i64 v25))], [(0, (.vec 2 (List.map Z2 v3))), (1000, (.loop lr [5, 7, 8, 9] [(.ptr 1001 0), (.ptr 1002 0), (.ptr 1003 0), (.ptr 1004 0)])), (1001, (.box [(.clo 72 [])])), (1002, (.box [(.vs 0)])), (1003, (.box [(.int .i64 v4)])), (1004, (.box [(.bool v5)]))]⟩) ⟨rfl, rfl, rfl, rfl, rfl, rfl, rfl, rfl, trivial⟩ ⟨rfl, rfl, rfl, rfl, rfl, rfl, trivial⟩ (J28 v1 h)
       ·have h := hif.2 hc
        refine Z5 I I I I I I I <| Z5 I I I I I I I <| Z5 I I I I I I I <| Z1 I (Z10 (v := (.bool false)) I I I) I <| Za <| Zd ?_
        refine Zs (b := false) I (fun hc => ?_) (fun hc => ?_)
        ·cases hc
        refine Zx <| Zd <| Zf <| Zf <| Z7 <| Z1 I (Ze (v := (.bool v22.2)) I I) I <| Z1 I (Ze (v := (.bool v22.2)) I I) I ?_
        have hif := Z1g h
        refine Z15 (fun hc => ?_) (fun hc => ?_)
        ·have h := hif.1 hc
         refine Zh I I I I (Ze (v := (.int .i64 v22.1)) I I) I <| Zh I I I I (Ze (v := (.int .i64 v25)) I I) I <| Zh I I I I (Z1f (k := .i64) (a := v22.1) (b := v25) (c := (v22.1 == v25)) I I I I) I <| Z1 I (Z1d (v := (.bool (v22.1 == v25))) I I I) I <| Za <| Zd ?_
         refine AWp.join (V := Int) (lp := fun v => F108_i1_j34 K a899 v25 v1 v4 v5 v3 (F108_i1_l6 K a1 a2 a899 (F108_i1_c10 K) k6) v = some r) (sh := fun v => ⟨[(0, (.yld 1000)), (1, (.ip [(.sl 2 (a1.map Z2) false)])), (2, (.ip [(.sl 2 (a2.map Z2) false)])), (4, (.int .i64 v1)), (5, (.int .i64 v)), (10, (.int .i64 v25))], [(0, (.vec 2 (List.map Z2 v3))), (1000, (.loop lr [5, 7, 8, 9] [(.ptr 1001 0), (.ptr 1002 0), (.ptr 1003 0), (.ptr 1004 0)])), (1001, (.box [(.clo 72 [])])), (1002, (.box [(.vs 0)])), (1003, (.box [(.int .i64 v4)])), (1004, (.box [(.bool v5)]))]⟩) ?_ ?_
         ·intro v h
          revert h
          revert v
          intro v33 h
          try dsimp only at h ⊢
          unfold F108_i1_j34 at h
          refine Zd <| Zf <| Z7 <| Z1 I (Ze (v := (.yld 1000)) I I) I <| Z1 I (Ze (v := (.int .i64 v25)) I I) I <| Z1 I (Ze (v := (.int .i64 v1)) I I) I <| Z1 I (st_div (k := .i64) (a := v1) (b := 2) (c := (v1.tmod 2)) I I I I (by decide)) I <| Z1 I (Z1f (k := .i64) (a := (v1.tmod 2)) (b := 1) (c := ((v1.tmod 2) == 1)) I I I I) I ?_
          refine Z1 I (Ze (v := (.int .i64 v33)) I I) I <| Z1 I (st_div (k := .i64) (a := v33) (b := 2) (c := (v33.tmod 2)) I I I I (by decide)) I <| Z1 I (Z1f (k := .i64) (a := (v33.tmod 2)) (b := 1) (c := ((v33.tmod 2) == 1)) I I I I) I <| Z1 I (stx_buildA (vs := [(0, (.bool ((v1.tmod 2) == 1))), (1, (.bool ((v33.tmod 2) == 1)))]) (cs := [(.bool ((v1.tmod 2) == 1)), (.bool ((v33.tmod 2) == 1))]) I ar128 ⟨rfl, rfl, rfl, rfl, trivial⟩ I) I ?_
          have ⟨v35, hv35, h⟩ := Z17 h
          refine Z1 I (st_yield (d := some 72) (ks := [5, 7, 8, 9]) (vs := [(.ptr 1001 0), (.ptr 1002 0), (.ptr 1003 0), (.ptr 1004 0)]) (c := ⟨[(.int .i64 v25), (.ag [(.bool ((v1.tmod 2) == 1)), (.bool ((v33.tmod 2) == 1))])], [(1000, (.loop lr [5, 7, 8, 9] [(.ptr 1001 0), (.ptr 1002 0), (.ptr 1003 0), (.ptr 1004 0)])), (0, (.vec 2 (List.map Z2 v3))), (1001, (.box [(.clo 72 [])])), (1002, (.box [(.vs 0)])), (1003, (.box [(.int .i64 v4)])), (1004, (.box [(.bool v5)]))], .bool true, [(1000, (.loop lr [5, 7, 8, 9] [(.ptr 1001 0), (.ptr 1002 0), (.ptr 1003 0), (.ptr 1004 0)])), (0, (.vec 2 (List.map Z2 v35.2.2))), (1001, (.box [(.clo 72 [])])), (1002, (.box [(.vs 0)])), (1003, (.box [(.int .i64 v35.1)])), (1004, (.box [(.bool v35.2.1)]))], [0]⟩) (ar := [(.int .i64 v25), (.ag [(.bool ((v1.tmod 2) == 1)), (.bool ((v33.tmod 2) == 1))])]) (news := []) (forg := [0]) (hy v25 (⟨((v1.tmod 2) == 1), ((v33.tmod 2) == 1)⟩ : A2_Bool) v4 v5 v3 _ hv35) I hps I I ⟨rfl, rfl, trivial⟩ I ⟨rfl, rfl, rfl, rfl, rfl, rfl, trivial⟩ I) I <| Z1 I (st_not (b := true) I I) I <| Za <| Zd ?_
          refine Zs (b := false) I (fun hc => ?_) (fun hc => ?_)
          ·cases hc
          refine Zx <| At.end ?_
          exact Zp (st' := ⟨[(0, (.yld 1000)), (1, (.ip [(.sl 2 (a1.map Z2) false)])), (2, (.ip [(.sl 2 (a2.map Z2) false)])), (4, (.int .i64 v1)), (5, (.int .i64 v33))], [(0, (.vec 2 (List.map Z2 v35.2.2))), (1000, (.loop lr [5, 7, 8, 9] [(.ptr 1001 0), (.ptr 1002 0), (.ptr 1003 0), (.ptr 1004 0)])), (1001, (.box [(.clo 72 [])])), (1002, (.box [(.vs 0)])), (1003, (.box [(.int .i64 v35.1)])), (1004, (.box [(.bool v35.2.1)]))]⟩) ⟨rfl, rfl, rfl, rfl, rfl, trivial⟩ ⟨rfl, rfl, rfl, rfl, rfl, rfl, trivial⟩ (J18 (v1, v33, v35.2.2, v35.1, v35.2.1) h)
         ·intro J34
          have hif := Z1g h
          refine Zs I (fun hc => ?_) (fun hc => ?_)
          ·have h := hif.1 hc
           refine Z7 <| Z1 I (Ze (v := (.int .i64 v2)) I I) I <| Z1 I (Z1o (k := .i64) (a := v2) (b := 1) (c := (IntKind.i64.wrap (v2 + 1))) I I I I) I <| Z1 I (Zg (v := (.int .i64 (IntKind.i64.wrap (v2 + 1)))) I I) I <| Za ?_
           exact Zp (st' := ⟨[(0, (.yld 1000)), (1, (.ip [(.sl 2 (a1.map Z2) false)])), (2, (.ip [(.sl 2 (a2.map Z2) false)])), (4, (.int .i64 v1)), (5, (.int .i64 (IntKind.i64.wrap (v2 + 1)))), (10, (.int .i64 v25))], [(0, (.vec 2 (List.map Z2 v3))), (1000, (.loop lr [5, 7, 8, 9] [(.ptr 1001 0), (.ptr 1002 0), (.ptr 1003 0), (.ptr 1004 0)])), (1001, (.box [(.clo 72 [])])), (1002, (.box [(.vs 0)])), (1003, (.box [(.int .i64 v4)])), (1004, (.box [(.bool v5)]))]⟩) ⟨rfl, rfl, rfl, rfl, rfl, rfl, trivial⟩ ⟨rfl, rfl, rfl, rfl, rfl, rfl, trivial⟩ (J34 (IntKind.i64.wrap (v2 + 1)) h)
          ·have h := hif.2 hc
           refine Zx ?_
           exact Zp (st' := ⟨[(0, (.yld 1000)), (1, (.ip [(.sl 2 (a1.map Z2) false)])), (2, (.ip [(.sl 2 (a2.map Z2) false)])), (4, (.int .i64 v1)), (5, (.int .i64 v2)), (10, (.int .i64 v25))], [(0, (.vec 2 (List.map Z2 v3))), (1000, (.loop lr [5, 7, 8, 9] [(.ptr 1001 0), (.ptr 1002 0), (.ptr 1003 0), (.ptr 1004 0)])), (1001, (.box [(.clo 72 [])])), (1002, (.box [(.vs 0)])), (1003, (.box [(.int .i64 v4)])), (1004, (.box [(.bool v5)]))]⟩) ⟨rfl, rfl, rfl, rfl, rfl, rfl, trivial⟩ ⟨rfl, rfl, rfl, rfl, rfl, rfl, trivial⟩ (J34 v2 h)
        ·have h := hif.2 hc
         refine Z5 I I I I I I I <| Z5 I I I I I I I <| Z5 I I I I I I I <| Z1 I (Z10 (v := (.bool false)) I I I) I <| Za <| Zd ?_
         refine Zs (b := false) I (fun hc => ?_) (fun hc => ?_)
         ·cases hc
         refine Zx <| Zd <| Zf <| Z7 <| Z1 I (Ze (v := (.yld 1000)) I I) I <| Z1 I (Ze (v := (.int .i64 v25)) I I) I <| Z1 I (Ze (v := (.int .i64 v1)) I I) I <| Z1 I (st_div (k := .i64) (a := v1) (b := 2) (c := (v1.tmod 2)) I I I I (by decide)) I ?_
         refine Z1 I (Z1f (k := .i64) (a := (v1.tmod 2)) (b := 1) (c := ((v1.tmod 2) == 1)) I I I I) I <| Z1 I (Ze (v := (.int .i64 v2)) I I) I <| Z1 I (st_div (k := .i64) (a := v2) (b := 2) (c := (v2.tmod 2)) I I I I (by decide)) I <| Z1 I (Z1f (k := .i64) (a := (v2.tmod 2)) (b := 1) (c := ((v2.tmod 2) == 1)) I I I I) I <| Z1 I (stx_buildA (vs := [(0, (.bool ((v1.tmod 2) == 1))), (1, (.bool ((v2.tmod 2) == 1)))]) (cs := [(.bool ((v1.tmod 2) == 1)), (.bool ((v2.tmod 2) == 1))]) I ar128 ⟨rfl, rfl, rfl, rfl, trivial⟩ I) I ?_
         have ⟨v36, hv36, h⟩ := Z17 h
         refine Z1 I (st_yield (d := some 72) (ks := [5, 7, 8, 9]) (vs := [(.ptr 1001 0), (.ptr 1002 0), (.ptr 1003 0), (.ptr 1004 0)]) (c := ⟨[(.int .i64 v25), (.ag [(.bool ((v1.tmod 2) == 1)), (.bool ((v2.tmod 2) == 1))])], [(1000, (.loop lr [5, 7, 8, 9] [(.ptr 1001 0), (.ptr 1002 0), (.ptr 1003 0), (.ptr 1004 0)])), (0, (.vec 2 (List.map Z2 v3))), (1001, (.box [(.clo 72 [])])), (1002, (.box [(.vs 0)])), (1003, (.box [(.int .i64 v4)])), (1004, (.box [(.bool v5)]))], .bool true, [(1000, (.loop lr [5, 7, 8, 9] [(.ptr 1001 0), (.ptr 1002 0), (.ptr 1003 0), (.ptr 1004 0)])), (0, (.vec 2 (List.map Z2 v36.2.2))), (1001, (.box [(.clo 72 [])])), (1002, (.box [(.vs 0)])), (1003, (.box [(.int .i64 v36.1)])), (1004, (.box [(.bool v36.2.1)]))], [0]⟩) (ar := [(.int .i64 v25), (.ag [(.bool ((v1.tmod 2) == 1)), (.bool ((v2.tmod 2) == 1))])]) (news := []) (forg := [0]) (hy v25 (⟨((v1.tmod 2) == 1), ((v2.tmod 2) == 1)⟩ : A2_Bool) v4 v5 v3 _ hv36) I hps I I ⟨rfl, rfl, trivial⟩ I ⟨rfl, rfl, rfl, rfl, rfl, rfl, trivial⟩ I) I <| Z1 I (st_not (b := true) I I) I <| Za <| Zd ?_
         refine Zs (b := false) I (fun hc => ?_) (fun hc => ?_)
         ·cases hc
         refine Zx <| At.end ?_
         exact Zp (st' := ⟨[(0, (.yld 1000)), (1, (.ip [(.sl 2 (a1.map Z2) false)])), (2, (.ip [(.sl 2 (a2.map Z2) false)])), (4, (.int .i64 v1)), (5, (.int .i64 v2))], [(0, (.vec 2 (List.map Z2 v36.2.2))), (1000, (.loop lr [5, 7, 8, 9] [(.ptr 1001 0), (.ptr 1002 0), (.ptr 1003 0), (.ptr 1004 0)])), (1001, (.box [(.clo 72 [])])), (1002, (.box [(.vs 0)])), (1003, (.box [(.int .i64 v36.1)])), (1004, (.box [(.bool v36.2.1)]))]⟩) ⟨rfl, rfl, rfl, rfl, rfl, trivial⟩ ⟨rfl, rfl, rfl, rfl, rfl, rfl, trivial⟩ (J18 (v1, v2, v36.2.2, v36.1, v36.2.1) h)
      ·intro J26
       have hif := Z1g h
       refine Zs I (fun hc => ?_) (fun hc => ?_)
       ·have h := hif.1 hc
        refine Z7 <| Z1 I (Ze (v := (.int .i64 v22.1)) I I) I <| Z1 I (Zg (v := (.int .i64 v22.1)) I I) I <| Za ?_
        exact Zp (st' := ⟨[(0, (.yld 1000)), (1, (.ip [(.sl 2 (a1.map Z2) false)])), (2, (.ip [(.sl 2 (a2.map Z2) false)])), (4, (.int .i64 v1)), (5, (.int .i64 v2)), (6, (.int .i64 v20.1)), (7, (.bool v20.2)), (8, (.int .i64 v22.1)), (9, (.bool v22.2)), (10, (.int .i64 v22.1))], [(0, (.vec 2 (List.map Z2 v3))), (1000, (.loop lr [5, 7, 8, 9] [(.ptr 1001 0), (.ptr 1002 0), (.ptr 1003 0), (.ptr 1004 0)])), (1001, (.box [(.clo 72 [])])), (1002, (.box [(.vs 0)])), (1003, (.box [(.int .i64 v4)])), (1004, (.box [(.bool v5)]))]⟩) ⟨rfl, rfl, rfl, rfl, rfl, rfl, rfl, rfl, rfl, rfl, trivial⟩ ⟨rfl, rfl, rfl, rfl, rfl, rfl, trivial⟩ (J26 v22.1 h)
       ·have h := hif.2 hc
        refine Zx ?_
        exact Zp (st' := ⟨[(0, (.yld 1000)), (1, (.ip [(.sl 2 (a1.map Z2) false)])), (2, (.ip [(.sl 2 (a2.map Z2) false)])), (4, (.int .i64 v1)), (5, (.int .i64 v2)), (6, (.int .i64 v20.1)), (7, (.bool v20.2)), (8, (.int .i64 v22.1)), (9, (.bool v22.2)), (10, (.int .i64 v20.1))], [(0, (.vec 2 (List.map Z2 v3))), (1000, (.loop lr [5, 7, 8, 9] [(.ptr 1001 0), (.ptr 1002 0), (.ptr 1003 0), (.ptr 1004 0)])), (1001, (.box [(.clo 72 [])])), (1002, (.box [(.vs 0)])), (1003, (.box [(.int .i64 v4)])), (1004, (.box [(.bool v5)]))]⟩) ⟨rfl, rfl, rfl, rfl, rfl, rfl, rfl, rfl, rfl, rfl, trivial⟩ ⟨rfl, rfl, rfl, rfl, rfl, rfl, trivial⟩ (J26 v20.1 h)
     ·intro J24
      refine Z7 <| Z1 I (Ze (v := (.bool v20.2)) I I) I <| Z1 I (st_not (b := v20.2) I I) I <| Z1 I (Ze (v := (.bool (!v20.2))) I I) I ?_
      have hif := Z1g h
      refine Z15 (fun hc => ?_) (fun hc => ?_)
      ·have h := hif.1 hc
       refine Z5 I I I I I I I <| Z5 I I I I I I I <| Z5 (u := .tup []) I I I I I I I <| Z5 (u := .tup []) I I I I I I I <| Z5 (u := .tup []) I I I I I I I <| Z5 I I I I I I I <| Z1 I (Z1d (v := (.bool true)) I I I) I <| Za ?_
       exact Zp (st' := ⟨[(0, (.yld 1000)), (1, (.ip [(.sl 2 (a1.map Z2) false)])), (2, (.ip [(.sl 2 (a2.map Z2) false)])), (4, (.int .i64 v1)), (5, (.int .i64 v2)), (6, (.int .i64 v20.1)), (7, (.bool v20.2)), (8, (.int .i64 v22.1)), (9, (.bool v22.2)), (10, (.int .i64 v20.1)), (45, (.bool true))], [(0, (.vec 2 (List.map Z2 v3))), (1000, (.loop lr [5, 7, 8, 9] [(.ptr 1001 0), (.ptr 1002 0), (.ptr 1003 0), (.ptr 1004 0)])), (1001, (.box [(.clo 72 [])])), (1002, (.box [(.vs 0)])), (1003, (.box [(.int .i64 v4)])), (1004, (.box [(.bool v5)]))]⟩) ⟨rfl, rfl, rfl, rfl, rfl, rfl, rfl, rfl, rfl, rfl, rfl, trivial⟩ ⟨rfl, rfl, rfl, rfl, rfl, rfl, trivial⟩ (J24 true h)
      ·have h := hif.2 hc
       refine Zh I I I I (Ze (v := (.bool v22.2)) I I) I <| Zh I I I I (Ze (v := (.bool v22.2)) I I) I ?_
       have hif := Z1g h
       refine Z15 (fun hc => ?_) (fun hc => ?_)
       ·have h := hif.1 hc
        refine Zh I I I I (Ze (v := (.int .i64 v22.1)) I I) I <| Zh I I I I (Ze (v := (.int .i64 v20.1)) I I) I <| Zh I I I I (Z1f (k := .i64) (a := v22.1) (b := v20.1) (c := (decide (v22.1 < v20.1))) I I I I) I <| Zh I I I I (Z1d (v := (.bool (decide (v22.1 < v20.1)))) I I I) I <| Z1 I (Z10 (v := (.bool (decide (v22.1 < v20.1)))) I I I) I <| Za ?_
        exact Zp (st' := ⟨[(0, (.yld 1000)), (1, (.ip [(.sl 2 (a1.map Z2) false)])), (2, (.ip [(.sl 2 (a2.map Z2) false)])), (4, (.int .i64 v1)), (5, (.int .i64 v2)), (6, (.int .i64 v20.1)), (7, (.bool v20.2)), (8, (.int .i64 v22.1)), (9, (.bool v22.2)), (10, (.int .i64 v20.1)), (45, (.bool (decide (v22.1 < v20.1))))], [(0, (.vec 2 (List.map Z2 v3))), (1000, (.loop lr [5, 7, 8, 9] [(.ptr 1001 0), (.ptr 1002 0), (.ptr 1003 0), (.ptr 1004 0)])), (1001, (.box [(.clo 72 [])])), (1002, (.box [(.vs 0)])), (1003, (.box [(.int .i64 v4)])), (1004, (.box [(.bool v5)]))]⟩) ⟨rfl, rfl, rfl, rfl, rfl, rfl, rfl, rfl, rfl, rfl, rfl, trivial⟩ ⟨rfl, rfl, rfl, rfl, rfl, rfl, trivial⟩ (J24 (decide (v22.1 < v20.1)) h)
       ·have h := hif.2 hc
        refine Z5 I I I I I I I <| Z5 I I I I I I I <| Z5 I I I I I I I <| Zh I I I I (Z10 (v := (.bool false)) I I I) I <| Z1 I (Z10 (v := (.bool false)) I I I) I <| Za ?_
        exact Zp (st' := ⟨[(0, (.yld 1000)), (1, (.ip [(.sl 2 (a1.map Z2) false)])), (2, (.ip [(.sl 2 (a2.map Z2) false)])), (4, (.int .i64 v1)), (5, (.int .i64 v2)), (6, (.int .i64 v20.1)), (7, (.bool v20.2)), (8, (.int .i64 v22.1)), (9, (.bool v22.2)), (10, (.int .i64 v20.1)), (45, (.bool false))], [(0, (.vec 2 (List.map Z2 v3))), (1000, (.loop lr [5, 7, 8, 9] [(.ptr 1001 0), (.ptr 1002 0), (.ptr 1003 0), (.ptr 1004 0)])), (1001, (.box [(.clo 72 [])])), (1002, (.box [(.vs 0)])), (1003, (.box [(.int .i64 v4)])), (1004, (.box [(.bool v5)]))]⟩) ⟨rfl, rfl, rfl, rfl, rfl, rfl, rfl, rfl, rfl, rfl, rfl, trivial⟩ ⟨rfl, rfl, rfl, rfl, rfl, rfl, trivial⟩ (J24 false h)
   ·have h := hif.2 hc
    refine Zh I I I I (Ze (v := (.int .i64 v2)) I I) I <| Zh I I I I (Z1m (cs := [(.sl 2 (a2.map Z2) false)]) (v := (.sl 2 (a2.map Z2) false)) I o45 I I) I <| Zh I I I I (stx_len (l := a2) (enc := Z2) I s45 I) I <| Zh I I I I (Z1o (k := .i64) (a := 2) (b := (a2.length : Int)) (c := (IntKind.i64.wrap (2 * (a2.length : Int)))) I I I I) I <| Zh I I I I (Z1f (k := .i64) (a := v2) (b := (IntKind.i64.wrap (2 * (a2.length : Int)))) (c := (decide (v2 < (IntKind.i64.wrap (2 * (a2.length : Int)))))) I I I I) I <| Z1 I (Z10 (v := (.bool (decide (v2 < (IntKind.i64.wrap (2 * (a2.length : Int))))))) I I I) I <| Za <| Zd ?_
    have hif := Z1g h
    refine Zs I (fun hc => ?_) (fun hc => ?_)
    ·have h := hif.1 hc
     refine Zx <| Zd ?_
     refine AWp.blockJoin (V := Int × Int × (List Z4) × Int × Bool) (lp := fun v => F108_i1_j42 K (F108_i1_l6 K a1 a2 a899 (F108_i1_c10 K) k6) v.1 v.2.1 v.2.2.1 v.2.2.2.1 v.2.2.2.2 = some r) (sh := fun v => ⟨[(0, (.yld 1000)), (1, (.ip [(.sl 2 (a1.map Z2) false)])), (2, (.ip [(.sl 2 (a2.map Z2) false)])), (4, (.int .i64 v.1)), (5, (.int .i64 v.2.1))], [(0, (.vec 2 (List.map Z2 v.2.2.1))), (1000, (.loop lr [5, 7, 8, 9] [(.ptr 1001 0), (.ptr 1002 0), (.ptr 1003 0), (.ptr 1004 0)])), (1001, (.box [(.clo 72 [])])), (1002, (.box [(.vs 0)])), (1003, (.box [(.int .i64 v.2.2.2.1)])), (1004, (.box [(.bool v.2.2.2.2)]))]⟩) ?_ ?_
     ·intro v h
      obtain ⟨v37, v38, v39, v40, v41⟩ := v
      try dsimp only at h ⊢
      unfold F108_i1_j42 at h
      exact Zp (st' := ⟨[(0, (.yld 1000)), (1, (.ip [(.sl 2 (a1.map Z2) false)])), (2, (.ip [(.sl 2 (a2.map Z2) false)])), (4, (.int .i64 v37)), (5, (.int .i64 v38))], [(0, (.vec 2 (List.map Z2 v39))), (1000, (.loop lr [5, 7, 8, 9] [(.ptr 1001 0), (.ptr 1002 0), (.ptr 1003 0), (.ptr 1004 0)])), (1001, (.box [(.clo 72 [])])), (1002, (.box [(.vs 0)])), (1003, (.box [(.int .i64 v40)])), (1004, (.box [(.bool v41)]))]⟩) ⟨rfl, rfl, rfl, rfl, rfl, trivial⟩ ⟨rfl, rfl, rfl, rfl, rfl, rfl, trivial⟩ (IH6 _ (v37, v38, v39, v40, v41) (Nat.lt_succ_self _) h)
     ·intro J42
      refine Zf <| Z7 <| Z1 I (Z1m (cs := [(.sl 2 (a1.map Z2) false)]) (v := (.sl 2 (a1.map Z2) false)) I o45 I I) I <| Z1 I (Ze (v := (.int .i64 v1)) I I) I ?_
      have ⟨v44, hv44, h⟩ := Z17 h
      refine Z1 I (Z1b (ar := [(.sl 2 (a1.map Z2) false), (.int .i64 v1)]) (caps := []) Try.call109 (F109_ok K a1 v1 v44 hv44) I I ⟨rfl, rfl, trivial⟩ I) I <| Z1 I (Ze (v := (.tup [(.int .i64 v44.1), (.bool v44.2)])) I I) I <| Z1 I (st_extract (vs := [(.int .i64 v44.1), (.bool v44.2)]) (v := (.int .i64 v44.1)) I I I) I <| Z1 I (st_extract (vs := [(.int .i64 v44.1), (.bool v44.2)]) (v := (.bool v44.2)) I I I) I <| Z1 I (Zg (v := (.int .i64 v44.1)) I I) I <| Z1 I (Zg (v := (.bool v44.2)) I I) I <| Za <| Zd ?_
      refine Zf <| Z7 <| Z1 I (Z1m (cs := [(.sl 2 (a2.map Z2) false)]) (v := (.sl 2 (a2.map Z2) false)) I o45 I I) I <| Z1 I (Ze (v := (.int .i64 v2)) I I) I ?_
      have ⟨v46, hv46, h⟩ := Z17 h
      refine Z1 I (Z1b (ar := [(.sl 2 (a2.map Z2) false), (.int .i64 v2)]) (caps := []) Try.call109 (F109_ok K a2 v2 v46 hv46) I I ⟨rfl, rfl, trivial⟩ I) I <| Z1 I (Ze (v := (.tup [(.int .i64 v46.1), (.bool v46.2)])) I I) I <| Z1 I (st_extract (vs := [(.int .i64 v46.1), (.bool v46.2)]) (v := (.int .i64 v46.1)) I I I) I <| Z1 I (st_extract (vs := [(.int .i64 v46.1), (.bool v46.2)]) (v := (.bool v46.2)) I I I) I <| Z1 I (Zg (v := (.int .i64 v46.1)) I I) I <| Z1 I (Zg (v := (.bool v46.2)) I I) I <| Za <| Zd ?_
      refine Zf <| Z7 <| Z1 I (Ze (v := (.int .i64 v44.1)) I I) I <| Z1 I (Zg (v := (.int .i64 v44.1)) I I) I <| Za <| Zd <| Zf <| Zf ?_
      refine AWp.join (V := Bool) (lp := fun v => F108_i1_j48 K v44 v46 a899 v4 v5 v3 (F108_i1_l6 K a1 a2 a899 (F108_i1_c10 K) k6) v2 v1 v = some r) (sh := fun v => ⟨[(0, (.yld 1000)), (1, (.ip [(.sl 2 (a1.map Z2) false)])), (2, (.ip [(.sl 2 (a2.map Z2) false)])), (4, (.int .i64 v1)), (5, (.int .i64 v2)), (6, (.int .i64 v44.1)), (7, (.bool v44.2)), (8, (.int .i64 v46.1)), (9, (.bool v46.2)), (10, (.int .i64 v44.1)), (45, (.bool v))], [(0, (.vec 2 (List.map Z2 v3))), (1000, (.loop lr [5, 7, 8, 9] [(.ptr 1001 0), (.ptr 1002 0), (.ptr 1003 0), (.ptr 1004 0)])), (1001, (.box [(.clo 72 [])])), (1002, (.box [(.vs 0)])), (1003, (.box [(.int .i64 v4)])), (1004, (.box [(.bool v5)]))]⟩) ?_ ?_
      ·intro v h
       revert h
       revert v
       intro v47 h
       try dsimp only at h ⊢
       unfold F108_i1_j48 at h
       refine Zd ?_
       refine AWp.join (V := Int) (lp := fun v => F108_i1_j50 K v44 v46 a899 v4 v5 v3 (F108_i1_l6 K a1 a2 a899 (F108_i1_c10 K) k6) v2 v1 v = some r) (sh := fun v => ⟨[(0, (.yld 1000)), (1, (.ip [(.sl 2 (a1.map Z2) false)])), (2, (.ip [(.sl 2 (a2.map Z2) false)])), (4, (.int .i64 v1)), (5, (.int .i64 v2)), (6, (.int .i64 v44.1)), (7, (.bool v44.2)), (8, (.int .i64 v46.1)), (9, (.bool v46.2)), (10, (.int .i64 v))], [(0, (.vec 2 (List.map Z2 v3))), (1000, (.loop lr [5, 7, 8, 9] [(.ptr 1001 0), (.ptr 1002 0), (.ptr 1003 0), (.ptr 1004 0)])), (1001, (.box [(.clo 72 [])])), (1002, (.box [(.vs 0)])), (1003, (.box [(.int .i64 v4)])), (1004, (.box [(.bool v5)]))]⟩) ?_ ?_
       ·intro v h
        revert h
        revert v
        intro v49 h
        try dsimp only at h ⊢
        unfold F108_i1_j50 at h
        refine Zd <| Zf <| Zf <| Z7 <| Z1 I (Ze (v := (.bool v44.2)) I I) I <| Z1 I (Ze (v := (.bool v44.2)) I I) I ?_
        have hif := Z1g h
        refine Z15 (fun hc => ?_) (fun hc => ?_)
        ·have h := hif.1 hc
         refine Zh I I I I (Ze (v := (.int .i64 v44.1)) I I) I <| Zh I I I I (Ze (v := (.int .i64 v49)) I I) I <| Zh I I I I (Z1f (k := .i64) (a := v44.1) (b := v49) (c := (v44.1 == v49)) I I I I) I <| Z1 I (Z1d (v := (.bool (v44.1 == v49))) I I I) I <| Za <| Zd ?_
         refine AWp.join (V := Int) (lp := fun v => F108_i1_j52 K v46 v49 a899 v4 v5 v3 (F108_i1_l6 K a1 a2 a899 (F108_i1_c10 K) k6) v2 v = some r) (sh := fun v => ⟨[(0, (.yld 1000)), (1, (.ip [(.sl 2 (a1.map Z2) false)])), (2, (.ip [(.sl 2 (a2.map Z2) false)])), (4, (.int .i64 v)), (5, (.int .i64 v2)), (8, (.int .i64 v46.1)), (9, (.bool v46.2)), (10, (.int .i64 v49))], [(0, (.vec 2 (List.map Z2 v3))), (1000, (.loop lr [5, 7, 8, 9] [(.ptr 1001 0), (.ptr 1002 0), (.ptr 1003 0), (.ptr 1004 0)])), (1001, (.box [(.clo 72 [])])), (1002, (.box [(.vs 0)])), (1003, (.box [(.int .i64 v4)])), (1004, (.box [(.bool v5)]))]⟩) ?_ ?_
         ·intro v h
          revert h
          revert v
          intro v51 h
          try dsimp only at h ⊢
          unfold F108_i1_j52 at h
          refine Zd <| Zf <| Zf <| Z7 <| Z1 I (Ze (v := (.bool v46.2)) I I) I <| Z1 I (Ze (v := (.bool v46.2)) I I) I ?_
          have hif := Z1g h
          refine Z15 (fun hc => ?_) (fun hc => ?_)
          ·have h := hif.1 hc
           refine Zh I I I I (Ze (v := (.int .i64 v46.1)) I I) I <| Zh I I I I (Ze (v := (.int .i64 v49)) I I) I <| Zh I I I I (Z1f (k := .i64) (a := v46.1) (b := v49) (c := (v46.1 == v49)) I I I I) I <| Z1 I (Z1d (v := (.bool (v46.1 == v49))) I I I) I <| Za <| Zd ?_
           refine AWp.join (V := Int) (lp := fun v => F108_i1_j54 K a899 v49 v51 v4 v5 v3 (F108_i1_l6 K a1 a2 a899 (F108_i1_c10 K) k6) v = some r) (sh := fun v => ⟨[(0, (.yld 1000)), (1, (.ip [(.sl 2 (a1.map Z2) false)])), (2, (.ip [(.sl 2 (a2.map Z2) false)])), (4, (.int .i64 v51)), (5, (.int .i64 v)), (10, (.int .i64 v49))], [(0, (.vec 2 (List.map Z2 v3))), (1000, (.loop lr [5, 7, 8, 9] [(.ptr 1001 0), (.ptr 1002 0), (.ptr 1003 0), (.ptr 1004 0)])), (1001, (.box [(.clo 72 [])])), (1002, (.box [(.vs 0)])), (1003, (.box [(.int .i64 v4)])), (1004, (.box [(.bool v5)]))]⟩) ?_ ?_
           ·intro v h
            revert h
            revert v
            intro v53 h
            try dsimp only at h ⊢
            unfold F108_i1_j54 at h
            refine Zd <| Zf <| Z7 <| Z1 I (Ze (v := (.yld 1000)) I I) I <| Z1 I (Ze (v := (.int .i64 v49)) I I) I <| Z1 I (Ze (v := (.int .i64 v51)) I I) I <| Z1 I (st_div (k := .i64) (a := v51) (b := 2) (c := (v51.tmod 2)) I I I I (by decide)) I <| Z1 I (Z1f (k := .i64) (a := (v51.tmod 2)) (b := 1) (c := ((v51.tmod 2) == 1)) I I I I) I ?_
            refine Z1 I (Ze (v := (.int .i64 v53)) I I) I <| Z1 I (st_div (k := .i64) (a := v53) (b := 2) (c := (v53.tmod 2)) I I I I (by decide)) I <| Z1 I (Z1f (k := .i64) (a := (v53.tmod 2)) (b := 1) (c := ((v53.tmod 2) == 1)) I I I I) I <| Z1 I (stx_buildA (vs := [(0, (.bool ((v51.tmod 2) == 1))), (1, (.bool ((v53.tmod 2) == 1)))]) (cs := [(.bool ((v51.tmod 2) == 1)), (.bool ((v53.tmod 2) == 1))]) I ar128 ⟨rfl, rfl, rfl, rfl, trivial⟩ I) I ?_
            have ⟨v55, hv55, h⟩ := Z17 h
            refine Z1 I (st_yield (d := some 72) (ks := [5, 7, 8, 9]) (vs := [(.ptr 1001 0), (.ptr 1002 0), (.ptr 1003 0), (.ptr 1004 0)]) (c := ⟨[(.int .i64 v49), (.ag [(.bool ((v51.tmod 2) == 1)), (.bool ((v53.tmod 2) == 1))])], [(1000, (.loop lr [5, 7, 8, 9] [(.ptr 1001 0), (.ptr 1002 0), (.ptr 1003 0), (.ptr 1004 0)])), (0, (.vec 2 (List.map Z2 v3))), (1001, (.box [(.clo 72 [])])), (1002, (.box [(.vs 0)])), (1003, (.box [(.int .i64 v4)])), (1004, (.box [(.bool v5)]))], .bool true, [(1000, (.loop lr [5, 7, 8, 9] [(.ptr 1001 0), (.ptr 1002 0), (.ptr 1003 0), (.ptr 1004 0)])), (0, (.vec 2 (List.map Z2 v55.2.2))), (1001, (.box [(.clo 72 [])])), (1002, (.box [(.vs 0)])), (1003, (.box [(.int .i64 v55.1)])), (1004, (.box [(.bool v55.2.1)]))], [0]⟩) (ar := [(.int .i64 v49), (.ag [(.bool ((v51.tmod 2) == 1)), (.bool ((v53.tmod 2) == 1))])]) (news := []) (forg := [0]) (hy v49 (⟨((v51.tmod 2) == 1), ((v53.tmod 2) == 1)⟩ : A2_Bool) v4 v5 v3 _ hv55) I hps I I ⟨rfl, rfl, trivial⟩ I ⟨rfl, rfl, rfl, rfl, rfl, rfl, trivial⟩ I) I <| Z1 I (st_not (b := true) I I) I <| Za <| Zd ?_
            refine Zs (b := false) I (fun hc => ?_) (fun hc => ?_)
            ·cases hc
            refine Zx <| At.end ?_
            exact Zp (st' := ⟨[(0, (.yld 1000)), (1, (.ip [(.sl 2 (a1.map Z2) false)])), (2, (.ip [(.sl 2 (a2.map Z2) false)])), (4, (.int .i64 v51)), (5, (.int .i64 v53))], [(0, (.vec 2 (List.map Z2 v55.2.2))), (1000, (.loop lr [5, 7, 8, 9] [(.ptr 1001 0), (.ptr 1002 0), (.ptr 1003 0), (.ptr 1004 0)])), (1001, (.box [(.clo 72 [])])), (1002, (.box [(.vs 0)])), (1003, (.box [(.int .i64 v55.1)])), (1004, (.box [(.bool v55.2.1)]))]⟩) ⟨rfl, rfl, rfl, rfl, rfl, trivial⟩ ⟨rfl, rfl, rfl, rfl, rfl, rfl, trivial⟩ (J42 (v51, v53, v55.2.2, v55.1, v55.2.1) h)
           ·intro J54
            have hif := Z1g h
            refine Zs I (fun hc => ?_) (fun hc => ?_)
            ·have h := hif.1 hc
             refine Z7 <| Z1 I (Ze (v := (.int .i64 v2)) I I) I <| Z1 I (Z1o (k := .i64) (a := v2) (b := 1) (c := (IntKind.i64.wrap (v2 + 1))) I I I I) I <| Z1 I (Zg (v := (.int .i64 (IntKind.i64.wrap (v2 + 1)))) I I) I <| Za ?_
             exact Zp (st' := ⟨[(0, (.yld 1000)), (1, (.ip [(.sl 2 (a1.map Z2) false)])), (2, (.ip [(.sl 2 (a2.map Z2) false)])), (4, (.int .i64 v51)), (5, (.int .i64 (IntKind.i64.wrap (v2 + 1)))), (10, (.int .i64 v49))], [(0, (.vec 2 (List.map Z2 v3))), (1000, (.loop lr [5, 7, 8, 9] [(.ptr 1001 0), (.ptr 1002 0), (.ptr 1003 0), (.ptr 1004 0)])), (1001, (.box [(.clo 72 [])])), (1002, (.box [(.vs 0)])), (1003, (.box [(.int .i64 v4)])), (1004, (.box [(.bool v5)]))]⟩) ⟨rfl, rfl, rfl, rfl, rfl, rfl, trivial⟩ ⟨rfl, rfl, rfl, rfl, rfl, rfl, trivial⟩ (J54 (IntKind.i64.wrap (v2 + 1)) h)
            ·have h := hif.2 hc
             refine Zx ?_
             exact Zp (st' := ⟨[(0, (.yld 1000)), (1, (.ip [(.sl 2 (a1.map Z2) false)])), (2, (.ip [(.sl 2 (a2.map Z2) false)])), (4, (.int .i64 v51)), (5, (.int .i64 v2)), (10, (.int .i64 v49))], [(0, (.vec 2 (List.map Z2 v3))), (1000, (.loop lr [5, 7, 8, 9] [(.ptr 1001 0), (.ptr 1002 0), (.ptr 1003 0), (.ptr 1004 0)])), (1001, (.box [(.clo 72 [])])), (1002, (.box [(.vs 0)])), (1003, (.box [(.int .i64 v4)])), (1004, (.box [(.bool v5)]))]⟩) ⟨rfl, rfl, rfl, rfl, rfl, rfl, trivial⟩ ⟨rfl, rfl, rfl, rfl, rfl, rfl, trivial⟩ (J54 v2 h)
          ·have h := hif.2 hc
           refine Z5 I I I I I I I <| Z5 I I I I I I I <| Z5 I I I I I I I <| Z1 I (Z10 (v := (.bool false)) I I I) I <| Za <| Zd ?_
           refine Zs (b := false) I (fun hc => ?_) (fun hc => ?_)
           ·cases hc
           refine Zx <| Zd <| Zf <| Z7 <| Z1 I (Ze (v := (.yld 1000)) I I) I <| Z1 I (Ze (v := (.int .i64 v49)) I I) I <| Z1 I (Ze (v := (.int .i64 v51)) I I) I <| Z1 I (st_div (k := .i64) (a := v51) (b := 2) (c := (v51.tmod 2)) I I I I (by decide)) I ?_
           refine Z1 I (Z1f (k := .i64) (a := (v51.tmod 2)) (b := 1) (c := ((v51.tmod 2) == 1)) I I I I) I <| Z1 I (Ze (v := (.int .i64 v2)) I I) I <| Z1 I (st_div (k := .i64) (a := v2) (b := 2) (c := (v2.tmod 2)) I I I I (by decide)) I <| Z1 I (Z1f (k := .i64) (a := (v2.tmod 2)) (b := 1) (c := ((v2.tmod 2) == 1)) I I I I) I <| Z1 I (stx_buildA (vs := [(0, (.bool ((v51.tmod 2) == 1))), (1, (.bool ((v2.tmod 2) == 1)))]) (cs := [(.bool ((v51.tmod 2) == 1)), (.bool ((v2.tmod 2) == 1))]) I ar128 ⟨rfl, rfl, rfl, rfl, trivial⟩ I) I ?_
           have ⟨v56, hv56, h⟩ := Z17 h
           refine Z1 I (st_yield (d := some 72) (ks := [5, 7, 8, 9]) (vs := [(.ptr 1001 0), (.ptr 1002 0), (.ptr 1003 0), (.ptr 1004 0)]) (c := ⟨[(.int .i64 v49), (.ag [(.bool ((v51.tmod 2) == 1)), (.bool ((v2.tmod 2) == 1))])], [(1000, (.loop lr [5, 7, 8, 9] [(.ptr 1001 0), (.ptr 1002 0), (.ptr 1003 0), (.ptr 1004 0)])), (0, (.vec 2 (List.map Z2 v3))), (1001, (.box [(.clo 72 [])])), (1002, (.box [(.vs 0)])), (1003, (.box [(.int .i64 v4)])), (1004, (.box [(.bool v5)]))], .bool true, [(1000, (.loop lr [5, 7, 8, 9] [(.ptr 1001 0), (.ptr 1002 0), (.ptr 1003 0), (.ptr 1004 0)])), (0, (.vec 2 (List.map Z2 v56.2.2))), (1001, (.box [(.clo 72 [])])), (1002, (.box [(.vs 0)])), (1003, (.box [(.int .i64 v56.1)])), (1004, (.box [(.bool v56.2.1)]))], [0]⟩) (ar := [(.int .i64 v49), (.ag [(.bool ((v51.tmod 2) == 1)), (.bool ((v2.tmod 2) == 1))])]) (news := []) (forg := [0]) (hy v49 (⟨((v51.tmod 2) == 1), ((v2.tmod 2) == 1)⟩ : A2_Bool) v4 v5 v3 _ hv56) I hps I I ⟨rfl, rfl, trivial⟩ I ⟨rfl, rfl, rfl, rfl, rfl, rfl, trivial⟩ I) I <| Z1 I (st_not (b := true) I I) I <| Za <| Zd ?_
           refine Zs (b := false) I (fun hc => ?_) (fun hc => ?_)
           ·cases hc
           refine Zx <| At.end ?_
           exact Zp (st' := ⟨[(0, (.yld 1000)), (1, (.ip [(.sl 2 (a1.map Z2) false)])), (2, (.ip [(.sl 2 (a2.map Z2) false)])), (4, (.int .i64 v51)), (5, (.int .i64 v2))], [(0, (.vec 2 (List.map Z2 v56.2.2))), (1000, (.loop lr [5, 7, 8, 9] [(.ptr 1001 0), (.ptr 1002 0), (.ptr 1003 0), (.ptr 1004 0)])), (1001, (.box [(.clo 72 [])])), (1002, (.box [(.vs 0)])), (1003, (.box [(.int .i64 v56.1)])), (1004, (.box [(.bool v56.2.1)]))]⟩) ⟨rfl, rfl, rfl, rfl, rfl, trivial⟩ ⟨rfl, rfl, rfl, rfl, rfl, rfl, trivial⟩ (J42 (v51, v2, v56.2.2, v56.1, v56.2.1) h)
         ·intro J52
          have hif := Z1g h
          refine Zs I (fun hc => ?_) (fun hc => ?_)
          ·have h := hif.1 hc
           refine Z7 <| Z1 I (Ze (v := (.int .i64 v1)) I I) I <| Z1 I (Z1o (k := .i64) (a := v1) (b := 1) (c := (IntKind.i64.wrap (v1 + 1))) I I I I) I <| Z1 I (Zg (v := (.int .i64 (IntKind.i64.wrap (v1 + 1)))) I I) I <| Za ?_
           exact Zp (st' := ⟨[(0, (.yld 1000)), (1, (.ip [(.sl 2 (a1.map Z2) false)])), (2, (.ip [(.sl 2 (a2.map Z2) false)])), (4, (.int .i64 (IntKind.i64.wrap (v1 + 1)))), (5, (.int .i64 v2)), (8, (.int .i64 v46.1)), (9, (.bool v46.2)), (10, (.int .i64 v49))], [(0, (.vec 2 (List.map Z2 v3))), (1000, (.loop lr [5, 7, 8, 9] [(.ptr 1001 0), (.ptr 1002 0), (.ptr 1003 0), (.ptr 1004 0)])), (1001, (.box [(.clo 72 [])])), (1002, (.box [(.vs 0)])), (1003, (.box [(.int .i64 v4)])), (1004, (.box [(.bool v5)]))]⟩) ⟨rfl, rfl, rfl, rfl, rfl, rfl, rfl, rfl, trivial⟩ ⟨rfl, rfl, rfl, rfl, rfl, rfl, trivial⟩ (J52 (IntKind.i64.wrap (v1 + 1)) h)
          ·have h := hif.2 hc
           refine Zx ?_
           exact Zp (st' := ⟨[(0, (.yld 1000)), (1, (.ip [(.sl 2 (a1.map Z2) false)])), (2, (.ip [(.sl 2 (a2.map Z2) false)])), (4, (.int .i64 v1)), (5, (.int .i64 v2)), (8, (.int .i64 v46.1)), (9, (.bool v46.2)), (10, (.int .i64 v49))], [(0, (.vec 2 (List.map Z2 v3))), (1000, (.loop lr [5, 7, 8, 9] [(.ptr 1001 0), (.ptr 1002 0), (.ptr 1003 0), (.ptr 1004 0)])), (1001, (.box [(.clo 72 [])])), (1002, (.box [(.vs 0)])), (1003, (.box [(.int .i64 v4)])), (1004, (.box [(.bool v5)]))]⟩) ⟨rfl, rfl, rfl, rfl, rfl, rfl, rfl, rfl, trivial⟩ ⟨rfl, rfl, rfl, rfl, rfl, rfl, trivial⟩ (J52 v1 h)
        ·have h := hif.2 hc
         refine Z5 I I I I I I I <| Z5 I I I I I I I <| Z5 I I I I I I I <| Z1 I (Z10 (v := (.bool false)) I I I) I <| Za <| Zd ?_
         refine Zs (b := false) I (fun hc => ?_) (fun hc => ?_)
         ·cases hc
         refine Zx <| Zd <| Zf <| Zf <| Z7 <| Z1 I (Ze (v := (.bool v46.2)) I I) I <| Z1 I (Ze (v := (.bool v46.2)) I I) I ?_
         have hif := Z1g h
         refine Z15 (fun hc => ?_) (fun hc => ?_)
         ·have h := hif.1 hc
          refine Zh I I I I (Ze (v := (.int .i64 v46.1)) I I) I <| Zh I I I I (Ze (v := (.int .i64 v49)) I I) I <| Zh I I I I (Z1f (k := .i64) (a := v46.1) (b := v49) (c := (v46.1 == v49)) I I I I) I <| Z1 I (Z1d (v := (.bool (v46.1 == v49))) I I I) I <| Za <| Zd ?_
          refine AWp.join (V := Int) (lp := fun v => F108_i1_j58 K a899 v49 v1 v4 v5 v3 (F108_i1_l6 K a1 a2 a899 (F108_i1_c10 K) k6) v = some r) (sh := fun v => ⟨[(0, (.yld 1000)), (1, (.ip [(.sl 2 (a1.map Z2) false)])), (2, (.ip [(.sl 2 (a2.map Z2) false)])), (4, (.int .i64 v1)), (5, (.int .i64 v)), (10, (.int .i64 v49))], [(0, (.vec 2 (List.map Z2 v3))), (1000, (.loop lr [5, 7, 8, 9] [(.ptr 1001 0), (.ptr 1002 0), (.ptr 1003 0), (.ptr 1004 0)])), (1001, (.box [(.clo 72 [])])), (1002, (.box [(.vs 0)])), (1003, (.box [(.int .i64 v4)])), (1004, (.box [(.bool v5)]))]⟩) ?_ ?_
          ·intro v h
           revert h
           revert v
           intro v57 h
           try dsimp only at h ⊢
           unfold F108_i1_j58 at h
           refine Zd <| Zf <| Z7 <| Z1 I (Ze (v := (.yld 1000)) I I) I <| Z1 I (Ze (v := (.int .i64 v49)) I I) I <| Z1 I (Ze (v := (.int .i64 v1)) I I) I <| Z1 I (st_div (k := .i64) (a := v1) (b := 2) (c := (v1.tmod 2)) I I I I (by decide)) I <| Z1 I (Z1f (k := .i64) (a := (v1.tmod 2)) (b := 1) (c := ((v1.tmod 2) == 1)) I I I I) I ?_
           refine Z1 I (Ze (v := (.int .i64 v57)) I I) I <| Z1 I (st_div (k := .i64) (a := v57) (b := 2) (c := (v57.tmod 2)) I I I I (by decide)) I <| Z1 I (Z1f (k := .i64) (a := (v57.tmod 2)) (b := 1) (c := ((v57.tmod 2) == 1)) I I I I) I <| Z1 I (stx_buildA (vs := [(0, (.bool ((v1.tmod 2) == 1))), (1, (.bool ((v57.tmod 2) == 1)))]) (cs := [(.bool ((v1.tmod 2) == 1)), (.bool ((v57.tmod 2) == 1))]) I ar128 ⟨rfl, rfl, rfl, rfl, trivial⟩ I) I ?_
           have ⟨v59, hv59, h⟩ := Z17 h
           refine Z1 I (st_yield (d := some 72) (ks := [5, 7, 8, 9]) (vs := [(.ptr 1001 0), (.ptr 1002 0), (.ptr 1003 0), (.ptr 1004 0)]) (c := ⟨[(.int .i64 v49), (.ag [(.bool ((v1.tmod 2) == 1)), (.bool ((v57.tmod 2) == 1))])], [(1000, (.loop lr [5, 7, 8, 9] [(.ptr 1001 0), (.ptr 1002 0), (.ptr 1003 0), (.ptr 1004 0)])), (0, (.vec 2 (List.map Z2 v3))), (1001, (.box [(.clo 72 [])])), (1002, (.box [(.vs 0)])), (1003, (.box [(.int .i64 v4)])), (1004, (.box [(.bool v5)]))], .bool true, [(1000, (.loop lr [5, 7, 8, 9] [(.ptr 1001 0), (.ptr 1002 0), (.ptr 1003 0), (.ptr 1004 0)])), (0, (.vec 2 (List.map Z2 v59.2.2))), (1001, (.box [(.clo 72 [])])), (1002, (.box [(.vs 0)])), (1003, (.box [(.int .i64 v59.1)])), (1004, (.box [(.bool v59.2.1)]))], [0]⟩) (ar := [(.int .i64 v49), (.ag [(.bool ((v1.tmod 2) == 1)), (.bool ((v57.tmod 2) == 1))])]) (news := []) (forg := [0]) (hy v49 (⟨((v1.tmod 2) == 1), ((v57.tmod 2) == 1)⟩ : A2_Bool) v4 v5 v3 _ hv59) I hps I I ⟨rfl, rfl, trivial⟩ I ⟨rfl, rfl, rfl, rfl, rfl, rfl, trivial⟩ I) I <| Z1 I (st_not (b := true) I I) I <| Za <| Zd ?_
           refine Zs (b := false) I (fun hc => ?_) (fun hc => ?_)
           ·cases hc
           refine Zx <| At.end ?_
           exact Zp (st' := ⟨[(0, (.yld 1000)), (1, (.ip [(.sl 2 (a1.map Z2) false)])), (2, (.ip [(.sl 2 (a2.map Z2) false)])), (4, (.int .i64 v1)), (5, (.int .i64 v57))], [(0, (.vec 2 (List.map Z2 v59.2.2))), (1000, (.loop lr [5, 7, 8, 9] [(.ptr 1001 0), (.ptr 1002 0), (.ptr 1003 0), (.ptr 1004 0)])), (1001, (.box [(.clo 72 [])])), (1002, (.box [(.vs 0)])), (1003, (.box [(.int .i64 v59.1)])), (1004, (.box [(.bool v59.2.1)]))]⟩) ⟨rfl, rfl, rfl, rfl, rfl, trivial⟩ ⟨rfl, rfl, rfl, rfl, rfl, rfl, trivial⟩ (J42 (v1, v57, v59.2.2, v59.1, v59.2.1) h)
          ·intro J58
           have hif := Z1g h
           refine Zs I (fun hc => ?_) (fun hc => ?_)
           ·have h := hif.1 hc
            refine Z7 <| Z1 I (Ze (v := (.int .i64 v2)) I I) I <| Z1 I (Z1o (k := .i64) (a := v2) (b := 1) (c := (IntKind.i64.wrap (v2 + 1))) I I I I) I <| Z1 I (Zg (v := (.int .i64 (IntKind.i64.wrap (v2 + 1)))) I I) I <| Za ?_
            exact Zp (st' := ⟨[(0, (.yld 1000)), (1, (.ip [(.sl 2 (a1.map Z2) false)])), (2, (.ip [(.sl 2 (a2.map Z2) false)])), (4, (.int .i64 v1)), (5, (.int .i64 (IntKind.i64.wrap (v2 + 1)))), (10, (.int .i64 v49))], [(0, (.vec 2 (List.map Z2 v3))), (1000, (.loop lr [5, 7, 8, 9] [(.ptr 1001 0), (.ptr 1002 0), (.ptr 1003 0), (.ptr 1004 0)])), (1001, (.box [(.clo 72 [])])), (1002, (.box [(.vs 0)])), (1003, (.box [(.int .i64 v4)])), (1004, (.box [(.bool v5)]))]⟩) ⟨rfl, rfl, rfl, rfl, rfl, rfl, trivial⟩ ⟨rfl, rfl, rfl, rfl, rfl, rfl, trivial⟩ (J58 (IntKind.i64.wrap (v2 + 1)) h)
           ·have h := hif.2 hc
            refine Zx ?_
            exact Zp (st' := ⟨[(0, (.yld 1000)), (1, (.ip [(.sl 2 (a1.map Z2) false)])), (2, (.ip [(.sl 2 (a2.map Z2) false)])), (4, (.int .i64 v1)), (5, (.int .i64 v2)), (10, (.int .i64 v49))], [(0, (.vec 2 (List.map Z2 v3))), (1000, (.loop lr [5, 7, 8, 9] [(.ptr 1001 0), (.ptr 1002 0), (.ptr 1003 0), (.ptr 1004 0)])), (1001, (.box [(.clo 72 [])])), (1002, (.box [(.vs 0)])), (1003, (.box [(.int .i64 v4)])), (1004, (.box [(.bool v5)]))]⟩) ⟨rfl, rfl, rfl, rfl, rfl, rfl, trivial⟩ ⟨rfl, rfl, rfl, rfl, rfl, rfl, trivial⟩ (J58 v2 h)
         ·have h := hif.2 hc
          refine Z5 I I I I I I I <| Z5 I I I I I I I <| Z5 I I I I I I I <| Z1 I (Z10 (v := (.bool false)) I I I) I <| Za <| Zd ?_
          refine Zs (b := false) I (fun hc => ?_) (fun hc => ?_)
          ·cases hc
          refine Zx <| Zd <| Zf <| Z7 <| Z1 I (Ze (v := (.yld 1000)) I I) I <| Z1 I (Ze (v := (.int .i64 v49)) I I) I <| Z1 I (Ze (v := (.int .i64 v1)) I I) I <| Z1 I (st_div (k := .i64) (a := v1) (b := 2) (c := (v1.tmod 2)) I I I I (by decide)) I ?_
          refine Z1 I (Z1f (k := .i64) (a := (v1.tmod 2)) (b := 1) (c := ((v1.tmod 2) == 1)) I I I I) I <| Z1 I (Ze (v := (.int .i64 v2)) I I) I <| Z1 I (st_div (k := .i64) (a := v2) (b := 2) (c := (v2.tmod 2)) I I I I (by decide)) I <| Z1 I (Z1f (k := .i64) (a := (v2.tmod 2)) (b := 1) (c := ((v2.tmod 2) == 1)) I I I I) I <| Z1 I (stx_buildA (vs := [(0, (.bool ((v1.tmod 2) == 1))), (1, (.bool ((v2.tmod 2) == 1)))]) (cs := [(.bool ((v1.tmod 2) == 1)), (.bool ((v2.tmod 2) == 1))]) I ar128 ⟨rfl, rfl, rfl, rfl, trivial⟩ I) I ?_
          have ⟨v60, hv60, h⟩ := Z17 h
          refine Z1 I (st_yield (d := some 72) (ks := [5, 7, 8, 9]) (vs := [(.ptr 1001 0), (.ptr 1002 0), (.ptr 1003 0), (.ptr 1004 0)]) (c := ⟨[(.int .i64 v49), (.ag [(.bool ((v1.tmod 2) == 1)), (.bool ((v2.tmod 2) == 1))])], [(1000, (.loop lr [5, 7, 8, 9] [(.ptr 1001 0), (.ptr 1002 0), (.ptr 1003 0), (.ptr 1004 0)])), (0, (.vec 2 (List.map Z2 v3))), (1001, (.box [(.clo 72 [])])), (1002, (.box [(.vs 0)])), (1003, (.box [(.int .i64 v4)])), (1004, (.box [(.bool v5)]))], .bool true, [(1000, (.loop lr [5, 7, 8, 9] [(.ptr 1001 0), (.ptr 1002 0), (.ptr 1003 0), (.ptr 1004 0)])), (0, (.vec 2 (List.map Z2 v60.2.2))), (1001, (.box [(.clo 72 [])])), (1002, (.box [(.vs 0)])), (1003, (.box [(.int .i64 v60.1)])), (1004, (.box [(.bool v60.2.1)]))], [0]⟩) (ar := [(.int .i64 v49), (.ag [(.bool ((v1.tmod 2) == 1)), (.bool ((v2.tmod 2) == 1))])]) (news := []) (forg := [0]) (hy v49 (⟨((v1.tmod 2) == 1), ((v2.tmod 2) == 1)⟩ : A2_Bool) v4 v5 v3 _ hv60) I hps I I ⟨rfl, rfl, trivial⟩ I ⟨rfl, rfl, rfl, rfl, rfl, rfl, trivial⟩ I) I <| Z1 I (st_not (b := true) I I) I <| Za <| Zd ?_
          refine Zs (b := false) I (fun hc => ?_) (fun hc => ?_)
          ·cases hc
          refine Zx <| At.end ?_
          exact Zp (st' := ⟨[(0, (.yld 1000)), (1, (.ip [(.sl 2 (a1.map Z2) false)])), (2, (.ip [(.sl 2 (a2.map Z2) false)])), (4, (.int .i64 v1)), (5, (.int .i64 v2))], [(0, (.vec 2 (List.map Z2 v60.2.2))), (1000, (.loop lr [5, 7, 8, 9] [(.ptr 1001 0), (.ptr 1002 0), (.ptr 1003 0), (.ptr 1004 0)])), (1001, (.box [(.clo 72 [])])), (1002, (.box [(.vs 0)])), (1003, (.box [(.int .i64 v60.1)])), (1004, (.box [(.bool v60.2.1)]))]⟩) ⟨rfl, rfl, rfl, rfl, rfl, trivial⟩ ⟨rfl, rfl, rfl, rfl, rfl, rfl, trivial⟩ (J42 (v1, v2, v60.2.2, v60.1, v60.2.1) h)
       ·intro J50
        have hif := Z1g h
        refine Zs I (fun hc => ?_) (fun hc => ?_)
        ·have h := hif.1 hc
         refine Z7 <| Z1 I (Ze (v := (.int .i64 v46.1)) I I) I <| Z1 I (Zg (v := (.int .i64 v46.1)) I I) I <| Za ?_
         exact Zp (st' := ⟨[(0, (.yld 1000)), (1, (.ip [(.sl 2 (a1.map Z2) false)])), (2, (.ip [(.sl 2 (a2.map Z2) false)])), (4, (.int .i64 v1)), (5, (.int .i64 v2)), (6, (.int .i64 v44.1)), (7, (.bool v44.2)), (8, (.int .i64 v46.1)), (9, (.bool v46.2)), (10, (.int .i64 v46.1))], [(0, (.vec 2 (List.map Z2 v3))), (1000, (.loop lr [5, 7, 8, 9] [(.ptr 1001 0), (.ptr 1002 0), (.ptr 1003 0), (.ptr 1004 0)])), (1001, (.box [(.clo 72 [])])), (1002, (.box [(.vs 0)])), (1003, (.box [(.int .i64 v4)])), (1004, (.box [(.bool v5)]))]⟩) ⟨rfl, rfl, rfl, rfl, rfl, rfl, rfl, rfl, rfl, rfl, trivial⟩ ⟨rfl, rfl, rfl, rfl, rfl, rfl, trivial⟩ (J50 v46.1 h)
        ·have h := hif.2 hc
         refine Zx ?_
         exact Zp (st' := ⟨[(0, (.yld 1000)), (1, (.ip [(.sl 2 (a1.map Z2) false)])), (2, (.ip [(.sl 2 (a2.map Z2) false)])), (4, (.int .i64 v1)), (5, (.int .i64 v2)), (6, (.int .i64 v44.1)), (7, (.bool v44.2)), (8, (.int .i64 v46.1)), (9, (.bool v46.2)), (10, (.int .i64 v44.1))], [(0, (.vec 2 (List.map Z2 v3))), (1000, (.loop lr [5, 7, 8, 9] [(.ptr 1001 0), (.ptr 1002 0), (.ptr 1003 0), (.ptr 1004 0)])), (1001, (.box [(.clo 72 [])])), (1002, (.box [(.vs 0)])), (1003, (.box [(.int .i64 v4)])), (1004, (.box [(.bool v5)]))]⟩) ⟨rfl, rfl, rfl, rfl, rfl, rfl, rfl, rfl, rfl, rfl, trivial⟩ ⟨rfl, rfl, rfl, rfl, rfl, rfl, trivial⟩ (J50 v44.1 h)
      ·intro J48
       refine Z7 <| Z1 I (Ze (v := (.bool v44.2)) I I) I <| Z1 I (st_not (b := v44.2) I I) I <| Z1 I (Ze (v := (.bool (!v44.2))) I I) I ?_
       have hif := Z1g h
       refine Z15 (fun hc => ?_) (fun hc => ?_)
       ·have h := hif.1 hc
        refine Z5 I I I I I I I <| Z5 I I I I I I I <| Z5 (u := .tup []) I I I I I I I <| Z5 (u := .tup []) I I I I I I I <| Z5 (u := .tup []) I I I I I I I <| Z5 I I I I I I I <| Z1 I (Z1d (v := (.bool true)) I I I) I <| Za ?_
        exact Zp (st' := ⟨[(0, (.yld 1000)), (1, (.ip [(.sl 2 (a1.map Z2) false)])), (2, (.ip [(.sl 2 (a2.map Z2) false)])), (4, (.int .i64 v1)), (5, (.int .i64 v2)), (6, (.int .i64 v44.1)), (7, (.bool v44.2)), (8, (.int .i64 v46.1)), (9, (.bool v46.2)), (10, (.int .i64 v44.1)), (45, (.bool true))], [(0, (.vec 2 (List.map Z2 v3))), (1000, (.loop lr [5, 7, 8, 9] [(.ptr 1001 0), (.ptr 1002 0), (.ptr 1003 0), (.ptr 1004 0)])), (1001, (.box [(.clo 72 [])])), (1002, (.box [(.vs 0)])), (1003, (.box [(.int .i64 v4)])), (1004, (.box [(.bool v5)]))]⟩) ⟨rfl, rfl, rfl, rfl, rfl, rfl, rfl, rfl, rfl, rfl, rfl, trivial⟩ ⟨rfl, rfl, rfl, rfl, rfl, rfl, trivial⟩ (J48 true h)
       ·have h := hif.2 hc
        refine Zh I I I I (Ze (v := (.bool v46.2)) I I) I <| Zh I I I I (Ze (v := (.bool v46.2)) I I) I ?_
        have hif := Z1g h
        refine Z15 (fun hc => ?_) (fun hc => ?_)
        ·have h := hif.1 hc
         refine Zh I I I I (Ze (v := (.int .i64 v46.1)) I I) I <| Zh I I I I (Ze (v := (.int .i64 v44.1)) I I) I <| Zh I I I I (Z1f (k := .i64) (a := v46.1) (b := v44.1) (c := (decide (v46.1 < v44.1))) I I I I) I <| Zh I I I I (Z1d (v := (.bool (decide (v46.1 < v44.1)))) I I I) I <| Z1 I (Z10 (v := (.bool (decide (v46.1 < v44.1)))) I I I) I <| Za ?_
         exact Zp (st' := ⟨[(0, (.yld 1000)), (1, (.ip [(.sl 2 (a1.map Z2) false)])), (2, (.ip [(.sl 2 (a2.map Z2) false)])), (4, (.int .i64 v1)), (5, (.int .i64 v2)), (6, (.int .i64 v44.1)), (7, (.bool v44.2)), (8, (.int .i64 v46.1)), (9, (.bool v46.2)), (10, (.int .i64 v44.1)), (45, (.bool (decide (v46.1 < v44.1))))], [(0, (.vec 2 (List.map Z2 v3))), (1000, (.loop lr [5, 7, 8, 9] [(.ptr 1001 0), (.ptr 1002 0), (.ptr 1003 0), (.ptr 1004 0)])), (1001, (.box [(.clo 72 [])])), (1002, (.box [(.vs 0)])), (1003, (.box [(.int .i64 v4)])), (1004, (.box [(.bool v5)]))]⟩) ⟨rfl, rfl, rfl, rfl, rfl, rfl, rfl, rfl, rfl, rfl, rfl, trivial⟩ ⟨rfl, rfl, rfl, rfl, rfl, rfl, trivial⟩ (J48 (decide (v46.1 < v44.1)) h)
        ·have h := hif.2 hc
         refine Z5 I I I I I I I <| Z5 I I I I I I I <| Z5 I I I I I I I <| Zh I I I I (Z10 (v := (.bool false)) I I I) I <| Z1 I (Z10 (v := (.bool false)) I I I) I <| Za ?_
         exact Zp (st' := ⟨[(0, (.yld 1000)), (1, (.ip [(.sl 2 (a1.map Z2) false)])), (2, (.ip [(.sl 2 (a2.map Z2) false)])), (4, (.int .i64 v1)), (5, (.int .i64 v2)), (6, (.int .i64 v44.1)), (7, (.bool v44.2)), (8, (.int .i64 v46.1)), (9, (.bool v46.2)), (10, (.int .i64 v44.1)), (45, (.bool false))], [(0, (.vec 2 (List.map Z2 v3))), (1000, (.loop lr [5, 7, 8, 9] [(.ptr 1001 0), (.ptr 1002 0), (.ptr 1003 0), (.ptr 1004 0)])), (1001, (.box [(.clo 72 [])])), (1002, (.box [(.vs 0)])), (1003, (.box [(.int .i64 v4)])), (1004, (.box [(.bool v5)]))]⟩) ⟨rfl, rfl, rfl, rfl, rfl, rfl, rfl, rfl, rfl, rfl, rfl, trivial⟩ ⟨rfl, rfl, rfl, rfl, rfl, rfl, trivial⟩ (J48 false h)
    ·have h := hif.2 hc
     refine AWp.exit <| At.thru ?_
     exact Zp (st' := ⟨[], [(0, (.vec 2 (List.map Z2 v3))), (1000, (.loop lr [5, 7, 8, 9] [(.ptr 1001 0), (.ptr 1002 0), (.ptr 1003 0), (.ptr 1004 0)])), (1001, (.box [(.clo 72 [])])), (1002, (.box [(.vs 0)])), (1003, (.box [(.int .i64 v4)])), (1004, (.box [(.bool v5)]))]⟩) trivial ⟨rfl, rfl, rfl, rfl, rfl, rfl, trivial⟩ (J6 (v3, v4, v5) h)
def F70_i1_j14 (K : Nat) (v11 : Bool) (v12 : Int) (v13 : (List Z4)) : Option (Int × Bool × (List Z4)) :=
 some (v12, v11, v13)
def F70_i1_j17 (K : Nat) (v11 : Bool) (v15 : Int) (v16 : (List Z4)) : Option (Int × Bool × (List Z4)) :=
 F70_i1_j14 K v11 v15 v16
def F70_i1_j20 (K : Nat) (v11 : Bool) (v3 : Int) (v19 : (List Z4)) : Option (Int × Bool × (List Z4)) :=
 F70_i1_j14 K v11 v3 v19
def F70_i1_y22 (K : Nat) (x6 : Int) (x7 : A2_Bool) (v3 : Int) (v4 : Bool) (v5 : (List Z4)) : Option (Int × Bool × (List Z4)) :=
 if (0 : Int) ≤ 0 ∧ (0 : Int) < (2 : Nat) then
  if (0 : Int) ≤ 1 ∧ (1 : Int) < (2 : Nat) then
   (F72 K (([x7.e0, x7.e1] : List Bool).getD (0 : Int).toNat false) (([x7.e0, x7.e1] : List Bool).getD (1 : Int).toNat false)).bind fun v11 =>
    if v11 = true then
     if (!v4) = true then
      F70_i1_j17 K v11 x6 v5
     else
      if (!v11) = true then
       if v4 = true then
        if v5.length + [(⟨v3, x6⟩ : Z4)].length ≤ 1073741824 then
         F70_i1_j17 K v11 v3 (v5 ++ [(⟨v3, x6⟩ : Z4)])
        else none
       else
        F70_i1_j17 K v11 v3 v5
      else
       F70_i1_j17 K v11 v3 v5
    else
     if (!v11) = true then
      if v4 = true then
       if v5.length + [(⟨v3, x6⟩ : Z4)].length ≤ 1073741824 then
        F70_i1_j20 K v11 v3 (v5 ++ [(⟨v3, x6⟩ : Z4)])
       else none
      else
       F70_i1_j20 K v11 v3 v5
     else
      F70_i1_j14 K v11 v3 v5
  else none
 else none
def F70_i1 (K : Nat) (a0 : (List Z4)) (a1 : (List Z4)) : Option ((List Z4)) :=
 (F86 K a0 a1).bind fun v2 =>
  (F108_i1 K (F70_i1_y22 K) 0 false [] v2.1 v2.2).bind fun v23 =>
   some v23.2.2
theorem F70_i1_ok (K : Nat) (a0 : (List Z4)) (a1 : (List Z4)) (r : (List Z4)) (h : F70_i1 K a0 a1 = some r) : ACall P 70 ⟨[(.sl 2 (a0.map Z2) false), (.sl 2 (a1.map Z2) false), (.clo 72 [])], [], (.sl 2 (r.map Z2) false), [], []⟩ := by
 refine acall_of Try.func70 Try.results70 rfl Try.ntmps70 rfl rfl rfl ?_
 intro E Q hP hN hro hret
 obtain ⟨P', nt', w0, F0, p0, S0, β0, ro0⟩ := E
 simp only at hP hN
 subst hP hN
 dsimp only [argT]
 unfold F70_i1 at h
 refine Zf <| Z7 <| Z1 I (st_box (v := (.clo 72 [])) (cs := [(.clo 72 [])]) I I I I I) I <| Z1 I (Zg (v := (.sl 2 [] false)) I I) I <| Za <| Zd <| Zf <| Z7 ?_
 refine Z1 I (st_alloc (cs := [(.sl 2 [] true)]) I z45f I I I) I <| Za <| Zd <| Zf <| Z7 <| Z1 I (st_alloc (cs := [(.int .i64 0)]) I z3 I I I) I <| Z1 I (st_alloc (cs := [(.bool false)]) I z4 I I I) I <| Z1 I (Z1k (cs := [(.int .i64 0)]) (vs := [(.int .i64 0)]) (ds := [(.int .i64 0)]) (v := (.int .i64 0)) sz3 I I I I I I I I) I ?_
 refine Z1 I (Z1k (cs := [(.bool false)]) (vs := [(.bool false)]) (ds := [(.bool false)]) (v := (.bool false)) sz4 I I I I I I I I) I <| Za <| Zd <| Zf <| Zf <| Z7 <| Z1 I (Ze (v := (.sl 2 (a0.map Z2) false)) I I) I <| Z1 I (Ze (v := (.sl 2 (a1.map Z2) false)) I I) I ?_
 have ⟨v2, hv2, h⟩ := Z17 h
 refine Z1 I (Z1b (ar := [(.sl 2 (a0.map Z2) false), (.sl 2 (a1.map Z2) false)]) (caps := []) Try.call86 (F86_ok K a0 a1 v2 hv2) I I ⟨rfl, rfl, trivial⟩ I) I <| Za <| Zd <| AWp.block <| AWp.ghost (st' := ⟨[(5, (.ptr 5 0)), (7, (.ptr 7 0)), (8, (.ptr 8 0)), (9, (.ptr 9 0)), (15, (.clo 108 [(.ip [(.sl 2 (v2.1.map Z2) false)]), (.ip [(.sl 2 (v2.2.map Z2) false)])]))], [(5, (.box [(.clo 72 [])])), (7, (.box [(.vs 44)])), (8, (.box [(.int .i64 0)])), (9, (.box [(.bool false)])), (44, (.vec 2 (List.map Z2 ([] : List Z4))))]⟩) (fun a w h => (Z1h ⟨[(5, (.ptr 5 0)), (7, (.ptr 7 0)), (8, (.ptr 8 0)), (9, (.ptr 9 0)), (15, (.clo 108 [(.ip [(.sl 2 (v2.1.map Z2) false)]), (.ip [(.sl 2 (v2.2.map Z2) false)])]))], [(5, (.box [(.clo 72 [])])), (7, (.box [(.vs 44)])), (8, (.box [(.int .i64 0)])), (9, (.box [(.bool false)])), (44, (.vec 2 (List.map Z2 ([] : List Z4))))]⟩ (ghost_ownB (n := 7) (m := 44) (sz := 2) (j := 0) I I I a w (Z1h ⟨[(5, (.ptr 5 0)), (7, (.ptr 7 0)), (8, (.ptr 8 0)), (9, (.ptr 9 0)), (15, (.clo 108 [(.ip [(.sl 2 (v2.1.map Z2) false)]), (.ip [(.sl 2 (v2.2.map Z2) false)])]))], [(7, (.box [(.sl 2 [] true)])), (5, (.box [(.clo 72 [])])), (8, (.box [(.int .i64 0)])), (9, (.box [(.bool false)]))]⟩ h ⟨rfl, rfl, rfl, rfl, rfl, trivial⟩ ⟨rfl, rfl, rfl, rfl, trivial⟩)) ⟨rfl, rfl, rfl, rfl, rfl, trivial⟩ ⟨rfl, rfl, rfl, rfl, rfl, trivial⟩)) ?_
 have ⟨v23, hv23, h⟩ := Z17 h
 refine AWp.weaken (st' := ⟨[(5, (.ptr 5 0)), (7, (.ptr 7 0)), (8, (.ptr 8 0)), (9, (.ptr 9 0)), (15, (.clo 108 [(.ip [(.sl 2 (v2.1.map Z2) false)]), (.ip [(.sl 2 (v2.2.map Z2) false)])]))], [(5, (.box [(.clo 72 [])])), (7, (.box [(.vs 44)])), (8, (.box [(.int .i64 0)])), (9, (.box [(.bool false)])), (44, (.vec 2 (List.map Z2 [])))]⟩) ⟨rfl, rfl, rfl, rfl, rfl, trivial⟩ ⟨rfl, rfl, rfl, rfl, rfl, trivial⟩ ?_
 refine AWp.rangeFunc (n := 1) (f := 108) (caps := [(.ip [(.sl 2 (v2.1.map Z2) false)]), (.ip [(.sl 2 (v2.2.map Z2) false)])]) (ks := [5, 7, 8, 9]) (vs := [(.ptr 5 0), (.ptr 7 0), (.ptr 8 0), (.ptr 9 0)]) (ins := [(44, (.vec 2 (List.map Z2 []))), (5, (.box [(.clo 72 [])])), (7, (.box [(.vs 44)])), (8, (.box [(.int .i64 0)])), (9, (.box [(.bool false)]))]) (outs := [(44, (.vec 2 (List.map Z2 v23.2.2))), (5, (.box [(.clo 72 [])])), (7, (.box [(.vs 44)])), (8, (.box [(.int .i64 v23.1)])), (9, (.box [(.bool v23.2.1)]))]) (res := .tup []) (mv := [44]) (forg := [44]) (jump := none) hro Try.call108 I I I I ⟨rfl, rfl, rfl, rfl, trivial⟩ ⟨rfl, rfl, rfl, rfl, rfl, trivial⟩ I I I I (fun lr hst hpe hpr has hbd hsz => ?_) (fun _ => ?_) (fun c hc => by cases hc)
 ·have hend := endRec_self hst hpe
  rw [hend]
  have hps : lr.params.size = 2 ∧ True := ⟨by rw [hpr]; rfl, trivial⟩
  have hy : ∀ (x6 : Int) (x7 : A2_Bool) (v3 : Int) (v4 : Bool) (v5 : (List Z4)) (w : Int × Bool × (List Z4)), F70_i1_y22 K x6 x7 v3 v4 v5 = some w → YCall P lr 1000 ⟨[(.int .i64 x6), (e_A2_Bool x7)], [(1000, .loop lr [5, 7, 8, 9] [(.ptr 1001 0), (.ptr 1002 0), (.ptr 1003 0), (.ptr 1004 0)]), (0, (.vec 2 (List.map Z2 v5))), (1001, (.box [(.clo 72 [])])), (1002, (.box [(.vs 0)])), (1003, (.box [(.int .i64 v3)])), (1004, (.box [(.bool v4)]))], .bool true, [(1000, .loop lr [5, 7, 8, 9] [(.ptr 1001 0), (.ptr 1002 0), (.ptr 1003 0), (.ptr 1004 0)]), (0, (.vec 2 (List.map Z2 w.2.2))), (1001, (.box [(.clo 72 [])])), (1002, (.box [(.vs 0)])), (1003, (.box [(.int .i64 w.1)])), (1004, (.box [(.bool w.2.1)]))], [0]⟩ := by
   intro x6 x7 v3 v4 v5 r h
   unfold F70_i1_y22 at h
   refine ycall_of (ks := [5, 7, 8, 9]) (vs := [(.ptr 1001 0), (.ptr 1002 0), (.ptr 1003 0), (.ptr 1004 0)]) (ps := [16, 17]) rfl hst hsz hpr rfl (by decide) rfl rfl rfl ?_
   intro E Qa Qb hP hN hmid hfin
   obtain ⟨P', nt', w0, F0, p0, S0, β0, ro0⟩ := E
   simp only at hP hN
   subst hP hN
   refine AWp.code has ?_
   dsimp only [List.zip, List.zipWith, List.cons_append, List.nil_append]
   refine Zf <| Z7 <| Z1 I (Zg (v := (.int .i64 x6)) I I) I <| Za <| Zd <| Z7 <| Z1 I (st_alloc (cs := [(.bool false), (.bool false)]) I z128 I I I) I <| Z1 I (Z1k (cs := [(.bool false), (.bool false)]) (vs := (e_A2_Bool x7).cells) (ds := (e_A2_Bool x7).cells) (v := (e_A2_Bool x7)) sz128 I I I I I I I I) I ?_
   refine Za ?_
   refine hmid _ _ _ rfl ?_
   refine AWp.code hbd <| AWp.block <| Zf <| Z7 <| Z1 I (Z11 (cs := [(.clo 72 [])]) (v := (.clo 72 [])) I o112 I I I) I <| AOps.ghost (st' := ⟨[(5, (.ptr 1001 0)), (7, (.ptr 1002 0)), (8, (.ptr 1003 0)), (9, (.ptr 1004 0)), (10, (.int .i64 x6)), (11, (.ip (e_A2_Bool x7).cells)), (18, (.clo 72 []))], [(0, (.vec 2 (List.map Z2 v5))), (1000, (.loop { lr with state := .busy } [5, 7, 8, 9] [(.ptr 1001 0), (.ptr 1002 0), (.ptr 1003 0), (.ptr 1004 0)])), (1001, (.box [(.clo 72 [])])), (1002, (.box [(.vs 0)])), (1003, (.box [(.int .i64 v3)])), (1004, (.box [(.bool v4)]))]⟩) (fun a w h => (Z1h ⟨[(5, (.ptr 1001 0)), (7, (.ptr 1002 0)), (8, (.ptr 1003 0)), (9, (.ptr 1004 0)), (10, (.int .i64 x6)), (11, (.ip (e_A2_Bool x7).cells)), (18, (.clo 72 []))], [(0, (.vec 2 (List.map Z2 v5))), (1000, (.loop { lr with state := .busy } [5, 7, 8, 9] [(.ptr 1001 0), (.ptr 1002 0), (.ptr 1003 0), (.ptr 1004 0)])), (1001, (.box [(.clo 72 [])])), (1002, (.box [(.vs 0)])), (1003, (.box [(.int .i64 v3)])), (1004, (.box [(.bool v4)]))]⟩ (ghost_freezeB (m := 11) (cs := (e_A2_Bool x7).cells) I a w (Z1h ⟨[(5, (.ptr 1001 0)), (7, (.ptr 1002 0)), (8, (.ptr 1003 0)), (9, (.ptr 1004 0)), (10, (.int .i64 x6)), (11, (.ptr 11 0)), (18, (.clo 72 []))], [(11, (.box (e_A2_Bool x7).cells)), (0, (.vec 2 (List.map Z2 v5))), (1000, (.loop { lr with state := .busy } [5, 7, 8, 9] [(.ptr 1001 0), (.ptr 1002 0), (.ptr 1003 0), (.ptr 1004 0)])), (1001, (.box [(.clo 72 [])])), (1002, (.box [(.vs 0)])), (1003, (.box [(.int .i64 v3)])), (1004, (.box [(.bool v4)]))]⟩ h ⟨rfl, rfl, rfl, rfl, rfl, rfl, rfl, trivial⟩ ⟨rfl, rfl, rfl, rfl, rfl, rfl, rfl, trivial⟩)) ⟨rfl, rfl, rfl, rfl, rfl, rfl, rfl, trivial⟩ ⟨rfl, rfl, rfl, rfl, rfl, rfl, trivial⟩)) ?_
   have ⟨hg8, h⟩ := Zz h
   refine Z1 I (st_indexIL (k := .i64) (j := (0 : Int)) (l := [x7.e0, x7.e1]) (enc := e_bool) (z := false) (cs := (e_A2_Bool x7).cells) (ds := [(.bool (([x7.e0, x7.e1] : List Bool).getD (0 : Int).toNat false))]) I u128 sz4 I I I I els_bool hg8 I) I <| Z1 I (Z1m (cs := [(.bool (([x7.e0, x7.e1] : List Bool).getD (0 : Int).toNat false))]) (v := (.bool (([x7.e0, x7.e1] : List Bool).getD (0 : Int).toNat false))) I o4 I I) I ?_
   have ⟨hg9, h⟩ := Zz h
   refine Z1 I (st_indexIL (k := .i64) (j := (1 : Int)) (l := [x7.e0, x7.e1]) (enc := e_bool) (z := false) (cs := (e_A2_Bool x7).cells) (ds := [(.bool (([x7.e0, x7.e1] : List Bool).getD (1 : Int).toNat false))]) I u128 sz4 I I I I els_bool hg9 I) I <| Z1 I (Z1m (cs := [(.bool (([x7.e0, x7.e1] : List Bool).getD (1 : Int).toNat false))]) (v := (.bool (([x7.e0, x7.e1] : List Bool).getD (1 : Int).toNat false))) I o4 I I) I ?_
   have ⟨v11, hv11, h⟩ := Z17 h
   refine Z1 I (Z1b (ar := [(.bool (([x7.e0, x7.e1] : List Bool).getD (0 : Int).toNat false)), (.bool (([x7.e0, x7.e1] : List Bool).getD (1 : Int).toNat false))]) (caps := []) Try.call72 (F72_ok K (([x7.e0, x7.e1] : List Bool).getD (0 : Int).toNat false) (([x7.e0, x7.e1] : List Bool).getD (1 : Int).toNat false) v11 hv11) I I ⟨rfl, rfl, trivial⟩ I) I <| Z1 I (Zg (v := (.bool v11)) I I) I <| Za <| Zd <| Zf ?_
   refine AWp.blockJoin (V := Int × (List Z4)) (lp := fun v => F70_i1_j14 K v11 v.1 v.2 = some r) (sh := fun v => ⟨[(5, (.ptr 1001 0)), (7, (.ptr 1002 0)), (8, (.ptr 1003 0)), (9, (.ptr 1004 0)), (12, (.bool v11))], [(0, (.vec 2 (List.map Z2 v.2))), (1000, (.loop { lr with state := .busy } [5, 7, 8, 9] [(.ptr 1001 0), (.ptr 1002 0), (.ptr 1003 0), (.ptr 1004 0)])), (1001, (.box [(.clo 72 [])])), (1002, (.box [(.vs 0)])), (1003, (.box [(.int .i64 v.1)])), (1004, (.box [(.bool v4)]))]⟩) ?_ ?_
   ·intro v h
    obtain ⟨v12, v13⟩ := v
    try dsimp only at h ⊢
    unfold F70_i1_j14 at h
    refine Zd <| Z7 <| Z1 I (Ze (v := (.bool v11)) I I) I <| Z1 I (Z1k (cs := [(.bool v4)]) (vs := [(.bool v11)]) (ds := [(.bool v11)]) (v := (.bool v11)) sz4 I I I I I I I I) I <| Za <| At.end ?_
    have h := Option.some.inj h
    subst h
    refine hfin _ _ _ none .normal rfl rfl rfl ?_
    rw [hend]
    exact ⟨rfl, rfl, rfl, rfl, rfl, rfl, trivial⟩
   ·intro J14
    refine Zf <| Z7 <| Z1 I (Ze (v := (.bool v11)) I I) I <| Z1 I (Ze (v := (.bool v11)) I I) I ?_
    have hif := Z1g h
    refine Z15 (fun hc => ?_) (fun hc => ?_)
    ·have h := hif.1 hc
     refine Zh I I I I (Z11 (cs := [(.bool v4)]) (v := (.bool v4)) I o4 I I I) I <| Zh I I I I (st_not (b := v4) I I) I <| Z1 I (Z1d (v := (.bool (!v4))) I I I) I <| Z1 I (Zg (v := (.bool (!v4))) I I) I <| Za <| Zd ?_
     refine AWp.join (V := Int × (List Z4)) (lp := fun v => F70_i1_j17 K v11 v.1 v.2 = some r) (sh := fun v => ⟨[(5, (.ptr 1001 0)), (7, (.ptr 1002 0)), (8, (.ptr 1003 0)), (9, (.ptr 1004 0)), (12, (.bool v11))], [(0, (.vec 2 (List.map Z2 v.2))), (1000, (.loop { lr with state := .busy } [5, 7, 8, 9] [(.ptr 1001 0), (.ptr 1002 0), (.ptr 1003 0), (.ptr 1004 0)])), (1001, (.box [(.clo 72 [])])), (1002, (.box [(.vs 0)])), (1003, (.box [(.int .i64 v.1)])), (1004, (.box [(.bool v4)]))]⟩) ?_ ?_
     ·intro v h
      obtain ⟨v15, v16⟩ := v
      try dsimp only at h ⊢
      unfold F70_i1_j17 at h
      refine At.end ?_
      exact Zp (st' := ⟨[(5, (.ptr 1001 0)), (7, (.ptr 1002 0)), (8, (.ptr 1003 0)), (9, (.ptr 1004 0)), (12, (.bool v11))], [(0, (.vec 2 (List.map Z2 v16))), (1000, (.loop { lr with state := .busy } [5, 7, 8, 9] [(.ptr 1001 0), (.ptr 1002 0), (.ptr 1003 0), (.ptr 1004 0)])), (1001, (.box [(.clo 72 [])])), (1002, (.box [(.vs 0)])), (1003, (.box [(.int .i64 v15)])), (1004, (.box [(.bool v4)]))]⟩) ⟨rfl, rfl, rfl, rfl, rfl, trivial⟩ ⟨rfl, rfl, rfl, rfl, rfl, rfl, trivial⟩ (J14 (v15, v16) h)
     ·intro J17
      have hif := Z1g h
      refine Zs I (fun hc => ?_) (fun hc => ?_)
      ·have h := hif.1 hc
       refine Z7 <| Z1 I (Ze (v := (.int .i64 x6)) I I) I <| Z1 I (Z1k (cs := [(.int .i64 v3)]) (vs := [(.int .i64 x6)]) (ds := [(.int .i64 x6)]) (v := (.int .i64 x6)) sz3 I I I I I I I I) I <| Za ?_
       exact Zp (st' := ⟨[(5, (.ptr 1001 0)), (7, (.ptr 1002 0)), (8, (.ptr 1003 0)), (9, (.ptr 1004 0)), (12, (.bool v11))], [(0, (.vec 2 (List.map Z2 v5))), (1000, (.loop { lr with state := .busy } [5, 7, 8, 9] [(.ptr 1001 0), (.ptr 1002 0), (.ptr 1003 0), (.ptr 1004 0)])), (1001, (.box [(.clo 72 [])])), (1002, (.box [(.vs 0)])), (1003, (.box [(.int .i64 x6)])), (1004, (.box [(.bool v4)]))]⟩) ⟨rfl, rfl, rfl, rfl, rfl, trivial⟩ ⟨rfl, rfl, rfl, rfl, rfl, rfl, trivial⟩ (J17 (x6, v5) h)
      ·have h := hif.2 hc
       refine Zf <| Z7 <| Z1 I (Ze (v := (.bool v11)) I I) I <| Z1 I (st_not (b := v11) I I) I <| Z1 I (Ze (v := (.bool (!v11))) I I) I ?_
       have hif := Z1g h
       refine Z15 (fun hc => ?_) (fun hc => ?_)
       ·have h := hif.1 hc
        refine Zh I I I I (Z11 (cs := [(.bool v4)]) (v := (.bool v4)) I o4 I I I) I <| Z1 I (Z1d (v := (.bool v4)) I I I) I <| Z1 I (Zg (v := (.bool v4)) I I) I <| Za <| Zd ?_
        have hif := Z1g h
        refine Zs I (fun hc => ?_) (fun hc => ?_)
        ·have h := hif.1 hc
         refine Z7 <| Z1 I (Z11 (cs := [(.vs 0)]) (v := (.vs 0)) I o45 I I I) I <| Z1 I (Z11 (cs := [(.int .i64 v3)]) (v := (.int .i64 v3)) I o3 I I I) I <| Z1 I (Ze (v := (.int .i64 x6)) I I) I <| Z1 I (stx_build (vs := [(0, (.int .i64 v3)), (1, (.int .i64 x6))]) (cs := [(.int .i64 v3), (.int .i64 x6)]) I st40 ⟨rfl, rfl, rfl, rfl, trivial⟩ I) I <| Z1 I (Z1n (vs := [(.ag [(.int .i64 v3), (.int .i64 x6)])]) (enc := Z2) (l := [(⟨v3, x6⟩ : Z4)]) I el45 I I ⟨rfl, trivial⟩ I els_Tapi_Interval I I I I) I ?_
         have ⟨hg18, h⟩ := Zz h
         refine Z1 I (st_append (m := 0) (enc := Z2) (l := v5) (l' := [(⟨v3, x6⟩ : Z4)]) (src := (.vs 41)) (rd := [(41, (.vec 2 (List.map Z2 [(⟨v3, x6⟩ : Z4)])))]) I I el45 I u45 I I I I (oneRead I) els_Tapi_Interval hg18) I <| Z1 I (Z1k (cs := [.undef]) (vs := [(.vs 0)]) (ds := [(.vs 0)]) (v := (.vs 0)) sz45 I I I I I I I I) I <| Za ?_
         exact Zp (st' := ⟨[(5, (.ptr 1001 0)), (7, (.ptr 1002 0)), (8, (.ptr 1003 0)), (9, (.ptr 1004 0)), (12, (.bool v11))], [(0, (.vec 2 (List.map Z2 (v5 ++ [(⟨v3, x6⟩ : Z4)])))), (1000, (.loop { lr with state := .busy } [5, 7, 8, 9] [(.ptr 1001 0), (.ptr 1002 0), (.ptr 1003 0), (.ptr 1004 0)])), (1001, (.box [(.clo 72 [])])), (1002, (.box [(.vs 0)])), (1003, (.box [(.int .i64 v3)])), (1004, (.box [(.bool v4)]))]⟩) ⟨rfl, rfl, rfl, rfl, rfl, trivial⟩ ⟨rfl, rfl, rfl, rfl, rfl, rfl, trivial⟩ (J17 (v3, (v5 ++ [(⟨v3, x6⟩ : Z4)])) h)
        ·have h := hif.2 hc
         refine Zx ?_
         exact Zp (st' := ⟨[(5, (.ptr 1001 0)), (7, (.ptr 1002 0)), (8, (.ptr 1003 0)), (9, (.ptr 1004 0)), (12, (.bool v11))], [(0, (.vec 2 (List.map Z2 v5))), (1000, (.loop { lr with state := .busy } [5, 7, 8, 9] [(.ptr 1001 0), (.ptr 1002 0), (.ptr 1003 0), (.ptr 1004 0)])), (1001, (.box [(.clo 72 [])])), (1002, (.box [(.vs 0)])), (1003, (.box [(.int .i64 v3)])), (1004, (.box [(.bool v4)]))]⟩) ⟨rfl, rfl, rfl, rfl, rfl, trivial⟩ ⟨rfl, rfl, rfl, rfl, rfl, rfl, trivial⟩ (J17 (v3, v5) h)
       ·have h := hif.2 hc
        refine Z5 I I I I I I I <| Z1 I (Z10 (v := (.bool false)) I I I) I <| Z1 I (Zg (v := (.bool false)) I I) I <| Za <| Zd ?_
        refine Zs (b := false) I (fun hc => ?_) (fun hc => ?_)
        ·cases hc
        refine Zx ?_
        exact Zp (st' := ⟨[(5, (.ptr 1001 0)), (7, (.ptr 1002 0)), (8, (.ptr 1003 0)), (9, (.ptr 1004 0)), (12, (.bool v11))], [(0, (.vec 2 (List.map Z2 v5))), (1000, (.loop { lr with state := .busy } [5, 7, 8, 9] [(.ptr 1001 0), (.ptr 1002 0), (.ptr 1003 0), (.ptr 1004 0)])), (1001, (.box [(.clo 72 [])])), (1002, (.box [(.vs 0)])), (1003, (.box [(.int .i64 v3)])), (1004, (.box [(.bool v4)]))]⟩) ⟨rfl, rfl, rfl, rfl, rfl, trivial⟩ ⟨rfl, rfl, rfl, rfl, rfl, rfl, trivial⟩ (J17 (v3, v5) h)
    ·have h := hif.2 hc
     refine Z5 I I I I I I I <| Z5 I I I I I I I <| Z1 I (Z10 (v := (.bool false)) I I I) I <| Z1 I (Zg (v := (.bool false)) I I) I <| Za <| Zd ?_
     refine Zs (b := false) I (fun hc => ?_) (fun hc => ?_)
     ·cases hc
     refine Zf <| Z7 <| Z1 I (Ze (v := (.bool v11)) I I) I <| Z1 I (st_not (b := v11) I I) I <| Z1 I (Ze (v := (.bool (!v11))) I I) I ?_
     have hif := Z1g h
     refine Z15 (fun hc => ?_) (fun hc => ?_)
     ·have h := hif.1 hc
      refine Zh I I I I (Z11 (cs := [(.bool v4)]) (v := (.bool v4)) I o4 I I I) I <| Z1 I (Z1d (v := (.bool v4)) I I I) I <| Z1 I (Zg (v := (.bool v4)) I I) I <| Za <| Zd ?_
      refine AWp.join (V := (List Z4)) (lp := fun v => F70_i1_j20 K v11 v3 v = some r) (sh := fun v => ⟨[(5, (.ptr 1001 0)), (7, (.ptr 1002 0)), (8, (.ptr 1003 0)), (9, (.ptr 1004 0)), (12, (.bool v11))], [(0, (.vec 2 (List.map Z2 v))), (1000, (.loop { lr with state := .busy } [5, 7, 8, 9] [(.ptr 1001 0), (.ptr 1002 0), (.ptr 1003 0), (.ptr 1004 0)])), (1001, (.box [(.clo 72 [])])), (1002, (.box [(.vs 0)])), (1003, (.box [(.int .i64 v3)])), (1004, (.box [(.bool v4)]))]⟩) ?_ ?_
      ·intro v h
       revert h
       revert v
       intro v19 h
       try dsimp only at h ⊢
       unfold F70_i1_j20 at h
       refine At.end ?_
       exact Zp (st' := ⟨[(5, (.ptr 1001 0)), (7, (.ptr 1002 0)), (8, (.ptr 1003 0)), (9, (.ptr 1004 0)), (12, (.bool v11))], [(0, (.vec 2 (List.map Z2 v19))), (1000, (.loop { lr with state := .busy } [5, 7, 8, 9] [(.ptr 1001 0), (.ptr 1002 0), (.ptr 1003 0), (.ptr 1004 0)])), (1001, (.box [(.clo 72 [])])), (1002, (.box [(.vs 0)])), (1003, (.box [(.int .i64 v3)])), (1004, (.box [(.bool v4)]))]⟩) ⟨rfl, rfl, rfl, rfl, rfl, trivial⟩ ⟨rfl, rfl, rfl, rfl, rfl, rfl, trivial⟩ (J14 (v3, v19) h)
      ·intro J20
       have hif := Z1g h
       refine Zs I (fun hc => ?_) (fun hc => ?_)
       ·have h := hif.1 hc
        refine Z7 <| Z1 I (Z11 (cs := [(.vs 0)]) (v := (.vs 0)) I o45 I I I) I <| Z1 I (Z11 (cs := [(.int .i64 v3)]) (v := (.int .i64 v3)) I o3 I I I) I <| Z1 I (Ze (v := (.int .i64 x6)) I I) I <| Z1 I (stx_build (vs := [(0, (.int .i64 v3)), (1, (.int .i64 x6))]) (cs := [(.int .i64 v3), (.int .i64 x6)]) I st40 ⟨rfl, rfl, rfl, rfl, trivial⟩ I) I <| Z1 I (Z1n (vs := [(.ag [(.int .i64 v3), (.int .i64 x6)])]) (enc := Z2) (l := [(⟨v3, x6⟩ : Z4)]) I el45 I I ⟨rfl, trivial⟩ I els_Tapi_Interval I I I I) I ?_
        have ⟨hg21, h⟩ := Zz h
        refine Z1 I (st_append (m := 0) (enc := Z2) (l := v5) (l' := [(⟨v3, x6⟩ : Z4)]) (src := (.vs 41)) (rd := [(41, (.vec 2 (List.map Z2 [(⟨v3, x6⟩ : Z4)])))]) I I el45 I u45 I I I I (oneRead I) els_Tapi_Interval hg21) I <| Z1 I (Z1k (cs := [.undef]) (vs := [(.vs 0)]) (ds := [(.vs 0)]) (v := (.vs 0)) sz45 I I I I I I I I) I <| Za ?_
        exact Zp (st' := ⟨[(5, (.ptr 1001 0)), (7, (.ptr 1002 0)), (8, (.ptr 1003 0)), (9, (.ptr 1004 0)), (12, (.bool v11))], [(0, (.vec 2 (List.map Z2 (v5 ++ [(⟨v3, x6⟩ : Z4)])))), (1000, (.loop { lr with state := .busy } [5, 7, 8, 9] [(.ptr 1001 0), (.ptr 1002 0), (.ptr 1003 0), (.ptr 1004 0)])), (1001, (.box [(.clo 72 [])])), (1002, (.box [(.vs 0)])), (1003, (.box [(.int .i64 v3)])), (1004, (.box [(.bool v4)]))]⟩) ⟨rfl, rfl, rfl, rfl, rfl, trivial⟩ ⟨rfl, rfl, rfl, rfl, rfl, rfl, trivial⟩ (J20 (v5 ++ [(⟨v3, x6⟩ : Z4)]) h)
       ·have h := hif.2 hc
        refine Zx ?_
        exact Zp (st' := ⟨[(5, (.ptr 1001 0)), (7, (.ptr 1002 0)), (8, (.ptr 1003 0)), (9, (.ptr 1004 0)), (12, (.bool v11))], [(0, (.vec 2 (List.map Z2 v5))), (1000, (.loop { lr with state := .busy } [5, 7, 8, 9] [(.ptr 1001 0), (.ptr 1002 0), (.ptr 1003 0), (.ptr 1004 0)])), (1001, (.box [(.clo 72 [])])), (1002, (.box [(.vs 0)])), (1003, (.box [(.int .i64 v3)])), (1004, (.box [(.bool v4)]))]⟩) ⟨rfl, rfl, rfl, rfl, rfl, trivial⟩ ⟨rfl, rfl, rfl, rfl, rfl, rfl, trivial⟩ (J20 v5 h)
     ·have h := hif.2 hc
      refine Z5 I I I I I I I <| Z1 I (Z10 (v := (.bool false)) I I I) I <| Z1 I (Zg (v := (.bool false)) I I) I <| Za <| Zd ?_
      refine Zs (b := false) I (fun hc => ?_) (fun hc => ?_)
      ·cases hc
      refine Zx <| At.end ?_
      exact Zp (st' := ⟨[(5, (.ptr 1001 0)), (7, (.ptr 1002 0)), (8, (.ptr 1003 0)), (9, (.ptr 1004 0)), (12, (.bool v11))], [(0, (.vec 2 (List.map Z2 v5))), (1000, (.loop { lr with state := .busy } [5, 7, 8, 9] [(.ptr 1001 0), (.ptr 1002 0), (.ptr 1003 0), (.ptr 1004 0)])), (1001, (.box [(.clo 72 [])])), (1002, (.box [(.vs 0)])), (1003, (.box [(.int .i64 v3)])), (1004, (.box [(.bool v4)]))]⟩) ⟨rfl, rfl, rfl, rfl, rfl, trivial⟩ ⟨rfl, rfl, rfl, rfl, rfl, rfl, trivial⟩ (J14 (v3, v5) h)
  exact ((((((F108_i1_ok K (F70_i1_y22 K) 0 false [] v2.1 v2.2 v23 lr hv23 hps.1 hy).sw 1000 1).sw 0 44).sw 1001 5).sw 1002 7).sw 1003 8).sw 1004 9
 ·refine Zp (st' := ⟨[(5, (.ptr 5 0)), (7, (.ptr 7 0)), (8, (.ptr 8 0)), (9, (.ptr 9 0)), (15, (.clo 108 [(.ip [(.sl 2 (v2.1.map Z2) false)]), (.ip [(.sl 2 (v2.2.map Z2) false)])]))], [(5, (.box [(.clo 72 [])])), (7, (.box [(.vs 44)])), (8, (.box [(.int .i64 v23.1)])), (9, (.box [(.bool v23.2.1)])), (44, (.vec 2 (List.map Z2 v23.2.2)))]⟩) ⟨rfl, rfl, rfl, rfl, rfl, trivial⟩ ⟨rfl, rfl, rfl, rfl, rfl, trivial⟩ <| At.end <| Zd <| Zf <| Z7 <| Z1 I (Z11 (cs := [(.vs 44)]) (v := (.vs 44)) I o45 I I I) I <| Z1 I (Zg (v := (.vs 44)) I I) I <| Za ?_
  refine Zd <| Z18 <| At.ghost (st' := ⟨[(6, (.sl 2 (v23.2.2.map Z2) false))], []⟩) (fun a w h => (Z1h ⟨[(6, (.sl 2 (v23.2.2.map Z2) false))], []⟩ (ghost_freeze (m := 44) (sz := 2) (es := (List.map Z2 v23.2.2)) a w (Z1h ⟨[(6, (.vs 44))], [(44, (.vec 2 (List.map Z2 v23.2.2)))]⟩ h ⟨rfl, trivial⟩ ⟨rfl, trivial⟩)) ⟨rfl, trivial⟩ trivial)) ?_
  have h := Option.some.inj h
  subst h
  refine (hret _ ?_).1
  exact ⟨[(.sl 2 (v23.2.2.map Z2) false)], ⟨rfl, trivial⟩, rfl, trivial⟩
def F48 (K : Nat) (a0 : (List Z4)) (a1 : (List Z4)) : Option ((List Z4)) :=
 (F70_i1 K a0 a1).bind fun v2 =>
  some v2
theorem F48_ok (K : Nat) (a0 : (List Z4)) (a1 : (List Z4)) (r : (List Z4)) (h : F48 K a0 a1 = some r) : ACall P 48 ⟨[(.sl 2 (a0.map Z2) false), (.sl 2 (a1.map Z2) false)], [], (.sl 2 (r.map Z2) false), [], []⟩ := by
 refine acall_of Try.func48 Try.results48 rfl Try.ntmps48 rfl rfl rfl ?_
 intro E Q hP hN hro hret
 obtain ⟨P', nt', w0, F0, p0, S0, β0, ro0⟩ := E
 simp only at hP hN
 subst hP hN
 dsimp only [argT]
 unfold F48 at h
 refine Zf <| Z7 <| Z1 I (Zg (v := (.sl 2 [] false)) I I) I <| Za <| Zd <| Zf <| Z7 <| Z1 I (Ze (v := (.sl 2 (a0.map Z2) false)) I I) I ?_
 refine Z1 I (Ze (v := (.sl 2 (a1.map Z2) false)) I I) I ?_
 have ⟨v2, hv2, h⟩ := Z17 h
 refine Z1 I (Z1b (ar := [(.sl 2 (a0.map Z2) false), (.sl 2 (a1.map Z2) false), (.clo 72 [])]) (caps := []) Try.call70 (F70_i1_ok K a0 a1 v2 hv2) I I ⟨rfl, rfl, rfl, trivial⟩ I) I <| Z1 I (Zg (v := (.sl 2 (v2.map Z2) false)) I I) I <| Za <| Zd <| Z18 ?_
 have h := Option.some.inj h
 subst h
 refine (hret _ ?_).1
 exact ⟨[(.sl 2 (v2.map Z2) false)], ⟨rfl, trivial⟩, rfl, trivial⟩
def F21_c5 (K : Nat) (a1 : Zt) (v4 : (List Z4)) : Option ((List Z4)) :=
 (F48 K [a1.When] v4).bind fun v8 =>
  some v8
def F21_j14 (K : Nat) (b9 : (List Z4) → Int → Option ((List Z4))) (v2 : Int) (v13 : (List Z4)) : Option ((List Z4)) :=
 b9 v13 (IntKind.i64.wrap (v2 + 1))
def F21_j12 (K : Nat) (v1 : (List Z4)) (a0 : Zm) (v2 : Int) (b9 : (List Z4) → Int → Option ((List Z4))) (v11 : Bool) : Option ((List Z4)) :=
 if v11 = true then
  (F47 K v1 [(a0.Silences.getD v2.toNat Zc).When]).bind fun v16 =>
   F21_j14 K b9 v2 v16
 else
  F21_j14 K b9 v2 v1
def F21_l3 (K : Nat) (a0 : Zm) (a1 : Zt) (c6 : (List Z4) → Option ((List Z4))) : Nat → (List Z4) → Int → Option ((List Z4))
 | 0, _, _ => none
 | k3 + 1, v1, v2 =>
  if (decide (v2 < (a0.Silences.length : Int))) = true then
   if (0 : Int) ≤ v2 ∧ v2 < a0.Silences.length then
    if ((a0.Silences.getD v2.toNat Zc).Rule == []) = true then
     if ((a0.Silences.getD v2.toNat Zc).Service == []) = true then
      F21_j12 K v1 a0 v2 (F21_l3 K a0 a1 c6 k3) true
     else
      F21_j12 K v1 a0 v2 (F21_l3 K a0 a1 c6 k3) ((a0.Silences.getD v2.toNat Zc).Service == a1.Service)
    else
     if ((a0.Silences.getD v2.toNat Zc).Rule == a1.Rule) = true then
      if ((a0.Silences.getD v2.toNat Zc).Service == []) = true then
       F21_j12 K v1 a0 v2 (F21_l3 K a0 a1 c6 k3) true
      else
       F21_j12 K v1 a0 v2 (F21_l3 K a0 a1 c6 k3) ((a0.Silences.getD v2.toNat Zc).Service == a1.Service)
     else
      F21_j12 K v1 a0 v2 (F21_l3 K a0 a1 c6 k3) false
   else none
  else
   c6 v1
def F21 (K : Nat) (a0 : Zm) (a1 : Zt) : Option ((List Z4)) :=
 F21_l3 K a0 a1 (F21_c5 K a1) K [] 0
theorem F21_ok (K : Nat) (a0 : Zm) (a1 : Zt) (r : (List Z4)) (h : F21 K a0 a1 = some r) : ACall P 21 ⟨[(Z6 a0), (Z8 a1)], [], (.sl 2 (r.map Z2) false), [], []⟩ := by
 refine acall_of Try.func21 Try.results21 rfl Try.ntmps21 rfl rfl rfl ?_
 intro E Q hP hN hro hret
 obtain ⟨P', nt', w0, F0, p0, S0, β0, ro0⟩ := E
 simp only at hP hN
 subst hP hN
 dsimp only [argT]
 unfold F21 at h
 refine Zf <| Z7 <| Z1 I (st_box (v := (Z6 a0)) (cs := (Z6 a0).cells) I I I I I) I <| Z1 I (st_box (v := (Z8 a1)) (cs := (Z8 a1).cells) I I I I I) I <| Z1 I (Zg (v := (.sl 2 [] false)) I I) I <| Za <| Zd <| Zf ?_
 refine Z7 <| Z1 I (Zg (v := (.sl 2 [] false)) I I) I <| Za <| Zd <| Zf <| Zf <| Z7 <| Z1 I (Zu (m := 2) (o := 0) I f34_2 I I) I ?_
 refine Z1 I (Z11 (cs := (Z6 a0).cells) (v := (.sl 5 (a0.Silences.map Zj) false)) I o31 I I I) I <| Z1 I (stx_len (l := a0.Silences) (enc := Zj) I s31 I) I <| Z1 I (Ze (v := (.int .i64 0)) I I) I <| Za <| Zd <| AWp.weaken (st' := ⟨[(3, (.ptr 3 0)), (5, (.sl 2 ([].map Z2) false)), (9, (.sl 5 (a0.Silences.map Zj) false)), (10, (.int .i64 (a0.Silences.length : Int))), (11, (.int .i64 0))], [(3, (.box (Z8 a1).cells))]⟩) ⟨rfl, rfl, rfl, rfl, rfl, trivial⟩ ⟨rfl, trivial⟩ ?_
 refine Z1l (V := (List Z4) × Int) (X := (List Z4)) (lp := fun k v => F21_l3 K a0 a1 (F21_c5 K a1) k v.1 v.2 = some r) (sh := fun v => ⟨[(3, (.ptr 3 0)), (5, (.sl 2 (v.1.map Z2) false)), (9, (.sl 5 (a0.Silences.map Zj) false)), (10, (.int .i64 (a0.Silences.length : Int))), (11, (.int .i64 v.2))], [(3, (.box (Z8 a1).cells))]⟩) (x := fun v => F21_c5 K a1 v = some r) (shx := fun v => ⟨[(3, (.ptr 3 0)), (5, (.sl 2 (v.map Z2) false))], [(3, (.box (Z8 a1).cells))]⟩) (k := K) (v := ([], 0)) h ?_ ?_
 ·intro v h
  revert h
  revert v
  intro v4 h
  try dsimp only at h ⊢
  unfold F21_c5 at h
  refine Zd <| Zf <| Z7 <| Z1 I (Zu (m := 3) (o := 0) I f42_2 I I) I <| Z1 I (Z1p (cs := (Z8 a1).cells) (vs := (Z2 a1.When).cells) I a40 I I I I) I <| Z1 I (Z1n (vs := [(Z2 a1.When)]) (enc := Z2) (l := [a1.When]) I el45 I I ⟨rfl, trivial⟩ I els_Tapi_Interval I I I I) I <| Z1 I (Ze (v := (.sl 2 (v4.map Z2) false)) I I) I <| AOps.ghost (st' := ⟨[(45, (.sl 2 ([a1.When].map Z2) false)), (46, (.sl 2 (v4.map Z2) false))], []⟩) (fun a w h => (Z1h ⟨[(45, (.sl 2 ([a1.When].map Z2) false)), (46, (.sl 2 (v4.map Z2) false))], []⟩ (ghost_freeze (m := 45) (sz := 2) (es := (List.map Z2 [a1.When])) a w (Z1h ⟨[(45, (.vs 45)), (46, (.sl 2 (v4.map Z2) false))], [(45, (.vec 2 (List.map Z2 [a1.When])))]⟩ h ⟨rfl, rfl, trivial⟩ ⟨rfl, trivial⟩)) ⟨rfl, rfl, trivial⟩ trivial)) ?_
  have ⟨v8, hv8, h⟩ := Z17 h
  refine Z1 I (Z1b (ar := [(.sl 2 ([a1.When].map Z2) false), (.sl 2 (v4.map Z2) false)]) (caps := []) Try.call48 (F48_ok K [a1.When] v4 v8 hv8) I I ⟨rfl, rfl, trivial⟩ I) I <| Z1 I (Zg (v := (.sl 2 (v8.map Z2) false)) I I) I <| Za <| Zd <| Z18 ?_
  have h := Option.some.inj h
  subst h
  refine (hret _ ?_).1
  exact ⟨[(.sl 2 (v8.map Z2) false)], ⟨rfl, trivial⟩, rfl, trivial⟩
 ·intro N k3 v h IH3 J3
  obtain ⟨v1, v2⟩ := v
  try dsimp only at h IH3 J3 ⊢
  cases k3 with
  | zero => cases h
  | succ k3 =>
   rw [F21_l3] at h
   refine Zf <| Z7 <| Z1 I (Z1f (k := .i64) (a := v2) (b := (a0.Silences.length : Int)) (c := (decide (v2 < (a0.Silences.length : Int)))) I I I I) I <| Za <| Zd <| Zf ?_
   have hif := Z1g h
   refine Zs I (fun hc => ?_) (fun hc => ?_)
   ·have h := hif.1 hc
    refine Zx <| Zd <| Zf <| AWp.block <| Zf <| Z7 ?_
    have ⟨hg10, h⟩ := Zz h
    refine Z1 I (st_index (k := .i64) (l := a0.Silences) (enc := Zj) (z := Zc) (n := v2) (cs := (Zj (a0.Silences.getD v2.toNat Zc)).cells) (full := false) I s31 I I hg10 I) I <| Z1 I (st_loadIA (cs := (Zj (a0.Silences.getD v2.toNat Zc)).cells) (vs := (Zj (a0.Silences.getD v2.toNat Zc)).cells) I a67 I I I) I <| Z1 I (st_alloc (cs := [(.int .i64 0), (.str []), (.str []), (.int .i64 0), (.int .i64 0)]) I z67 I I I) I <| Z1 I (Z1k (cs := [(.int .i64 0), (.str []), (.str []), (.int .i64 0), (.int .i64 0)]) (vs := (Zj (a0.Silences.getD v2.toNat Zc)).cells) (ds := (Zj (a0.Silences.getD v2.toNat Zc)).cells) (v := (Zj (a0.Silences.getD v2.toNat Zc))) sz67 I I I I I I I I) I <| Za <| Zd <| Zf ?_
    refine AWp.join (V := Bool) (lp := fun v => F21_j12 K v1 a0 v2 (F21_l3 K a0 a1 (F21_c5 K a1) k3) v = some r) (sh := fun v => ⟨[(3, (.ptr 3 0)), (5, (.sl 2 (v1.map Z2) false)), (7, (.ptr 7 0)), (9, (.sl 5 (a0.Silences.map Zj) false)), (10, (.int .i64 (a0.Silences.length : Int))), (11, (.int .i64 v2)), (36, (.bool v))], [(3, (.box (Z8 a1).cells)), (7, (.box (Zj (a0.Silences.getD v2.toNat Zc)).cells))]⟩) ?_ ?_
    ·intro v h
     revert h
     revert v
     intro v11 h
     try dsimp only at h ⊢
     unfold F21_j12 at h
     refine Zd ?_
     refine AWp.join (V := (List Z4)) (lp := fun v => F21_j14 K (F21_l3 K a0 a1 (F21_c5 K a1) k3) v2 v = some r) (sh := fun v => ⟨[(3, (.ptr 3 0)), (5, (.sl 2 (v.map Z2) false)), (9, (.sl 5 (a0.Silences.map Zj) false)), (10, (.int .i64 (a0.Silences.length : Int))), (11, (.int .i64 v2))], [(3, (.box (Z8 a1).cells))]⟩) ?_ ?_
     ·intro v h
      revert h
      revert v
      intro v13 h
      try dsimp only at h ⊢
      unfold F21_j14 at h
      refine At.end <| Zd <| Z7 <| Z1 I (Z1o (k := .i64) (a := v2) (b := 1) (c := (IntKind.i64.wrap (v2 + 1))) I I I I) I <| Z1 I (Ze (v := (.int .i64 (IntKind.i64.wrap (v2 + 1)))) I I) I <| Za ?_
      exact Zp (st' := ⟨[(3, (.ptr 3 0)), (5, (.sl 2 (v13.map Z2) false)), (9, (.sl 5 (a0.Silences.map Zj) false)), (10, (.int .i64 (a0.Silences.length : Int))), (11, (.int .i64 (IntKind.i64.wrap (v2 + 1))))], [(3, (.box (Z8 a1).cells))]⟩) ⟨rfl, rfl, rfl, rfl, rfl, trivial⟩ ⟨rfl, trivial⟩ (IH3 _ (v13, (IntKind.i64.wrap (v2 + 1))) (Nat.lt_succ_self _) h)
     ·intro J14
      have hif := Z1g h
      refine Zs I (fun hc => ?_) (fun hc => ?_)
      ·have h := hif.1 hc
       refine Z7 <| Z1 I (Ze (v := (.sl 2 (v1.map Z2) false)) I I) I <| Z1 I (Zu (m := 7) (o := 0) I f67_3 I I) I <| Z1 I (Z1p (cs := (Zj (a0.Silences.getD v2.toNat Zc)).cells) (vs := (Z2 (a0.Silences.getD v2.toNat Zc).When).cells) I a40 I I I I) I <| Z1 I (Z1n (vs := [(Z2 (a0.Silences.getD v2.toNat Zc).When)]) (enc := Z2) (l := [(a0.Silences.getD v2.toNat Zc).When]) I el45 I I ⟨rfl, trivial⟩ I els_Tapi_Interval I I I I) I <| AOps.ghost (st' := ⟨[(3, (.ptr 3 0)), (5, (.sl 2 (v1.map Z2) false)), (9, (.sl 5 (a0.Silences.map Zj) false)), (10, (.int .i64 (a0.Silences.length : Int))), (11, (.int .i64 v2)), (37, (.sl 2 (v1.map Z2) false)), (40, (.sl 2 ([(a0.Silences.getD v2.toNat Zc).When].map Z2) false))], [(3, (.box (Z8 a1).cells))]⟩) (fun a w h => (Z1h ⟨[(3, (.ptr 3 0)), (5, (.sl 2 (v1.map Z2) false)), (9, (.sl 5 (a0.Silences.map Zj) false)), (10, (.int .i64 (a0.Silences.length : Int))), (11, (.int .i64 v2)), (37, (.sl 2 (v1.map Z2) false)), (40, (.sl 2 ([(a0.Silences.getD v2.toNat Zc).When].map Z2) false))], [(3, (.box (Z8 a1).cells))]⟩ (ghost_freeze (m := 40) (sz := 2) (es := (List.map Z2 [(a0.Silences.getD v2.toNat Zc).When])) a w (Z1h ⟨[(3, (.ptr 3 0)), (5, (.sl 2 (v1.map Z2) false)), (9, (.sl 5 (a0.Silences.map Zj) false)), (10, (.int .i64 (a0.Silences.length : Int))), (11, (.int .i64 v2)), (37, (.sl 2 (v1.map Z2) false)), (40, (.vs 40))], [(40, (.vec 2 (List.map Z2 [(a0.Silences.getD v2.toNat Zc).When]))), (3, (.box (Z8 a1).cells))]⟩ h ⟨rfl, rfl, rfl, rfl, rfl, rfl, rfl, trivial⟩ ⟨rfl, rfl, trivial⟩)) ⟨rfl, rfl, rfl, rfl, rfl, rfl, rfl, trivial⟩ ⟨rfl, trivial⟩)) ?_
       have ⟨v16, hv16, h⟩ := Z17 h
       refine Z1 I (Z1b (ar := [(.sl 2 (v1.map Z2) false), (.sl 2 ([(a0.Silences.getD v2.toNat Zc).When].map Z2) false)]) (caps := []) Try.call47 (F47_ok K v1 [(a0.Silences.getD v2.toNat Zc).When] v16 hv16) I I ⟨rfl, rfl, trivial⟩ I) I <| Z1 I (Zg (v := (.sl 2 (v16.map Z2) false)) I I) I <| Za ?_
       exact Zp (st' := ⟨[(3, (.ptr 3 0)), (5, (.sl 2 (v16.map Z2) false)), (9, (.sl 5 (a0.Silences.map Zj) false)), (10, (.int .i64 (a0.Silences.length : Int))), (11, (.int .i64 v2))], [(3, (.box (Z8 a1).cells))]⟩) ⟨rfl, rfl, rfl, rfl, rfl, trivial⟩ ⟨rfl, trivial⟩ (J14 v16 h)
      ·have h := hif.2 hc
       refine Zx ?_
       exact Zp (st' := ⟨[(3, (.ptr 3 0)), (5, (.sl 2 (v1.map Z2) false)), (9, (.sl 5 (a0.Silences.map Zj) false)), (10, (.int .i64 (a0.Silences.length : Int))), (11, (.int .i64 v2))], [(3, (.box (Z8 a1).cells))]⟩) ⟨rfl, rfl, rfl, rfl, rfl, trivial⟩ ⟨rfl, trivial⟩ (J14 v1 h)
    ·intro J12
     refine Z7 <| Z1 I (Zu (m := 7) (o := 0) I f67_1 I I) I <| Z1 I (Z11 (cs := (Zj (a0.Silences.getD v2.toNat Zc)).cells) (v := (.str (a0.Silences.getD v2.toNat Zc).Rule)) I o9 I I I) I <| Z1 I (st_cmpS (a := (a0.Silences.getD v2.toNat Zc).Rule) (b := []) (c := ((a0.Silences.getD v2.toNat Zc).Rule == [])) I I I I) I <| Z1 I (Ze (v := (.bool ((a0.Silences.getD v2.toNat Zc).Rule == []))) I I) I ?_
     have hif := Z1g h
     refine Z15 (fun hc => ?_) (fun hc => ?_)
     ·have h := hif.1 hc
      refine Z5 I I I I I I I <| Z5 I I I I I I I <| Z5 I I I I I I I <| Z5 I I I I I I I <| Z5 I I I I I I I <| Z1 I (Z1d (v := (.bool true)) I I I) I <| Z1 I (Ze (v := (.bool true)) I I) I <| Zh I I I I (Zu (m := 7) (o := 0) I f67_2 I I) I ?_
      refine Zh I I I I (Z11 (cs := (Zj (a0.Silences.getD v2.toNat Zc)).cells) (v := (.str (a0.Silences.getD v2.toNat Zc).Service)) I o9 I I I) I <| Zh I I I I (st_cmpS (a := (a0.Silences.getD v2.toNat Zc).Service) (b := []) (c := ((a0.Silences.getD v2.toNat Zc).Service == [])) I I I I) I <| Zh I I I I (Ze (v := (.bool ((a0.Silences.getD v2.toNat Zc).Service == []))) I I) I ?_
      have hif := Z1g h
      refine Z15 (fun hc => ?_) (fun hc => ?_)
      ·have h := hif.1 hc
       refine Z5 I I I I I I I <| Z5 I I I I I I I <| Z5 I I I I I I I <| Z5 I I I I I I I <| Z5 I I I I I I I <| Zh I I I I (Z1d (v := (.bool true)) I I I) I <| Z1 I (Z1d (v := (.bool true)) I I I) I <| Za ?_
       exact Zp (st' := ⟨[(3, (.ptr 3 0)), (5, (.sl 2 (v1.map Z2) false)), (7, (.ptr 7 0)), (9, (.sl 5 (a0.Silences.map Zj) false)), (10, (.int .i64 (a0.Silences.length : Int))), (11, (.int .i64 v2)), (36, (.bool true))], [(3, (.box (Z8 a1).cells)), (7, (.box (Zj (a0.Silences.getD v2.toNat Zc)).cells))]⟩) ⟨rfl, rfl, rfl, rfl, rfl, rfl, rfl, trivial⟩ ⟨rfl, rfl, trivial⟩ (J12 true h)
      ·have h := hif.2 hc
       refine Zh I I I I (Zu (m := 7) (o := 0) I f67_2 I I) I <| Zh I I I I (Z11 (cs := (Zj (a0.Silences.getD v2.toNat Zc)).cells) (v := (.str (a0.Silences.getD v2.toNat Zc).Service)) I o9 I I I) I <| Zh I I I I (Zu (m := 3) (o := 0) I f42_1 I I) I <| Zh I I I I (Z11 (cs := (Z8 a1).cells) (v := (.str a1.Service)) I o9 I I I) I <| Zh I I I I (st_cmpS (a := (a0.Silences.getD v2.toNat Zc).Service) (b := a1.Service) (c := ((a0.Silences.getD v2.toNat Zc).Service == a1.Service)) I I I I) I <| Zh I I I I (Z10 (v := (.bool ((a0.Silences.getD v2.toNat Zc).Service == a1.Service))) I I I) I <| Z1 I (Z1d (v := (.bool ((a0.Silences.getD v2.toNat Zc).Service == a1.Service))) I I I) I <| Za ?_
       exact Zp (st' := ⟨[(3, (.ptr 3 0)), (5, (.sl 2 (v1.map Z2) false)), (7, (.ptr 7 0)), (9, (.sl 5 (a0.Silences.map Zj) false)), (10, (.int .i64 (a0.Silences.length : Int))), (11, (.int .i64 v2)), (36, (.bool ((a0.Silences.getD v2.toNat Zc).Service == a1.Service)))], [(3, (.box (Z8 a1).cells)), (7, (.box (Zj (a0.Silences.getD v2.toNat Zc)).cells))]⟩) ⟨rfl, rfl, rfl, rfl, rfl, rfl, rfl, trivial⟩ ⟨rfl, rfl, trivial⟩ (J12 ((a0.Silences.getD v2.toNat Zc).Service == a1.Service) h)
     ·have h := hif.2 hc
      refine Zh I I I I (Zu (m := 7) (o := 0) I f67_1 I I) I <| Zh I I I I (Z11 (cs := (Zj (a0.Silences.getD v2.toNat Zc)).cells) (v := (.str (a0.Silences.getD v2.toNat Zc).Rule)) I o9 I I I) I <| Zh I I I I (Zu (m := 3) (o := 0) I f42_0 I I) I <| Zh I I I I (Z11 (cs := (Z8 a1).cells) (v := (.str a1.Rule)) I o9 I I I) I <| Zh I I I I (st_cmpS (a := (a0.Silences.getD v2.toNat Zc).Rule) (b := a1.Rule) (c := ((a0.Silences.getD v2.toNat Zc).Rule == a1.Rule)) I I I I) I <| Z1 I (Z10 (v := (.bool ((a0.Silences.getD v2.toNat Zc).Rule == a1.Rule))) I I I) I <| Z1 I (Ze (v := (.bool ((a0.Silences.getD v2.toNat Zc).Rule == a1.Rule))) I I) I ?_
      have hif := Z1g h
      refine Z15 (fun hc => ?_) (fun hc => ?_)
      ·have h := hif.1 hc
       refine Zh I I I I (Zu (m := 7) (o := 0) I f67_2 I I) I <| Zh I I I I (Z11 (cs := (Zj (a0.Silences.getD v2.toNat Zc)).cells) (v := (.str (a0.Silences.getD v2.toNat Zc).Service)) I o9 I I I) I <| Zh I I I I (st_cmpS (a := (a0.Silences.getD v2.toNat Zc).Service) (b := []) (c := ((a0.Silences.getD v2.toNat Zc).Service == [])) I I I I) I <| Zh I I I I (Ze (v := (.bool ((a0.Silences.getD v2.toNat Zc).Service == []))) I I) I ?_
       have hif := Z1g h
       refine Z15 (fun hc => ?_) (fun hc => ?_)
       ·have h := hif.1 hc
        refine Z5 I I I I I I I <| Z5 I I I I I I I <| Z5 I I I I I I I <| Z5 I I I I I I I <| Z5 I I I I I I I <| Zh I I I I (Z1d (v := (.bool true)) I I I) I <| Z1 I (Z1d (v := (.bool true)) I I I) I <| Za ?_
        exact Zp (st' := ⟨[(3, (.ptr 3 0)), (5, (.sl 2 (v1.map Z2) false)), (7, (.ptr 7 0)), (9, (.sl 5 (a0.Silences.map Zj) false)), (10, (.int .i64 (a0.Silences.length : Int))), (11, (.int .i64 v2)), (36, (.bool true))], [(3, (.box (Z8 a1).cells)), (7, (.box (Zj (a0.Silences.getD v2.toNat Zc)).cells))]⟩) ⟨rfl, rfl, rfl, rfl, rfl, rfl, rfl, trivial⟩ ⟨rfl, rfl, trivial⟩ (J12 true h)
       ·have h := hif.2 hc
        refine Zh I I I I (Zu (m := 7) (o := 0) I f67_2 I I) I <| Zh I I I I (Z11 (cs := (Zj (a0.Silences.getD v2.toNat Zc)).cells) (v := (.str (a0.Silences.getD v2.toNat Zc).Service)) I o9 I I I) I <| Zh I I I I (Zu (m := 3) (o := 0) I f42_1 I I) I <| Zh I I I I (Z11 (cs := (Z8 a1).cells) (v := (.str a1.Service)) I o9 I I I) I <| Zh I I I I (st_cmpS (a := (a0.Silences.getD v2.toNat Zc).Service) (b := a1.Service) (c := ((a0.Silences.getD v2.toNat Zc).Service == a1.Service)) I I I I) I <| Zh I I I I (Z10 (v := (.bool ((a0.Silences.getD v2.toNat Zc).Service == a1.Service))) I I I) I <| Z1 I (Z1d (v := (.bool ((a0.Silences.getD v2.toNat Zc).Service == a1.Service))) I I I) I <| Za ?_
        exact Zp (st' := ⟨[(3, (.ptr 3 0)), (5, (.sl 2 (v1.map Z2) false)), (7, (.ptr 7 0)), (9, (.sl 5 (a0.Silences.map Zj) false)), (10, (.int .i64 (a0.Silences.length : Int))), (11, (.int .i64 v2)), (36, (.bool ((a0.Silences.getD v2.toNat Zc).Service == a1.Service)))], [(3, (.box (Z8 a1).cells)), (7, (.box (Zj (a0.Silences.getD v2.toNat Zc)).cells))]⟩) ⟨rfl, rfl, rfl, rfl, rfl, rfl, rfl, trivial⟩ ⟨rfl, rfl, trivial⟩ (J12 ((a0.Silences.getD v2.toNat Zc).Service == a1.Service) h)
      ·have h := hif.2 hc
       refine Z5 I I I I I I I <| Z5 I I I I I I I <| Z5 I I I I I I I <| Z5 I I I I I I I <| Z5 (u := .tup []) I I I I I I I <| Z5 (u := .tup []) I I I I I I I <| Z5 (u := .tup []) I I I I I I I <| Z5 (u := .tup []) I I I I I I I ?_
       refine Z5 (u := .tup []) I I I I I I I <| Z5 I I I I I I I <| Z1 I (Z10 (v := (.bool false)) I I I) I <| Za ?_
       exact Zp (st' := ⟨[(3, (.ptr 3 0)), (5, (.sl 2 (v1.map Z2) false)), (7, (.ptr 7 0)), (9, (.sl 5 (a0.Silences.map Zj) false)), (10, (.int .i64 (a0.Silences.length : Int))), (11, (.int .i64 v2)), (36, (.bool false))], [(3, (.box (Z8 a1).cells)), (7, (.box (Zj (a0.Silences.getD v2.toNat Zc)).cells))]⟩) ⟨rfl, rfl, rfl, rfl, rfl, rfl, rfl, trivial⟩ ⟨rfl, rfl, trivial⟩ (J12 false h)
   ·have h := hif.2 hc
    refine AWp.exit <| At.thru ?_
    exact Zp (st' := ⟨[(3, (.ptr 3 0)), (5, (.sl 2 (v1.map Z2) false))], [(3, (.box (Z8 a1).cells))]⟩) ⟨rfl, rfl, trivial⟩ ⟨rfl, trivial⟩ (J3 v1 h)
def F23_c5 (K : Nat) (v4 : (List Z4)) : Option ((List Z4)) :=
 some v4
def F23_j12 (K : Nat) (b7 : (List Z4) → Int → Option ((List Z4))) (v2 : Int) (v11 : (List Z4)) : Option ((List Z4)) :=
 b7 v11 (IntKind.i64.wrap (v2 + 1))
def F23_l3 (K : Nat) (a0 : Zm) (a1 : Str) (c6 : (List Z4) → Option ((List Z4))) : Nat → (List Z4) → Int → Option ((List Z4))
 | 0, _, _ => none
 | k3 + 1, v1, v2 =>
  if (decide (v2 < (a0.Firings.length : Int))) = true then
   if (0 : Int) ≤ v2 ∧ v2 < a0.Firings.length then
    (F18 K a0.Policy (a0.Firings.getD v2.toNat Zi)).bind fun v10 =>
     if (v10 == a1) = true then
      (F21 K a0 (a0.Firings.getD v2.toNat Zi)).bind fun v14 =>
       (F47 K v1 v14).bind fun v16 =>
        F23_j12 K (F23_l3 K a0 a1 c6 k3) v2 v16
     else
      F23_j12 K (F23_l3 K a0 a1 c6 k3) v2 v1
   else none
  else
   c6 v1
def F23 (K : Nat) (a0 : Zm) (a1 : Str) : Option ((List Z4)) :=
 F23_l3 K a0 a1 (F23_c5 K) K [] 0
theorem F23_ok (K : Nat) (a0 : Zm) (a1 : Str) (r : (List Z4)) (h : F23 K a0 a1 = some r) : ACall P 23 ⟨[(Z6 a0), (.str a1)], [], (.sl 2 (r.map Z2) false), [], []⟩ := by
 refine acall_of Try.func23 Try.results23 rfl Try.ntmps23 rfl rfl rfl ?_
 intro E Q hP hN hro hret
 obtain ⟨P', nt', w0, F0, p0, S0, β0, ro0⟩ := E
 simp only at hP hN
 subst hP hN
 dsimp only [argT]
 unfold F23 at h
 refine Zf <| Z7 <| Z1 I (st_box (v := (Z6 a0)) (cs := (Z6 a0).cells) I I I I I) I <| Z1 I (Zg (v := (.sl 2 [] false)) I I) I <| Za <| Zd <| Zf <| Z7 ?_
 refine Z1 I (Zg (v := (.sl 2 [] false)) I I) I <| Za <| Zd <| Zf <| Zf <| Z7 <| Z1 I (Zu (m := 2) (o := 0) I f34_1 I I) I <| Z1 I (Z11 (cs := (Z6 a0).cells) (v := (.sl 4 (a0.Firings.map Z8) false)) I o30 I I I) I ?_
 refine Z1 I (stx_len (l := a0.Firings) (enc := Z8) I s30 I) I <| Z1 I (Ze (v := (.int .i64 0)) I I) I <| Za <| Zd <| AWp.weaken (st' := ⟨[(1, (.str a1)), (2, (.ptr 2 0)), (5, (.sl 2 ([].map Z2) false)), (9, (.sl 4 (a0.Firings.map Z8) false)), (10, (.int .i64 (a0.Firings.length : Int))), (11, (.int .i64 0))], [(2, (.box (Z6 a0).cells))]⟩) ⟨rfl, rfl, rfl, rfl, rfl, rfl, trivial⟩ ⟨rfl, trivial⟩ ?_
 refine Z1l (V := (List Z4) × Int) (X := (List Z4)) (lp := fun k v => F23_l3 K a0 a1 (F23_c5 K) k v.1 v.2 = some r) (sh := fun v => ⟨[(1, (.str a1)), (2, (.ptr 2 0)), (5, (.sl 2 (v.1.map Z2) false)), (9, (.sl 4 (a0.Firings.map Z8) false)), (10, (.int .i64 (a0.Firings.length : Int))), (11, (.int .i64 v.2))], [(2, (.box (Z6 a0).cells))]⟩) (x := fun v => F23_c5 K v = some r) (shx := fun v => ⟨[(5, (.sl 2 (v.map Z2) false))], []⟩) (k := K) (v := ([], 0)) h ?_ ?_
 ·intro v h
  revert h
  revert v
  intro v4 h
  try dsimp only at h ⊢
  unfold F23_c5 at h
  refine Zd <| Zf <| Z7 <| Z1 I (Ze (v := (.sl 2 (v4.map Z2) false)) I I) I <| Z1 I (Zg (v := (.sl 2 (v4.map Z2) false)) I I) I <| Za <| Zd <| Z18 ?_
  have h := Option.some.inj h
  subst h
  refine (hret _ ?_).1
  exact ⟨[(.sl 2 (v4.map Z2) false)], ⟨rfl, trivial⟩, rfl, trivial⟩
 ·intro N k3 v h IH3 J3
  obtain ⟨v1, v2⟩ := v
  try dsimp only at h IH3 J3 ⊢
  cases k3 with
  | zero => cases h
  | succ k3 =>
   rw [F23_l3] at h
   refine Zf <| Z7 <| Z1 I (Z1f (k := .i64) (a := v2) (b := (a0.Firings.length : Int)) (c := (decide (v2 < (a0.Firings.length : Int)))) I I I I) I <| Za <| Zd <| Zf ?_
   have hif := Z1g h
   refine Zs I (fun hc => ?_) (fun hc => ?_)
   ·have h := hif.1 hc
    refine Zx <| Zd <| Zf <| AWp.block <| Zf <| Z7 ?_
    have ⟨hg8, h⟩ := Zz h
    refine Z1 I (st_index (k := .i64) (l := a0.Firings) (enc := Z8) (z := Zi) (n := v2) (cs := (Z8 (a0.Firings.getD v2.toNat Zi)).cells) (full := false) I s30 I I hg8 I) I <| Z1 I (st_loadIA (cs := (Z8 (a0.Firings.getD v2.toNat Zi)).cells) (vs := (Z8 (a0.Firings.getD v2.toNat Zi)).cells) I a42 I I I) I <| Z1 I (st_alloc (cs := [(.str []), (.str []), (.int .i64 0), (.int .i64 0)]) I z42 I I I) I <| Z1 I (Z1k (cs := [(.str []), (.str []), (.int .i64 0), (.int .i64 0)]) (vs := (Z8 (a0.Firings.getD v2.toNat Zi)).cells) (ds := (Z8 (a0.Firings.getD v2.toNat Zi)).cells) (v := (Z8 (a0.Firings.getD v2.toNat Zi))) sz42 I I I I I I I I) I <| Za <| Zd <| Zf <| Z7 ?_
    refine Z1 I (Zu (m := 2) (o := 0) I f34_0 I I) I <| Z1 I (Z1p (cs := (Z6 a0).cells) (vs := (Z13 a0.Policy).cells) I a29 I I I I) I <| Z1 I (Z1p (cs := (Z8 (a0.Firings.getD v2.toNat Zi)).cells) (vs := (Z8 (a0.Firings.getD v2.toNat Zi)).cells) I a42 I I I I) I ?_
    have ⟨v10, hv10, h⟩ := Z17 h
    refine Z1 I (Z1b (ar := [(Z13 a0.Policy), (Z8 (a0.Firings.getD v2.toNat Zi))]) (caps := []) Try.call18 (F18_ok K a0.Policy (a0.Firings.getD v2.toNat Zi) v10 hv10) I I ⟨rfl, rfl, trivial⟩ I) I <| Z1 I (Ze (v := (.str a1)) I I) I <| Z1 I (st_cmpS (a := v10) (b := a1) (c := (v10 == a1)) I I I I) I <| Za <| Zd ?_
    refine AWp.join (V := (List Z4)) (lp := fun v => F23_j12 K (F23_l3 K a0 a1 (F23_c5 K) k3) v2 v = some r) (sh := fun v => ⟨[(1, (.str a1)), (2, (.ptr 2 0)), (5, (.sl 2 (v.map Z2) false)), (9, (.sl 4 (a0.Firings.map Z8) false)), (10, (.int .i64 (a0.Firings.length : Int))), (11, (.int .i64 v2))], [(2, (.box (Z6 a0).cells))]⟩) ?_ ?_
    ·intro v h
     revert h
     revert v
     intro v11 h
     try dsimp only at h ⊢
     unfold F23_j12 at h
     refine At.end <| Zd <| Z7 <| Z1 I (Z1o (k := .i64) (a := v2) (b := 1) (c := (IntKind.i64.wrap (v2 + 1))) I I I I) I <| Z1 I (Ze (v := (.int .i64 (IntKind.i64.wrap (v2 + 1)))) I I) I <| Za ?_
     exact Zp (st' := ⟨[(1, (.str a1)), (2, (.ptr 2 0)), (5, (.sl 2 (v11.map Z2) false)), (9, (.sl 4 (a0.Firings.map Z8) false)), (10, (.int .i64 (a0.Firings.length : Int))), (11, (.int .i64 (IntKind.i64.wrap (v2 + 1))))], [(2, (.box (Z6 a0).cells))]⟩) ⟨rfl, rfl, rfl, rfl, rfl, rfl, trivial⟩ ⟨rfl, trivial⟩ (IH3 _ (v11, (IntKind.i64.wrap (v2 + 1))) (Nat.lt_succ_self _) h)
    ·intro J12
     have hif := Z1g h
     refine Zs I (fun hc => ?_) (fun hc => ?_)
     ·have h := hif.1 hc
      refine Z7 <| Z1 I (Ze (v := (.sl 2 (v1.map Z2) false)) I I) I <| Z1 I (Z1p (cs := (Z6 a0).cells) (vs := (Z6 a0).cells) I a34 I I I I) I <| Z1 I (Z1p (cs := (Z8 (a0.Firings.getD v2.toNat Zi)).cells) (vs := (Z8 (a0.Firings.getD v2.toNat Zi)).cells) I a42 I I I I) I ?_
      have ⟨v14, hv14, h⟩ := Z17 h
      refine Z1 I (Z1b (ar := [(Z6 a0), (Z8 (a0.Firings.getD v2.toNat Zi))]) (caps := []) Try.call21 (F21_ok K a0 (a0.Firings.getD v2.toNat Zi) v14 hv14) I I ⟨rfl, rfl, trivial⟩ I) I ?_
      have ⟨v16, hv16, h⟩ := Z17 h
      refine Z1 I (Z1b (ar := [(.sl 2 (v1.map Z2) false), (.sl 2 (v14.map Z2) false)]) (caps := []) Try.call47 (F47_ok K v1 v14 v16 hv16) I I ⟨rfl, rfl, trivial⟩ I) I <| Z1 I (Zg (v := (.sl 2 (v16.map Z2) false)) I I) I <| Za ?_
      exact Zp (st' := ⟨[(1, (.str a1)), (2, (.ptr 2 0)), (5, (.sl 2 (v16.map Z2) false)), (9, (.sl 4 (a0.Firings.map Z8) false)), (10, (.int .i64 (a0.Firings.length : Int))), (11, (.int .i64 v2))], [(2, (.box (Z6 a0).cells))]⟩) ⟨rfl, rfl, rfl, rfl, rfl, rfl, trivial⟩ ⟨rfl, trivial⟩ (J12 v16 h)
     ·have h := hif.2 hc
      refine Zx ?_
      exact Zp (st' := ⟨[(1, (.str a1)), (2, (.ptr 2 0)), (5, (.sl 2 (v1.map Z2) false)), (9, (.sl 4 (a0.Firings.map Z8) false)), (10, (.int .i64 (a0.Firings.length : Int))), (11, (.int .i64 v2))], [(2, (.box (Z6 a0).cells))]⟩) ⟨rfl, rfl, rfl, rfl, rfl, rfl, trivial⟩ ⟨rfl, trivial⟩ (J12 v1 h)
   ·have h := hif.2 hc
    refine AWp.exit <| At.thru ?_
    exact Zp (st' := ⟨[(5, (.sl 2 (v1.map Z2) false))], []⟩) ⟨rfl, trivial⟩ trivial (J3 v1 h)
def F52 (K : Nat) (a0 : Zm) (a1 : Str) (a2 : Z4) (a3 : Int) : Option (Zm × Str × Z4 × Int) :=
 some (a0, a1, a2, a3)
theorem F52_ok (K : Nat) (a0 : Zm) (a1 : Str) (a2 : Z4) (a3 : Int) (r : Zm × Str × Z4 × Int) (h : F52 K a0 a1 a2 a3 = some r) : ACall P 52 ⟨[(Z6 a0), (.str a1), (Z2 a2), (.int .i64 a3)], [], (.clo 75 [(.ip (Z6 r.1).cells), (.ip [(.str r.2.1)]), (.ip (Z2 r.2.2.1).cells), (.ip [(.int .i64 r.2.2.2)])]), [], []⟩ := by
 refine acall_of Try.func52 Try.results52 rfl Try.ntmps52 rfl rfl rfl ?_
 intro E Q hP hN hro hret
 obtain ⟨P', nt', w0, F0, p0, S0, β0, ro0⟩ := E
 simp only at hP hN
 subst hP hN
 dsimp only [argT]
 unfold F52 at h
 refine Zf <| Z7 <| Z1 I (st_box (v := (Z6 a0)) (cs := (Z6 a0).cells) I I I I I) I <| Z1 I (st_box (v := (.str a1)) (cs := [(.str a1)]) I I I I I) I <| Z1 I (st_box (v := (Z2 a2)) (cs := (Z2 a2).cells) I I I I I) I <| Z1 I (st_box (v := (.int .i64 a3)) (cs := [(.int .i64 a3)]) I I I I I) I <| Z1 I (Zg (v := .nilf) I I) I <| Za ?_
 refine Zd <| Zf <| Z7 <| Z1 I (stx_makeFunc (vs := [(.ptr 4 0), (.ptr 5 0), (.ptr 6 0), (.ptr 7 0)]) I ⟨rfl, rfl, rfl, rfl, trivial⟩) I <| Z1 I (Zg (v := (.clo 75 [(.ptr 4 0), (.ptr 5 0), (.ptr 6 0), (.ptr 7 0)])) I I) I <| Za <| Zd <| Z18 ?_
 refine At.ghost (st' := ⟨[(8, (.clo 75 [(.ip (Z6 a0).cells), (.ip [(.str a1)]), (.ip (Z2 a2).cells), (.ip [(.int .i64 a3)])]))], []⟩) (fun a w h => (Z1h ⟨[(8, (.clo 75 [(.ip (Z6 a0).cells), (.ip [(.str a1)]), (.ip (Z2 a2).cells), (.ip [(.int .i64 a3)])]))], []⟩ (ghost_freezeB (m := 7) (cs := [(.int .i64 a3)]) I a w (Z1h ⟨[(8, (.clo 75 [(.ip (Z6 a0).cells), (.ip [(.str a1)]), (.ip (Z2 a2).cells), (.ptr 7 0)]))], [(7, (.box [(.int .i64 a3)]))]⟩ (Z1h ⟨[(8, (.clo 75 [(.ip (Z6 a0).cells), (.ip [(.str a1)]), (.ip (Z2 a2).cells), (.ptr 7 0)]))], [(7, (.box [(.int .i64 a3)]))]⟩ (ghost_freezeB (m := 6) (cs := (Z2 a2).cells) I a w (Z1h ⟨[(8, (.clo 75 [(.ip (Z6 a0).cells), (.ip [(.str a1)]), (.ptr 6 0), (.ptr 7 0)]))], [(6, (.box (Z2 a2).cells)), (7, (.box [(.int .i64 a3)]))]⟩ (Z1h ⟨[(8, (.clo 75 [(.ip (Z6 a0).cells), (.ip [(.str a1)]), (.ptr 6 0), (.ptr 7 0)]))], [(6, (.box (Z2 a2).cells)), (7, (.box [(.int .i64 a3)]))]⟩ (ghost_freezeB (m := 5) (cs := [(.str a1)]) I a w (Z1h ⟨[(8, (.clo 75 [(.ip (Z6 a0).cells), (.ptr 5 0), (.ptr 6 0), (.ptr 7 0)]))], [(5, (.box [(.str a1)])), (6, (.box (Z2 a2).cells)), (7, (.box [(.int .i64 a3)]))]⟩ (Z1h ⟨[(8, (.clo 75 [(.ip (Z6 a0).cells), (.ptr 5 0), (.ptr 6 0), (.ptr 7 0)]))], [(5, (.box [(.str a1)])), (6, (.box (Z2 a2).cells)), (7, (.box [(.int .i64 a3)]))]⟩ (ghost_freezeB (m := 4) (cs := (Z6 a0).cells) I a w (Z1h ⟨[(8, (.clo 75 [(.ptr 4 0), (.ptr 5 0), (.ptr 6 0), (.ptr 7 0)]))], [(4, (.box (Z6 a0).cells)), (5, (.box [(.str a1)])), (6, (.box (Z2 a2).cells)), (7, (.box [(.int .i64 a3)]))]⟩ h ⟨rfl, trivial⟩ ⟨rfl, rfl, rfl, rfl, trivial⟩)) ⟨rfl, trivial⟩ ⟨rfl, rfl, rfl, trivial⟩) ⟨rfl, trivial⟩ ⟨rfl, rfl, rfl, trivial⟩)) ⟨rfl, trivial⟩ ⟨rfl, rfl, trivial⟩) ⟨rfl, trivial⟩ ⟨rfl, rfl, trivial⟩)) ⟨rfl, trivial⟩ ⟨rfl, trivial⟩) ⟨rfl, trivial⟩ ⟨rfl, trivial⟩)) ⟨rfl, trivial⟩ trivial)) ?_
 have h := Option.some.inj h
 subst h
 refine (hret _ ?_).1
 exact ⟨[(.clo 75 [(.ip (Z6 a0).cells), (.ip [(.str a1)]), (.ip (Z2 a2).cells), (.ip [(.int .i64 a3)])])], ⟨rfl, trivial⟩, rfl, trivial⟩
def F58_c5 (K : Nat) (v4 : Int) : Option (Int) :=
 some v4
def F58_j9 (K : Nat) (b7 : Int → Int → Option (Int)) (v2 : Int) (v8 : Int) : Option (Int) :=
 b7 v8 (IntKind.i64.wrap (v2 + 1))
def F58_j12 (K : Nat) (b7 : Int → Int → Option (Int)) (v2 : Int) (v11 : Int) : Option (Int) :=
 F58_j9 K b7 v2 v11
def F58_l3 (K : Nat) (a0 : Zm) (a1 : Str) (a2 : Z4) (c6 : Int → Option (Int)) : Nat → Int → Int → Option (Int)
 | 0, _, _ => none
 | k3 + 1, v1, v2 =>
  if (decide (v2 < (a0.Acks.length : Int))) = true then
   if (0 : Int) ≤ v2 ∧ v2 < a0.Acks.length then
    if ((a0.Acks.getD v2.toNat Z14).Group == a1) = true then
     if (decide ((a0.Acks.getD v2.toNat Z14).At ≥ a2.From)) = true then
      F58_j12 K (F58_l3 K a0 a1 a2 c6 k3) v2 (if (a0.Acks.getD v2.toNat Z14).At < v1 then (a0.Acks.getD v2.toNat Z14).At else v1)
     else
      F58_j12 K (F58_l3 K a0 a1 a2 c6 k3) v2 v1
    else
     F58_j9 K (F58_l3 K a0 a1 a2 c6 k3) v2 v1
   else none
  else
   c6 v1
def F58 (K : Nat) (a0 : Zm) (a1 : Str) (a2 : Z4) : Option (Int) :=
 F58_l3 K a0 a1 a2 (F58_c5 K) K a2.To 0
theorem F58_ok (K : Nat) (a0 : Zm) (a1 : Str) (a2 : Z4) (r : Int) (h : F58 K a0 a1 a2 = some r) : ACall P 58 ⟨[(Z6 a0), (.str a1), (Z2 a2)], [], (.int .i64 r), [], []⟩ := by
 refine acall_of Try.func58 Try.results58 rfl Try.ntmps58 rfl rfl rfl ?_
 intro E Q hP hN hro hret
 obtain ⟨P', nt', w0, F0, p0, S0, β0, ro0⟩ := E
 simp only at hP hN
 subst hP hN
 dsimp only [argT]
 unfold F58 at h
 refine Zf <| Z7 <| Z1 I (st_box (v := (Z6 a0)) (cs := (Z6 a0).cells) I I I I I) I <| Z1 I (st_box (v := (Z2 a2)) (cs := (Z2 a2).cells) I I I I I) I <| Z1 I (Zg (v := (.int .i64 0)) I I) I <| Za <| Zd <| Zf ?_
 refine Z7 <| Z1 I (Zu (m := 5) (o := 0) I f40_1 I I) I <| Z1 I (Z11 (cs := (Z2 a2).cells) (v := (.int .i64 a2.To)) I o3 I I I) I <| Z1 I (Zg (v := (.int .i64 a2.To)) I I) I <| Za <| Zd <| Zf <| Zf ?_
 refine Z7 <| Z1 I (Zu (m := 3) (o := 0) I f34_3 I I) I <| Z1 I (Z11 (cs := (Z6 a0).cells) (v := (.sl 3 (a0.Acks.map Zw) false)) I o32 I I I) I <| Z1 I (stx_len (l := a0.Acks) (enc := Zw) I s32 I) I <| Z1 I (Ze (v := (.int .i64 0)) I I) I <| Za <| Zd <| AWp.weaken (st' := ⟨[(1, (.str a1)), (5, (.ptr 5 0)), (7, (.int .i64 a2.To)), (13, (.sl 3 (a0.Acks.map Zw) false)), (14, (.int .i64 (a0.Acks.length : Int))), (15, (.int .i64 0))], [(5, (.box (Z2 a2).cells))]⟩) ⟨rfl, rfl, rfl, rfl, rfl, rfl, trivial⟩ ⟨rfl, trivial⟩ ?_
 refine Z1l (V := Int × Int) (X := Int) (lp := fun k v => F58_l3 K a0 a1 a2 (F58_c5 K) k v.1 v.2 = some r) (sh := fun v => ⟨[(1, (.str a1)), (5, (.ptr 5 0)), (7, (.int .i64 v.1)), (13, (.sl 3 (a0.Acks.map Zw) false)), (14, (.int .i64 (a0.Acks.length : Int))), (15, (.int .i64 v.2))], [(5, (.box (Z2 a2).cells))]⟩) (x := fun v => F58_c5 K v = some r) (shx := fun v => ⟨[(7, (.int .i64 v))], []⟩) (k := K) (v := (a2.To, 0)) h ?_ ?_
 ·intro v h
  revert h
  revert v
  intro v4 h
  try dsimp only at h ⊢
  unfold F58_c5 at h
  refine Zd <| Zf <| Z7 <| Z1 I (Ze (v := (.int .i64 v4)) I I) I <| Z1 I (Zg (v := (.int .i64 v4)) I I) I <| Za <| Zd <| Z18 ?_
  have h := Option.some.inj h
  subst h
  refine (hret _ ?_).1
  exact ⟨[(.int .i64 v4)], ⟨rfl, trivial⟩, rfl, trivial⟩
 ·intro N k3 v h IH3 J3
  obtain ⟨v1, v2⟩ := v
  try dsimp only at h IH3 J3 ⊢
  cases k3 with
  | zero => cases h
  | succ k3 =>
   rw [F58_l3] at h
   refine Zf <| Z7 <| Z1 I (Z1f (k := .i64) (a := v2) (b := (a0.Acks.length : Int)) (c := (decide (v2 < (a0.Acks.length : Int)))) I I I I) I <| Za <| Zd <| Zf ?_
   have hif := Z1g h
   refine Zs I (fun hc => ?_) (fun hc => ?_)
   ·have h := hif.1 hc
    refine Zx <| Zd <| Zf ?_
    refine AWp.blockJoin (V := Int) (lp := fun v => F58_j9 K (F58_l3 K a0 a1 a2 (F58_c5 K) k3) v2 v = some r) (sh := fun v => ⟨[(1, (.str a1)), (5, (.ptr 5 0)), (7, (.int .i64 v)), (13, (.sl 3 (a0.Acks.map Zw) false)), (14, (.int .i64 (a0.Acks.length : Int))), (15, (.int .i64 v2))], [(5, (.box (Z2 a2).cells))]⟩) ?_ ?_
    ·intro v h
     revert h
     revert v
     intro v8 h
     try dsimp only at h ⊢
     unfold F58_j9 at h
     refine Zd <| Z7 <| Z1 I (Z1o (k := .i64) (a := v2) (b := 1) (c := (IntKind.i64.wrap (v2 + 1))) I I I I) I <| Z1 I (Ze (v := (.int .i64 (IntKind.i64.wrap (v2 + 1)))) I I) I <| Za ?_
     exact Zp (st' := ⟨[(1, (.str a1)), (5, (.ptr 5 0)), (7, (.int .i64 v8)), (13, (.sl 3 (a0.Acks.map Zw) false)), (14, (.int .i64 (a0.Acks.length : Int))), (15, (.int .i64 (IntKind.i64.wrap (v2 + 1))))], [(5, (.box (Z2 a2).cells))]⟩) ⟨rfl, rfl, rfl, rfl, rfl, rfl, trivial⟩ ⟨rfl, trivial⟩ (IH3 _ (v8, (IntKind.i64.wrap (v2 + 1))) (Nat.lt_succ_self _) h)
    ·intro J9
     refine Zf <| Z7 ?_
     have ⟨hg10, h⟩ := Zz h
     refine Z1 I (st_index (k := .i64) (l := a0.Acks) (enc := Zw) (z := Z14) (n := v2) (cs := (Zw (a0.Acks.getD v2.toNat Z14)).cells) (full := false) I s32 I I hg10 I) I <| Z1 I (st_loadIA (cs := (Zw (a0.Acks.getD v2.toNat Z14)).cells) (vs := (Zw (a0.Acks.getD v2.toNat Z14)).cells) I a63 I I I) I <| Z1 I (st_alloc (cs := [(.str []), (.str []), (.int .i64 0)]) I z63 I I I) I <| Z1 I (Z1k (cs := [(.str []), (.str []), (.int .i64 0)]) (vs := (Zw (a0.Acks.getD v2.toNat Z14)).cells) (ds := (Zw (a0.Acks.getD v2.toNat Z14)).cells) (v := (Zw (a0.Acks.getD v2.toNat Z14))) sz63 I I I I I I I I) I <| Za <| Zd <| Zf <| Z7 ?_
     refine Z1 I (Zu (m := 9) (o := 0) I f63_0 I I) I <| Z1 I (Z11 (cs := (Zw (a0.Acks.getD v2.toNat Z14)).cells) (v := (.str (a0.Acks.getD v2.toNat Z14).Group)) I o9 I I I) I <| Z1 I (Ze (v := (.str a1)) I I) I <| Z1 I (st_cmpS (a := (a0.Acks.getD v2.toNat Z14).Group) (b := a1) (c := ((a0.Acks.getD v2.toNat Z14).Group == a1)) I I I I) I <| Z1 I (Ze (v := (.bool ((a0.Acks.getD v2.toNat Z14).Group == a1))) I I) I ?_
     have hif := Z1g h
     refine Z15 (fun hc => ?_) (fun hc => ?_)
     ·have h := hif.1 hc
      refine Zh I I I I (Zu (m := 9) (o := 0) I f63_2 I I) I <| Zh I I I I (Z11 (cs := (Zw (a0.Acks.getD v2.toNat Z14)).cells) (v := (.int .i64 (a0.Acks.getD v2.toNat Z14).At)) I o3 I I I) I <| Zh I I I I (Zu (m := 5) (o := 0) I f40_0 I I) I <| Zh I I I I (Z11 (cs := (Z2 a2).cells) (v := (.int .i64 a2.From)) I o3 I I I) I <| Zh I I I I (Z1f (k := .i64) (a := (a0.Acks.getD v2.toNat Z14).At) (b := a2.From) (c := (decide ((a0.Acks.getD v2.toNat Z14).At ≥ a2.From))) I I I I) I <| Z1 I (Z1d (v := (.bool (decide ((a0.Acks.getD v2.toNat Z14).At ≥ a2.From)))) I I I) I <| Za <| Zd ?_
      refine AWp.join (V := Int) (lp := fun v => F58_j12 K (F58_l3 K a0 a1 a2 (F58_c5 K) k3) v2 v = some r) (sh := fun v => ⟨[(1, (.str a1)), (5, (.ptr 5 0)), (7, (.int .i64 v)), (13, (.sl 3 (a0.Acks.map Zw) false)), (14, (.int .i64 (a0.Acks.length : Int))), (15, (.int .i64 v2))], [(5, (.box (Z2 a2).cells))]⟩) ?_ ?_
      ·intro v h
       revert h
       revert v
       intro v11 h
       try dsimp only at h ⊢
       unfold F58_j12 at h
       refine At.end ?_
       exact Zp (st' := ⟨[(1, (.str a1)), (5, (.ptr 5 0)), (7, (.int .i64 v11)), (13, (.sl 3 (a0.Acks.map Zw) false)), (14, (.int .i64 (a0.Acks.length : Int))), (15, (.int .i64 v2))], [(5, (.box (Z2 a2).cells))]⟩) ⟨rfl, rfl, rfl, rfl, rfl, rfl, trivial⟩ ⟨rfl, trivial⟩ (J9 v11 h)
      ·intro J12
       have hif := Z1g h
       refine Zs I (fun hc => ?_) (fun hc => ?_)
       ·have h := hif.1 hc
        refine Z7 <| Z1 I (Ze (v := (.int .i64 v1)) I I) I <| Z1 I (Zu (m := 9) (o := 0) I f63_2 I I) I <| Z1 I (Z11 (cs := (Zw (a0.Acks.getD v2.toNat Z14)).cells) (v := (.int .i64 (a0.Acks.getD v2.toNat Z14).At)) I o3 I I I) I <| Z1 I (st_min (k := .i64) (a := v1) (b := (a0.Acks.getD v2.toNat Z14).At) I I I) I <| Z1 I (Zg (v := (.int .i64 (if (a0.Acks.getD v2.toNat Z14).At < v1 then (a0.Acks.getD v2.toNat Z14).At else v1))) I I) I <| Za ?_
        exact Zp (st' := ⟨[(1, (.str a1)), (5, (.ptr 5 0)), (7, (.int .i64 (if (a0.Acks.getD v2.toNat Z14).At < v1 then (a0.Acks.getD v2.toNat Z14).At else v1))), (13, (.sl 3 (a0.Acks.map Zw) false)), (14, (.int .i64 (a0.Acks.length : Int))), (15, (.int .i64 v2))], [(5, (.box (Z2 a2).cells))]⟩) ⟨rfl, rfl, rfl, rfl, rfl, rfl, trivial⟩ ⟨rfl, trivial⟩ (J12 (if (a0.Acks.getD v2.toNat Z14).At < v1 then (a0.Acks.getD v2.toNat Z14).At else v1) h)
       ·have h := hif.2 hc
        refine Zx ?_
        exact Zp (st' := ⟨[(1, (.str a1)), (5, (.ptr 5 0)), (7, (.int .i64 v1)), (13, (.sl 3 (a0.Acks.map Zw) false)), (14, (.int .i64 (a0.Acks.length : Int))), (15, (.int .i64 v2))], [(5, (.box (Z2 a2).cells))]⟩) ⟨rfl, rfl, rfl, rfl, rfl, rfl, trivial⟩ ⟨rfl, trivial⟩ (J12 v1 h)
     ·have h := hif.2 hc
      refine Z5 I I I I I I I <| Z5 I I I I I I I <| Z5 I I I I I I I <| Z5 I I I I I I I <| Z5 I I I I I I I <| Z1 I (Z10 (v := (.bool false)) I I I) I <| Za <| Zd ?_
      refine Zs (b := false) I (fun hc => ?_) (fun hc => ?_)
      ·cases hc
      refine Zx <| At.end ?_
      exact Zp (st' := ⟨[(1, (.str a1)), (5, (.ptr 5 0)), (7, (.int .i64 v1)), (13, (.sl 3 (a0.Acks.map Zw) false)), (14, (.int .i64 (a0.Acks.length : Int))), (15, (.int .i64 v2))], [(5, (.box (Z2 a2).cells))]⟩) ⟨rfl, rfl, rfl, rfl, rfl, rfl, trivial⟩ ⟨rfl, trivial⟩ (J9 v1 h)
   ·have h := hif.2 hc
    refine AWp.exit <| At.thru ?_
    exact Zp (st' := ⟨[(7, (.int .i64 v1))], []⟩) ⟨rfl, trivial⟩ trivial (J3 v1 h)
def F82 (K : Nat) (a0 : Int) (a1 : (List Z4)) (a2 : Int) : Option (Bool) :=
 if (0 : Int) ≤ a0 ∧ a0 < a1.length then
  some (decide ((a1.getD a0.toNat Zq).To > a2))
 else none
theorem F82_ok (K : Nat) (a0 : Int) (a1 : (List Z4)) (a2 : Int) (r : Bool) (h : F82 K a0 a1 a2 = some r) : ACall P 82 ⟨[(.int .i64 a0), (.ip [(.sl 2 (a1.map Z2) false)]), (.ip [(.int .i64 a2)])], [], (.bool r), [], []⟩ := by
 refine acall_of Try.func82 Try.results82 rfl Try.ntmps82 rfl rfl rfl ?_
 intro E Q hP hN hro hret
 obtain ⟨P', nt', w0, F0, p0, S0, β0, ro0⟩ := E
 simp only at hP hN
 subst hP hN
 dsimp only [argT]
 unfold F82 at h
 refine Zf <| Z7 <| Z1 I (Zg (v := (.bool false)) I I) I <| Za <| Zd <| Zf <| AWp.regionD mixed <| Zn 0 I (Z1m (cs := [(.sl 2 (a1.map Z2) false)]) (v := (.sl 2 (a1.map Z2) false)) I o45 I I) ?_
 refine Zn 1 I (Ze (v := (.int .i64 a0)) I I) ?_
 have ⟨hg1, h⟩ := Zz h
 refine Zn 2 I (st_index (k := .i64) (l := a1) (enc := Z2) (z := Zq) (n := a0) (cs := (Z2 (a1.getD a0.toNat Zq)).cells) (full := false) I s45 I I hg1 I) <| Zn 3 I (st_fieldI (cs := (Z2 (a1.getD a0.toNat Zq)).cells) (ds := [(.int .i64 (a1.getD a0.toNat Zq).To)]) I f40_1 I I I) <| Zn 4 I (Z1m (cs := [(.int .i64 (a1.getD a0.toNat Zq).To)]) (v := (.int .i64 (a1.getD a0.toNat Zq).To)) I o3 I I) <| Zn 5 I (Z1m (cs := [(.int .i64 a2)]) (v := (.int .i64 a2)) I o3 I I) <| Zn 6 I (Z1f (k := .i64) (a := (a1.getD a0.toNat Zq).To) (b := a2) (c := (decide ((a1.getD a0.toNat Zq).To > a2))) I I I I) <| Zn 7 I (Zg (v := (.bool (decide ((a1.getD a0.toNat Zq).To > a2)))) I I) <| AOpsD.nil (by kernel_rfl) I <| Zd ?_
 refine Z18 ?_
 have h := Option.some.inj h
 subst h
 refine (hret _ ?_).1
 exact ⟨[(.bool (decide ((a1.getD a0.toNat Zq).To > a2)))], ⟨rfl, trivial⟩, rfl, trivial⟩
def F81_c5 (K : Nat) (v4 : Int) : Option (Int) :=
 some v4
def F81_j13 (K : Nat) (b7 : Int → Int → Option (Int)) (v11 : Int) (v12 : Int) : Option (Int) :=
 b7 v11 v12
def F81_l3 (K : Nat) (a100 : (List Z4)) (a101 : Int) (c6 : Int → Option (Int)) : Nat → Int → Int → Option (Int)
 | 0, _, _ => none
 | k3 + 1, v1, v2 =>
  if (decide (v1 < v2)) = true then
   if (0 : Int) ≤ 1 then
    (F82 K (IntKind.i64.wrap ((IntKind.u64.wrap (IntKind.i64.wrap (v1 + v2))).fdiv (2 ^ (min (1 : Int).toNat IntKind.u64.bits)))) a100 a101).bind fun v10 =>
     if (!v10) = true then
      F81_j13 K (F81_l3 K a100 a101 c6 k3) (IntKind.i64.wrap ((IntKind.i64.wrap ((IntKind.u64.wrap (IntKind.i64.wrap (v1 + v2))).fdiv (2 ^ (min (1 : Int).toNat IntKind.u64.bits)))) + 1)) v2
     else
      F81_j13 K (F81_l3 K a100 a101 c6 k3) v1 (IntKind.i64.wrap ((IntKind.u64.wrap (IntKind.i64.wrap (v1 + v2))).fdiv (2 ^ (min (1 : Int).toNat IntKind.u64.bits))))
   else none
  else
   c6 v1
def F81 (K : Nat) (a0 : Int) (a100 : (List Z4)) (a101 : Int) : Option (Int) :=
 F81_l3 K a100 a101 (F81_c5 K) K 0 a0
theorem F81_ok (K : Nat) (a0 : Int) (a100 : (List Z4)) (a101 : Int) (r : Int) (h : F81 K a0 a100 a101 = some r) : ACall P 81 ⟨[(.int .i64 a0), (.clo 82 [(.ip [(.sl 2 (a100.map Z2) false)]), (.ip [(.int .i64 a101)])])], [], (.int .i64 r), [], []⟩ := by
 refine acall_of Try.func81 Try.results81 rfl Try.ntmps81 rfl rfl rfl ?_
 intro E Q hP hN hro hret
 obtain ⟨P', nt', w0, F0, p0, S0, β0, ro0⟩ := E
 simp only at hP hN
 subst hP hN
 dsimp only [argT]
 unfold F81 at h
 refine Zf <| Z7 <| Z1 I (Zg (v := (.int .i64 0)) I I) I <| Za <| Zd <| Zf <| Z7 <| Z1 I (Ze (v := (.int .i64 a0)) I I) I ?_
 refine Z1 I (Zg (v := (.int .i64 0)) I I) I <| Z1 I (Zg (v := (.int .i64 a0)) I I) I <| Za <| Zd <| Zf <| AWp.weaken (st' := ⟨[(1, (.clo 82 [(.ip [(.sl 2 (a100.map Z2) false)]), (.ip [(.int .i64 a101)])])), (5, (.int .i64 0)), (6, (.int .i64 a0))], []⟩) ⟨rfl, rfl, rfl, trivial⟩ trivial ?_
 refine Z1l (V := Int × Int) (X := Int) (lp := fun k v => F81_l3 K a100 a101 (F81_c5 K) k v.1 v.2 = some r) (sh := fun v => ⟨[(1, (.clo 82 [(.ip [(.sl 2 (a100.map Z2) false)]), (.ip [(.int .i64 a101)])])), (5, (.int .i64 v.1)), (6, (.int .i64 v.2))], []⟩) (x := fun v => F81_c5 K v = some r) (shx := fun v => ⟨[(5, (.int .i64 v))], []⟩) (k := K) (v := (0, a0)) h ?_ ?_
 ·intro v h
  revert h
  revert v
  intro v4 h
  try dsimp only at h ⊢
  unfold F81_c5 at h
  refine Zd <| Zf <| Z7 <| Z1 I (Ze (v := (.int .i64 v4)) I I) I <| Z1 I (Zg (v := (.int .i64 v4)) I I) I <| Za <| Zd <| Z18 ?_
  have h := Option.some.inj h
  subst h
  refine (hret _ ?_).1
  exact ⟨[(.int .i64 v4)], ⟨rfl, trivial⟩, rfl, trivial⟩
 ·intro N k3 v h IH3 J3
  obtain ⟨v1, v2⟩ := v
  try dsimp only at h IH3 J3 ⊢
  cases k3 with
  | zero => cases h
  | succ k3 =>
   rw [F81_l3] at h
   refine Zf <| Zf <| Z7 <| Z1 I (Ze (v := (.int .i64 v1)) I I) I <| Z1 I (Ze (v := (.int .i64 v2)) I I) I <| Z1 I (Z1f (k := .i64) (a := v1) (b := v2) (c := (decide (v1 < v2))) I I I I) I <| Za <| Zd ?_
   have hif := Z1g h
   refine Zs I (fun hc => ?_) (fun hc => ?_)
   ·have h := hif.1 hc
    refine Zx <| Zd <| AWp.block <| Zf <| Z7 <| Z1 I (Ze (v := (.int .i64 v1)) I I) I <| Z1 I (Ze (v := (.int .i64 v2)) I I) I <| Z1 I (Z1o (k := .i64) (a := v1) (b := v2) (c := (IntKind.i64.wrap (v1 + v2))) I I I I) I ?_
    refine Z1 I (st_conv I us3 u115 I) I ?_
    have ⟨hg8, h⟩ := Zz h
    refine Z1 I (st_shift (k := .u64) (j := .u64) (a := (IntKind.u64.wrap (IntKind.i64.wrap (v1 + v2)))) (b := 1) (c := ((IntKind.u64.wrap (IntKind.i64.wrap (v1 + v2))).fdiv (2 ^ (min (1 : Int).toNat IntKind.u64.bits)))) I I I I hg8) I <| Z1 I (st_conv I us115 u3 I) I <| Z1 I (Zg (v := (.int .i64 (IntKind.i64.wrap ((IntKind.u64.wrap (IntKind.i64.wrap (v1 + v2))).fdiv (2 ^ (min (1 : Int).toNat IntKind.u64.bits)))))) I I) I <| Za <| Zd <| Zf <| Z7 <| Z1 I (Ze (v := (.clo 82 [(.ip [(.sl 2 (a100.map Z2) false)]), (.ip [(.int .i64 a101)])])) I I) I ?_
    refine Z1 I (Ze (v := (.int .i64 (IntKind.i64.wrap ((IntKind.u64.wrap (IntKind.i64.wrap (v1 + v2))).fdiv (2 ^ (min (1 : Int).toNat IntKind.u64.bits)))))) I I) I ?_
    have ⟨v10, hv10, h⟩ := Z17 h
    refine Z1 I (Z1b (ar := [(.int .i64 (IntKind.i64.wrap ((IntKind.u64.wrap (IntKind.i64.wrap (v1 + v2))).fdiv (2 ^ (min (1 : Int).toNat IntKind.u64.bits)))))]) (caps := [(.ip [(.sl 2 (a100.map Z2) false)]), (.ip [(.int .i64 a101)])]) Try.call82 (F82_ok K (IntKind.i64.wrap ((IntKind.u64.wrap (IntKind.i64.wrap (v1 + v2))).fdiv (2 ^ (min (1 : Int).toNat IntKind.u64.bits)))) a100 a101 v10 hv10) I I ⟨rfl, trivial⟩ I) I <| Z1 I (st_not (b := v10) I I) I <| Za <| Zd ?_
    refine AWp.join (V := Int × Int) (lp := fun v => F81_j13 K (F81_l3 K a100 a101 (F81_c5 K) k3) v.1 v.2 = some r) (sh := fun v => ⟨[(1, (.clo 82 [(.ip [(.sl 2 (a100.map Z2) false)]), (.ip [(.int .i64 a101)])])), (5, (.int .i64 v.1)), (6, (.int .i64 v.2))], []⟩) ?_ ?_
    ·intro v h
     obtain ⟨v11, v12⟩ := v
     try dsimp only at h ⊢
     unfold F81_j13 at h
     refine At.end ?_
     exact Zp (st' := ⟨[(1, (.clo 82 [(.ip [(.sl 2 (a100.map Z2) false)]), (.ip [(.int .i64 a101)])])), (5, (.int .i64 v11)), (6, (.int .i64 v12))], []⟩) ⟨rfl, rfl, rfl, trivial⟩ trivial (IH3 _ (v11, v12) (Nat.lt_succ_self _) h)
    ·intro J13
     have hif := Z1g h
     refine Zs I (fun hc => ?_) (fun hc => ?_)
     ·have h := hif.1 hc
      refine Z7 <| Z1 I (Ze (v := (.int .i64 (IntKind.i64.wrap ((IntKind.u64.wrap (IntKind.i64.wrap (v1 + v2))).fdiv (2 ^ (min (1 : Int).toNat IntKind.u64.bits)))))) I I) I <| Z1 I (Z1o (k := .i64) (a := (IntKind.i64.wrap ((IntKind.u64.wrap (IntKind.i64.wrap (v1 + v2))).fdiv (2 ^ (min (1 : Int).toNat IntKind.u64.bits))))) (b := 1) (c := (IntKind.i64.wrap ((IntKind.i64.wrap ((IntKind.u64.wrap (IntKind.i64.wrap (v1 + v2))).fdiv (2 ^ (min (1 : Int).toNat IntKind.u64.bits)))) + 1))) I I I I) I <| Z1 I (Zg (v := (.int .i64 (IntKind.i64.wrap ((IntKind.i64.wrap ((IntKind.u64.wrap (IntKind.i64.wrap (v1 + v2))).fdiv (2 ^ (min (1 : Int).toNat IntKind.u64.bits)))) + 1)))) I I) I <| Za ?_
      exact Zp (st' := ⟨[(1, (.clo 82 [(.ip [(.sl 2 (a100.map Z2) false)]), (.ip [(.int .i64 a101)])])), (5, (.int .i64 (IntKind.i64.wrap ((IntKind.i64.wrap ((IntKind.u64.wrap (IntKind.i64.wrap (v1 + v2))).fdiv (2 ^ (min (1 : Int).toNat IntKind.u64.bits)))) + 1)))), (6, (.int .i64 v2))], []⟩) ⟨rfl, rfl, rfl, trivial⟩ trivial (J13 ((IntKind.i64.wrap ((IntKind.i64.wrap ((IntKind.u64.wrap (IntKind.i64.wrap (v1 + v2))).fdiv (2 ^ (min (1 : Int).toNat IntKind.u64.bits)))) + 1)), v2) h)
     ·have h := hif.2 hc
      refine Z7 <| Z1 I (Ze (v := (.int .i64 (IntKind.i64.wrap ((IntKind.u64.wrap (IntKind.i64.wrap (v1 + v2))).fdiv (2 ^ (min (1 : Int).toNat IntKind.u64.bits)))))) I I) I <| Z1 I (Zg (v := (.int .i64 (IntKind.i64.wrap ((IntKind.u64.wrap (IntKind.i64.wrap (v1 + v2))).fdiv (2 ^ (min (1 : Int).toNat IntKind.u64.bits)))))) I I) I <| Za ?_
      exact Zp (st' := ⟨[(1, (.clo 82 [(.ip [(.sl 2 (a100.map Z2) false)]), (.ip [(.int .i64 a101)])])), (5, (.int .i64 v1)), (6, (.int .i64 (IntKind.i64.wrap ((IntKind.u64.wrap (IntKind.i64.wrap (v1 + v2))).fdiv (2 ^ (min (1 : Int).toNat IntKind.u64.bits))))))], []⟩) ⟨rfl, rfl, rfl, trivial⟩ trivial (J13 (v1, (IntKind.i64.wrap ((IntKind.u64.wrap (IntKind.i64.wrap (v1 + v2))).fdiv (2 ^ (min (1 : Int).toNat IntKind.u64.bits))))) h)
   ·have h := hif.2 hc
    refine AWp.exit <| At.thru ?_
    exact Zp (st' := ⟨[(5, (.int .i64 v1))], []⟩) ⟨rfl, trivial⟩ trivial (J3 v1 h)
def F57 (K : Nat) (a0 : (List Z4)) (a1 : Int) : Option (Int) :=
 (F81 K (a0.length : Int) a0 a1).bind fun v2 =>
  some v2
theorem F57_ok (K : Nat) (a0 : (List Z4)) (a1 : Int) (r : Int) (h : F57 K a0 a1 = some r) : ACall P 57 ⟨[(.sl 2 (a0.map Z2) false), (.int .i64 a1)], [], (.int .i64 r), [], []⟩ := by
 refine acall_of Try.func57 Try.results57 rfl Try.ntmps57 rfl rfl rfl ?_
 intro E Q hP hN hro hret
 obtain ⟨P', nt', w0, F0, p0, S0, β0, ro0⟩ := E
 simp only at hP hN
 subst hP hN
 dsimp only [argT]
 unfold F57 at h
 refine Zf <| Z7 <| Z1 I (st_box (v := (.sl 2 (a0.map Z2) false)) (cs := [(.sl 2 (a0.map Z2) false)]) I I I I I) I <| Z1 I (st_box (v := (.int .i64 a1)) (cs := [(.int .i64 a1)]) I I I I I) I <| Z1 I (Zg (v := (.int .i64 0)) I I) I <| Za <| Zd <| Zf ?_
 refine Z7 <| Z1 I (Z11 (cs := [(.sl 2 (a0.map Z2) false)]) (v := (.sl 2 (a0.map Z2) false)) I o45 I I I) I <| Z1 I (stx_len (l := a0) (enc := Z2) I s45 I) I <| Z1 I (stx_makeFunc (vs := [(.ptr 2 0), (.ptr 3 0)]) I ⟨rfl, rfl, trivial⟩) I ?_
 have ⟨v2, hv2, h⟩ := Z17 h
 refine Z1 I (st_callB (rd := [(2, (.box [(.sl 2 (a0.map Z2) false)])), (3, (.box [(.int .i64 a1)]))]) (ar := [(.int .i64 (a0.length : Int)), (.clo 82 [(.ptr 2 0), (.ptr 3 0)])]) (caps := []) Try.call81 (F81_ok K (a0.length : Int) a0 a1 v2 hv2) I I ⟨rfl, rfl, trivial⟩ (subS_mem ⟨rfl, rfl, trivial⟩) I I I) I <| Z1 I (Zg (v := (.int .i64 v2)) I I) I <| Za <| Zd <| Z18 ?_
 have h := Option.some.inj h
 subst h
 refine (hret _ ?_).1
 exact ⟨[(.int .i64 v2)], ⟨rfl, trivial⟩, rfl, trivial⟩
def F31 (K : Nat) (a0 : (List Z4)) (a1 : Int) : Option (Bool) :=
 (F57 K a0 a1).bind fun v2 =>
  if (decide (v2 < (a0.length : Int))) = true then
   if (0 : Int) ≤ v2 ∧ v2 < a0.length then
    some (decide ((a0.getD v2.toNat Zq).From ≤ a1))
   else none
  else
   some false
theorem F31_ok (K : Nat) (a0 : (List Z4)) (a1 : Int) (r : Bool) (h : F31 K a0 a1 = some r) : ACall P 31 ⟨[(.sl 2 (a0.map Z2) false), (.int .i64 a1)], [], (.bool r), [], []⟩ := by
 refine acall_of Try.func31 Try.results31 rfl Try.ntmps31 rfl rfl rfl ?_
 intro E Q hP hN hro hret
 obtain ⟨P', nt', w0, F0, p0, S0, β0, ro0⟩ := E
 simp only at hP hN
 subst hP hN
 dsimp only [argT]
 unfold F31 at h
 refine Zf <| Z7 <| Z1 I (Zg (v := (.bool false)) I I) I <| Za <| Zd <| Zf <| Z7 <| Z1 I (Ze (v := (.sl 2 (a0.map Z2) false)) I I) I ?_
 refine Z1 I (Ze (v := (.int .i64 a1)) I I) I ?_
 have ⟨v2, hv2, h⟩ := Z17 h
 refine Z1 I (Z1b (ar := [(.sl 2 (a0.map Z2) false), (.int .i64 a1)]) (caps := []) Try.call57 (F57_ok K a0 a1 v2 hv2) I I ⟨rfl, rfl, trivial⟩ I) I <| Z1 I (Zg (v := (.int .i64 v2)) I I) I <| Za <| Zd <| Zf <| Z7 <| Z1 I (Ze (v := (.int .i64 v2)) I I) I <| Z1 I (Ze (v := (.sl 2 (a0.map Z2) false)) I I) I ?_
 refine Z1 I (stx_len (l := a0) (enc := Z2) I s45 I) I <| Z1 I (Z1f (k := .i64) (a := v2) (b := (a0.length : Int)) (c := (decide (v2 < (a0.length : Int)))) I I I I) I <| Z1 I (Ze (v := (.bool (decide (v2 < (a0.length : Int))))) I I) I ?_
 have hif := Z1g h
 refine Z15 (fun hc => ?_) (fun hc => ?_)
 ·have h := hif.1 hc
  refine Zh I I I I (Ze (v := (.sl 2 (a0.map Z2) false)) I I) I <| Zh I I I I (Ze (v := (.int .i64 v2)) I I) I ?_
  have ⟨hg3, h⟩ := Zz h
  refine Zh I I I I (st_index (k := .i64) (l := a0) (enc := Z2) (z := Zq) (n := v2) (cs := (Z2 (a0.getD v2.toNat Zq)).cells) (full := false) I s45 I I hg3 I) I <| Zh I I I I (st_fieldI (cs := (Z2 (a0.getD v2.toNat Zq)).cells) (ds := (Z2 (a0.getD v2.toNat Zq)).cells) I f40_0 I I I) I <| Zh I I I I (Z1m (cs := (Z2 (a0.getD v2.toNat Zq)).cells) (v := (.int .i64 (a0.getD v2.toNat Zq).From)) I o3 I I) I <| Zh I I I I (Ze (v := (.int .i64 a1)) I I) I <| Zh I I I I (Z1f (k := .i64) (a := (a0.getD v2.toNat Zq).From) (b := a1) (c := (decide ((a0.getD v2.toNat Zq).From ≤ a1))) I I I I) I <| Z1 I (Z1d (v := (.bool (decide ((a0.getD v2.toNat Zq).From ≤ a1)))) I I I) I <| Z1 I (Zg (v := (.bool (decide ((a0.getD v2.toNat Zq).From ≤ a1)))) I I) I <| Za ?_
  refine Zd <| Z18 ?_
  have h := Option.some.inj h
  subst h
  refine (hret _ ?_).1
  exact ⟨[(.bool (decide ((a0.getD v2.toNat Zq).From ≤ a1)))], ⟨rfl, trivial⟩, rfl, trivial⟩
 ·have h := hif.2 hc
  refine Z5 I I I I I I I <| Z5 I I I I I I I <| Z5 I I I I I I I <| Z5 I I I I I I I <| Z5 I I I I I I I <| Z5 I I I I I I I <| Z5 I I I I I I I <| Z1 I (Z10 (v := (.bool false)) I I I) I ?_
  refine Z1 I (Zg (v := (.bool false)) I I) I <| Za <| Zd <| Z18 ?_
  have h := Option.some.inj h
  subst h
  refine (hret _ ?_).1
  exact ⟨[(.bool false)], ⟨rfl, trivial⟩, rfl, trivial⟩
def F50_c3 (K : Nat) (a0 : (List Str)) : Option ((List Str)) :=
 some a0
def F50_c18 (K : Nat) (v16 : Int) (v17 : (List Str)) : Option ((List Str)) :=
 if (0 : Int) ≤ v16 ∧ v16 ≤ (v17.length : Int) ∧ (v17.length : Int) ≤ (v17.length : Nat) then
  if (0 + v16.toNat) + ((v17.length : Int).toNat - v16.toNat) ≤ v17.length then
   if (0 + v16.toNat) + ((v17.length : Int).toNat - v16.toNat) ≤ v17.length then
    if (0 : Int) ≤ 0 ∧ 0 ≤ v16 ∧ v16 ≤ ((v17.take (0 + v16.toNat) ++ List.replicate ((v17.length : Int).toNat - v16.toNat) [] ++ v17.drop ((0 + v16.toNat) + ((v17.length : Int).toNat - v16.toNat))).length : Nat) then
     if (0 + (0 : Int).toNat) + (v16.toNat - (0 : Int).toNat) ≤ (v17.take (0 + v16.toNat) ++ List.replicate ((v17.length : Int).toNat - v16.toNat) [] ++ v17.drop ((0 + v16.toNat) + ((v17.length : Int).toNat - v16.toNat))).length then
      some (((v17.take (0 + v16.toNat) ++ List.replicate ((v17.length : Int).toNat - v16.toNat) [] ++ v17.drop ((0 + v16.toNat) + ((v17.length : Int).toNat - v16.toNat))).drop (0 + (0 : Int).toNat)).take (v16.toNat - (0 : Int).toNat))
     else none
    else none
   else none
  else none
 else none
def F50_j35 (K : Nat) (b25 : Int → Int → (List Str) → Option ((List Str))) (v13 : Int) (v33 : Int) (v34 : (List Str)) : Option ((List Str)) :=
 b25 v33 (IntKind.i64.wrap (v13 + 1)) v34
def F50_l15 (K : Nat) (v1 : Int) (a0 : (List Str)) (c19 : Int → (List Str) → Option ((List Str))) : Nat → Int → Int → (List Str) → Option ((List Str))
 | 0, _, _, _ => none
 | k15 + 1, v12, v13, v14 =>
  if (0 + v1.toNat) + ((a0.length : Int).toNat - v1.toNat) ≤ v14.length then
   if (decide (v13 < ((((a0.length : Int).toNat - v1.toNat) : Nat) : Int))) = true then
    if (0 + v1.toNat) + ((a0.length : Int).toNat - v1.toNat) ≤ v14.length then
     if (0 : Int) ≤ v13 ∧ v13 < (((a0.length : Int).toNat - v1.toNat) : Nat) then
      if ((0 + v1.toNat) + v13.toNat) < v14.length then
       if (0 + v1.toNat) + ((a0.length : Int).toNat - v1.toNat) ≤ v14.length then
        if (0 : Int) ≤ (IntKind.i64.wrap (v13 - 1)) ∧ (IntKind.i64.wrap (v13 - 1)) < (((a0.length : Int).toNat - v1.toNat) : Nat) then
         if ((0 + v1.toNat) + (IntKind.i64.wrap (v13 - 1)).toNat) < v14.length then
          if (!((v14.getD ((0 + v1.toNat) + v13.toNat) []) == (v14.getD ((0 + v1.toNat) + (IntKind.i64.wrap (v13 - 1)).toNat) []))) = true then
           if (0 + v1.toNat) + ((a0.length : Int).toNat - v1.toNat) ≤ v14.length then
            if (0 : Int) ≤ v13 ∧ v13 < (((a0.length : Int).toNat - v1.toNat) : Nat) then
             if ((0 + v1.toNat) + v13.toNat) < v14.length then
              if (0 : Int) ≤ v12 ∧ v12 < (v14.length : Nat) then
               if v12.toNat < v14.length then
                F50_j35 K (F50_l15 K v1 a0 c19 k15) v13 (IntKind.i64.wrap (v12 + 1)) (v14.set v12.toNat (v14.getD ((0 + v1.toNat) + v13.toNat) []))
               else none
              else none
             else none
            else none
           else none
          else
           F50_j35 K (F50_l15 K v1 a0 c19 k15) v13 v12 v14
         else none
        else none
       else none
      else none
     else none
    else none
   else
    c19 v12 v14
  else none
def F50_l2 (K : Nat) (a0 : (List Str)) (c4 : Option ((List Str))) : Nat → Int → Option ((List Str))
 | 0, _ => none
 | k2 + 1, v1 =>
  if (decide (v1 < (a0.length : Int))) = true then
   if (0 : Int) ≤ v1 ∧ v1 < (a0.length : Nat) then
    if v1.toNat < a0.length then
     if (0 : Int) ≤ (IntKind.i64.wrap (v1 - 1)) ∧ (IntKind.i64.wrap (v1 - 1)) < (a0.length : Nat) then
      if (IntKind.i64.wrap (v1 - 1)).toNat < a0.length then
       if ((a0.getD v1.toNat []) == (a0.getD (IntKind.i64.wrap (v1 - 1)).toNat [])) = true then
        if (0 : Int) ≤ v1 ∧ v1 ≤ (a0.length : Int) ∧ (a0.length : Int) ≤ (a0.length : Nat) then
         if (0 + v1.toNat) + ((a0.length : Int).toNat - v1.toNat) ≤ a0.length then
          F50_l15 K v1 a0 (F50_c18 K) K v1 1 a0
         else none
        else none
       else
        (F50_l2 K a0 c4 k2) (IntKind.i64.wrap (v1 + 1))
      else none
     else none
    else none
   else none
  else
   c4
def F50 (K : Nat) (a0 : (List Str)) : Option ((List Str)) :=
 if (decide ((a0.length : Int) < 2)) = true then
  some a0
 else
  F50_l2 K a0 (F50_c3 K a0) K 1
theorem F50_ok (K : Nat) (a0 : (List Str)) (r : (List Str)) (h : F50 K a0 = some r) : ACall P 50 ⟨[(.vs 0)], [(0, .vec 1 (List.map Zv a0))], .vs 0, [(0, .vec 1 (List.map Zv r))], [0]⟩ := by
 refine acall_of Try.func50 Try.results50 rfl Try.ntmps50 rfl rfl rfl ?_
 intro E Q hP hN hro hret
 obtain ⟨P', nt', w0, F0, p0, S0, β0, ro0⟩ := E
 simp only at hP hN
 subst hP hN
 dsimp only [argT]
 unfold F50 at h
 refine Zf <| Z7 <| Z1 I (Zg (v := (.sl 1 [] false)) I I) I <| Za <| Zd <| Zf <| Zf <| Z7 ?_
 refine Z1 I (Ze (v := (.vs 0)) I I) I <| Z1 I (stx_lenV (l := a0) (enc := Zv) I u36 I I) I <| Z1 I (Z1f (k := .i64) (a := (a0.length : Int)) (b := 2) (c := (decide ((a0.length : Int) < 2))) I I I I) I <| Za <| Zd ?_
 have hif := Z1g h
 refine Zs I (fun hc => ?_) (fun hc => ?_)
 ·have h := hif.1 hc
  refine Zf <| Z7 <| Z1 I (Ze (v := (.vs 0)) I I) I <| Z1 I (Zg (v := (.vs 0)) I I) I <| Za <| Zd <| Z18 <| Z12 ?_
  have h := Option.some.inj h
  subst h
  refine (hret _ ?_).1
  exact ⟨[(.vs 0)], ⟨rfl, trivial⟩, rfl, ⟨rfl, trivial⟩⟩
 ·have h := hif.2 hc
  refine Zx <| Zd <| Zf <| Zf <| Z7 <| Z1 I (Zg (v := (.int .i64 1)) I I) I <| Za <| Zd ?_
  refine AWp.weaken (st' := ⟨[(0, (.vs 0)), (3, (.int .i64 1))], [(0, (.vec 1 (List.map Zv a0)))]⟩) ⟨rfl, rfl, trivial⟩ ⟨rfl, trivial⟩ ?_
  refine Z1l (V := Int) (X := Unit) (lp := fun k v => F50_l2 K a0 (F50_c3 K a0) k v = some r) (sh := fun v => ⟨[(0, (.vs 0)), (3, (.int .i64 v))], [(0, (.vec 1 (List.map Zv a0)))]⟩) (x := fun v => F50_c3 K a0 = some r) (shx := fun v => ⟨[(0, (.vs 0))], [(0, (.vec 1 (List.map Zv a0)))]⟩) (k := K) (v := 1) h ?_ ?_
  ·intro v h
   try dsimp only at h ⊢
   unfold F50_c3 at h
   refine Zd <| Zf <| Z7 <| Z1 I (Ze (v := (.vs 0)) I I) I <| Z1 I (Zg (v := (.vs 0)) I I) I <| Za <| Zd <| Z18 ?_
   have h := Option.some.inj h
   subst h
   refine (hret _ ?_).1
   exact ⟨[(.vs 0)], ⟨rfl, trivial⟩, rfl, ⟨rfl, trivial⟩⟩
  ·intro N k2 v h IH2 J2
   revert h
   revert v
   intro v1 h
   try dsimp only at h IH2 J2 ⊢
   cases k2 with
   | zero => cases h
   | succ k2 =>
    rw [F50_l2] at h
    refine Zf <| Zf <| Z7 <| Z1 I (Ze (v := (.int .i64 v1)) I I) I <| Z1 I (Ze (v := (.vs 0)) I I) I <| Z1 I (stx_lenV (l := a0) (enc := Zv) I u36 I I) I <| Z1 I (Z1f (k := .i64) (a := v1) (b := (a0.length : Int)) (c := (decide (v1 < (a0.length : Int)))) I I I I) I <| Za ?_
    refine Zd ?_
    have hif := Z1g h
    refine Zs I (fun hc => ?_) (fun hc => ?_)
    ·have h := hif.1 hc
     refine Zx <| Zd <| Zf <| AWp.block <| Zf <| AWp.regionD mixed <| Zn 0 I (Ze (v := (.vs 0)) I I) <| Zn 1 I (Ze (v := (.int .i64 v1)) I I) ?_
     have ⟨hg6, h⟩ := Zz h
     refine Zn 2 I (st_indexV (k := .i64) (v := (.vs 0)) (n := 0) (off := 0) (len := a0.length) (es := (List.map Zv a0)) (j := v1) (m := v1.toNat) I s36 I I (vecR_map _ _ _) I hg6 (Nat.zero_add _)) ?_
     have ⟨hg7, h⟩ := Zz h
     refine Zn 3 I (st_loadV (l := a0) (enc := Zv) (z := []) (v := (.str (a0.getD v1.toNat []))) I o9 I I hg7 I) <| Zn 4 I (Ze (v := (.vs 0)) I I) <| Zn 5 I (Ze (v := (.int .i64 v1)) I I) <| Zn 6 I (Z1o (k := .i64) (a := v1) (b := 1) (c := (IntKind.i64.wrap (v1 - 1))) I I I I) ?_
     have ⟨hg8, h⟩ := Zz h
     refine Zn 7 I (st_indexV (k := .i64) (v := (.vs 0)) (n := 0) (off := 0) (len := a0.length) (es := (List.map Zv a0)) (j := (IntKind.i64.wrap (v1 - 1))) (m := (IntKind.i64.wrap (v1 - 1)).toNat) I s36 I I (vecR_map _ _ _) I hg8 (Nat.zero_add _)) ?_
     have ⟨hg9, h⟩ := Zz h
     refine Zn 8 I (st_loadV (l := a0) (enc := Zv) (z := []) (v := (.str (a0.getD (IntKind.i64.wrap (v1 - 1)).toNat []))) I o9 I I hg9 I) <| Zn 9 I (st_cmpS (a := (a0.getD v1.toNat [])) (b := (a0.getD (IntKind.i64.wrap (v1 - 1)).toNat [])) (c := ((a0.getD v1.toNat []) == (a0.getD (IntKind.i64.wrap (v1 - 1)).toNat []))) I I I I) <| AOpsD.nil (by kernel_rfl) I <| Zd ?_
     have hif := Z1g h
     refine Zs I (fun hc => ?_) (fun hc => ?_)
     ·have h := hif.1 hc
      refine Zf <| Z7 <| Z1 I (Ze (v := (.vs 0)) I I) I <| Z1 I (Ze (v := (.int .i64 v1)) I I) I ?_
      have ⟨hg10, h⟩ := Zz h
      have ⟨hg11, h⟩ := Zz h
      refine Z1 I (stx_sliceVL (v := (.vs 0)) (n := 0) (off := 0) (len := a0.length) (l := a0) (enc := Zv) (kl := .i64) (lo := v1) I s36 I I (vecR_map _ _ _) I hg10 I) I <| Z1 I (Zg (v := (.vsub 0 (0 + v1.toNat) ((a0.length : Int).toNat - v1.toNat) false)) I I) I <| Za <| Zd <| Zf <| Zf <| Z7 <| Z1 I (Zg (v := (.int .i64 1)) I I) I ?_
      refine Za <| Zd <| AWp.weaken (st' := ⟨[(0, (.vs 0)), (3, (.int .i64 v1)), (4, (.vsub 0 (0 + v1.toNat) ((a0.length : Int).toNat - v1.toNat) false)), (5, (.int .i64 1))], [(0, (.vec 1 (List.map Zv a0)))]⟩) ⟨rfl, rfl, rfl, rfl, trivial⟩ ⟨rfl, trivial⟩ ?_
      refine Z1l (V := Int × Int × (List Str)) (X := Int × (List Str)) (lp := fun k v => F50_l15 K v1 a0 (F50_c18 K) k v.1 v.2.1 v.2.2 = some r) (sh := fun v => ⟨[(0, (.vs 0)), (3, (.int .i64 v.1)), (4, (.vsub 0 (0 + v1.toNat) ((a0.length : Int).toNat - v1.toNat) false)), (5, (.int .i64 v.2.1))], [(0, (.vec 1 (List.map Zv v.2.2)))]⟩) (x := fun v => F50_c18 K v.1 v.2 = some r) (shx := fun v => ⟨[(0, (.vs 0)), (3, (.int .i64 v.1))], [(0, (.vec 1 (List.map Zv v.2)))]⟩) (k := K) (v := (v1, 1, a0)) h ?_ ?_
      ·intro v h
       obtain ⟨v16, v17⟩ := v
       try dsimp only at h ⊢
       unfold F50_c18 at h
       refine Zd <| Zf <| Z7 <| Z1 I (Ze (v := (.vs 0)) I I) I <| Z1 I (Ze (v := (.int .i64 v16)) I I) I ?_
       have ⟨hg20, h⟩ := Zz h
       have ⟨hg21, h⟩ := Zz h
       refine Z1 I (stx_sliceVL (v := (.vs 0)) (n := 0) (off := 0) (len := v17.length) (l := v17) (enc := Zv) (kl := .i64) (lo := v16) I s36 I I (vecR_map _ _ _) I hg20 I) I ?_
       have ⟨hg22, h⟩ := Zz h
       refine Z1 I (st_clear (v := (.vsub 0 (0 + v16.toNat) ((v17.length : Int).toNat - v16.toNat) false)) (n := 0) (off := (0 + v16.toNat)) (len := ((v17.length : Int).toNat - v16.toNat)) (l := v17) (enc := Zv) el36 ze9 I I I (vecR_sub hg22) els_str) I <| Za <| Zd <| Zf <| Z7 <| Z1 I (Ze (v := (.vs 0)) I I) I <| Z1 I (Ze (v := (.int .i64 v16)) I I) I ?_
       have ⟨hg23, h⟩ := Zz h
       have ⟨hg24, h⟩ := Zz h
       refine Z1 I (stx_sliceVH (v := (.vs 0)) (n := 0) (off := 0) (len := (v17.take (0 + v16.toNat) ++ List.replicate ((v17.length : Int).toNat - v16.toNat) [] ++ v17.drop ((0 + v16.toNat) + ((v17.length : Int).toNat - v16.toNat))).length) (l := (v17.take (0 + v16.toNat) ++ List.replicate ((v17.length : Int).toNat - v16.toNat) [] ++ v17.drop ((0 + v16.toNat) + ((v17.length : Int).toNat - v16.toNat)))) (enc := Zv) (kh := .i64) (hi := v16) I s36 I I (vecR_map _ _ _) I hg23 I) I <| Z1 I (Zg (v := (.vsub 0 (0 + (0 : Int).toNat) (v16.toNat - (0 : Int).toNat) false)) I I) I <| Za <| Zd <| Z18 <| Z1a <| Z12 ?_
       refine Z12 (Z1a ?_)
       refine Z12 <| At.ghost (st' := ⟨[(2, (.vs 0))], [(0, (.vec 1 (List.map Zv (((v17.take (0 + v16.toNat) ++ List.replicate ((v17.length : Int).toNat - v16.toNat) [] ++ v17.drop ((0 + v16.toNat) + ((v17.length : Int).toNat - v16.toNat))).drop (0 + (0 : Int).toNat)).take (v16.toNat - (0 : Int).toNat)))))]⟩) (fun a w h => (Z1h ⟨[(2, (.vs 0))], [(0, (.vec 1 (List.map Zv (((v17.take (0 + v16.toNat) ++ List.replicate ((v17.length : Int).toNat - v16.toNat) [] ++ v17.drop ((0 + v16.toNat) + ((v17.length : Int).toNat - v16.toNat))).drop (0 + (0 : Int).toNat)).take (v16.toNat - (0 : Int).toNat)))))]⟩ (ghost_trunc (k := 2) (m := 0) (sz := 1) (off := (0 + (0 : Int).toNat)) (len := (v16.toNat - (0 : Int).toNat)) (enc := Zv) (l := (v17.take (0 + v16.toNat) ++ List.replicate ((v17.length : Int).toNat - v16.toNat) [] ++ v17.drop ((0 + v16.toNat) + ((v17.length : Int).toNat - v16.toNat)))) I hg24 a w (Z1h ⟨[(2, (.vsub 0 (0 + (0 : Int).toNat) (v16.toNat - (0 : Int).toNat) false))], [(0, (.vec 1 (List.map Zv (v17.take (0 + v16.toNat) ++ List.replicate ((v17.length : Int).toNat - v16.toNat) [] ++ v17.drop ((0 + v16.toNat) + ((v17.length : Int).toNat - v16.toNat))))))]⟩ h ⟨rfl, trivial⟩ ⟨rfl, trivial⟩)) ⟨rfl, trivial⟩ ⟨rfl, trivial⟩)) ?_
       have h := Option.some.inj h
       subst h
       refine (hret _ ?_).1
       exact ⟨[(.vs 0)], ⟨rfl, trivial⟩, rfl, ⟨rfl, trivial⟩⟩
      ·intro N k15 v h IH15 J15
       obtain ⟨v12, v13, v14⟩ := v
       try dsimp only at h IH15 J15 ⊢
       cases k15 with
       | zero => cases h
       | succ k15 =>
        rw [F50_l15] at h
        refine Zf <| Zf <| Z7 <| Z1 I (Ze (v := (.int .i64 v13)) I I) I <| Z1 I (Ze (v := (.vsub 0 (0 + v1.toNat) ((a0.length : Int).toNat - v1.toNat) false)) I I) I ?_
        have ⟨hg26, h⟩ := Zz h
        refine Z1 I (stx_lenVS (v := (.vsub 0 (0 + v1.toNat) ((a0.length : Int).toNat - v1.toNat) false)) (n := 0) (off := (0 + v1.toNat)) (len := ((a0.length : Int).toNat - v1.toNat)) (l := v14) (enc := Zv) I u36 I I (vecR_sub hg26)) I <| Z1 I (Z1f (k := .i64) (a := v13) (b := ((((a0.length : Int).toNat - v1.toNat) : Nat) : Int)) (c := (decide (v13 < ((((a0.length : Int).toNat - v1.toNat) : Nat) : Int)))) I I I I) I <| Za <| Zd ?_
        have hif := Z1g h
        refine Zs I (fun hc => ?_) (fun hc => ?_)
        ·have h := hif.1 hc
         refine Zx <| Zd <| Zf <| AWp.block <| Zf <| AWp.regionD mixed <| Zn 0 I (Ze (v := (.vsub 0 (0 + v1.toNat) ((a0.length : Int).toNat - v1.toNat) false)) I I) <| Zn 1 I (Ze (v := (.int .i64 v13)) I I) ?_
         have ⟨hg27, h⟩ := Zz h
         have ⟨hg28, h⟩ := Zz h
         refine Zn 2 I (st_indexV (k := .i64) (v := (.vsub 0 (0 + v1.toNat) ((a0.length : Int).toNat - v1.toNat) false)) (n := 0) (off := (0 + v1.toNat)) (len := ((a0.length : Int).toNat - v1.toNat)) (es := (List.map Zv v14)) (j := v13) (m := ((0 + v1.toNat) + v13.toNat)) I s36 I I (vecR_sub hg27) I hg28 (I)) ?_
         have ⟨hg29, h⟩ := Zz h
         refine Zn 3 I (st_loadV (l := v14) (enc := Zv) (z := []) (v := (.str (v14.getD ((0 + v1.toNat) + v13.toNat) []))) I o9 I I hg29 I) <| Zn 4 I (Ze (v := (.vsub 0 (0 + v1.toNat) ((a0.length : Int).toNat - v1.toNat) false)) I I) <| Zn 5 I (Ze (v := (.int .i64 v13)) I I) <| Zn 6 I (Z1o (k := .i64) (a := v13) (b := 1) (c := (IntKind.i64.wrap (v13 - 1))) I I I I) ?_
         have ⟨hg30, h⟩ := Zz h
         have ⟨hg31, h⟩ := Zz h
         refine Zn 7 I (st_indexV (k := .i64) (v := (.vsub 0 (0 + v1.toNat) ((a0.length : Int).toNat - v1.toNat) false)) (n := 0) (off := (0 + v1.toNat)) (len := ((a0.length : Int).toNat - v1.toNat)) (es := (List.map Zv v14)) (j := (IntKind.i64.wrap (v13 - 1))) (m := ((0 + v1.toNat) + (IntKind.i64.wrap (v13 - 1)).toNat)) I s36 I I (vecR_sub hg30) I hg31 (I)) ?_
         have ⟨hg32, h⟩ := Zz h
         refine Zn 8 I (st_loadV (l := v14) (enc := Zv) (z := []) (v := (.str (v14.getD ((0 + v1.toNat) + (IntKind.i64.wrap (v13 - 1)).toNat) []))) I o9 I I hg32 I) <| Zn 9 I (st_cmpS (a := (v14.getD ((0 + v1.toNat) + v13.toNat) [])) (b := (v14.getD ((0 + v1.toNat) + (IntKind.i64.wrap (v13 - 1)).toNat) [])) (c := (!((v14.getD ((0 + v1.toNat) + v13.toNat) []) == (v14.getD ((0 + v1.toNat) + (IntKind.i64.wrap (v13 - 1)).toNat) [])))) I I I I) <| AOpsD.nil (by kernel_rfl) I <| Zd ?_
         refine AWp.join (V := Int × (List Str)) (lp := fun v => F50_j35 K (F50_l15 K v1 a0 (F50_c18 K) k15) v13 v.1 v.2 = some r) (sh := fun v => ⟨[(0, (.vs 0)), (3, (.int .i64 v.1)), (4, (.vsub 0 (0 + v1.toNat) ((a0.length : Int).toNat - v1.toNat) false)), (5, (.int .i64 v13))], [(0, (.vec 1 (List.map Zv v.2)))]⟩) ?_ ?_
         ·intro v h
          obtain ⟨v33, v34⟩ := v
          try dsimp only at h ⊢
          unfold F50_j35 at h
          refine At.end <| Zd <| Z7 <| Z1 I (Ze (v := (.int .i64 v13)) I I) I <| Z1 I (Z1o (k := .i64) (a := v13) (b := 1) (c := (IntKind.i64.wrap (v13 + 1))) I I I I) I <| Z1 I (Zg (v := (.int .i64 (IntKind.i64.wrap (v13 + 1)))) I I) I <| Za ?_
          exact Zp (st' := ⟨[(0, (.vs 0)), (3, (.int .i64 v33)), (4, (.vsub 0 (0 + v1.toNat) ((a0.length : Int).toNat - v1.toNat) false)), (5, (.int .i64 (IntKind.i64.wrap (v13 + 1))))], [(0, (.vec 1 (List.map Zv v34)))]⟩) ⟨rfl, rfl, rfl, rfl, trivial⟩ ⟨rfl, trivial⟩ (IH15 _ (v33, (IntKind.i64.wrap (v13 + 1)), v34) (Nat.lt_succ_self _) h)
         ·intro J35
          have hif := Z1g h
          refine Zs I (fun hc => ?_) (fun hc => ?_)
          ·have h := hif.1 hc
           refine Zf <| Z7 <| Z1 I (Ze (v := (.vs 0)) I I) I <| Z1 I (Ze (v := (.int .i64 v12)) I I) I <| Z1 I (Ze (v := (.vsub 0 (0 + v1.toNat) ((a0.length : Int).toNat - v1.toNat) false)) I I) I <| Z1 I (Ze (v := (.int .i64 v13)) I I) I ?_
           have ⟨hg36, h⟩ := Zz h
           have ⟨hg37, h⟩ := Zz h
           refine Z1 I (st_indexV (k := .i64) (v := (.vsub 0 (0 + v1.toNat) ((a0.length : Int).toNat - v1.toNat) false)) (n := 0) (off := (0 + v1.toNat)) (len := ((a0.length : Int).toNat - v1.toNat)) (es := (List.map Zv v14)) (j := v13) (m := ((0 + v1.toNat) + v13.toNat)) I s36 I I (vecR_sub hg36) I hg37 (I)) I ?_
           have ⟨hg38, h⟩ := Zz h
           refine Z1 I (st_loadV (l := v14) (enc := Zv) (z := []) (v := (.str (v14.getD ((0 + v1.toNat) + v13.toNat) []))) I o9 I I hg38 I) I ?_
           have ⟨hg39, h⟩ := Zz h
           refine Z1 I (st_indexV (k := .i64) (v := (.vs 0)) (n := 0) (off := 0) (len := v14.length) (es := (List.map Zv v14)) (j := v12) (m := v12.toNat) I s36 I I (vecR_map _ _ _) I hg39 (Nat.zero_add _)) I ?_
           have ⟨hg40, h⟩ := Zz h
           refine Z1 I (st_storeV (l := v14) (enc := Zv) (z := []) (a := (v14.getD ((0 + v1.toNat) + v13.toNat) [])) (v := (.str (v14.getD ((0 + v1.toNat) + v13.toNat) []))) sz9 I I hg40 I els_str I I I I) I <| Za <| Zd <| Z7 <| Z1 I (Ze (v := (.int .i64 v12)) I I) I <| Z1 I (Z1o (k := .i64) (a := v12) (b := 1) (c := (IntKind.i64.wrap (v12 + 1))) I I I I) I <| Z1 I (Zg (v := (.int .i64 (IntKind.i64.wrap (v12 + 1)))) I I) I <| Za ?_
           exact Zp (st' := ⟨[(0, (.vs 0)), (3, (.int .i64 (IntKind.i64.wrap (v12 + 1)))), (4, (.vsub 0 (0 + v1.toNat) ((a0.length : Int).toNat - v1.toNat) false)), (5, (.int .i64 v13))], [(0, (.vec 1 (List.map Zv (v14.set v12.toNat (v14.getD ((0 + v1.toNat) + v13.toNat) [])))))]⟩) ⟨rfl, rfl, rfl, rfl, trivial⟩ ⟨rfl, trivial⟩ (J35 ((IntKind.i64.wrap (v12 + 1)), (v14.set v12.toNat (v14.getD ((0 + v1.toNat) + v13.toNat) []))) h)
          ·have h := hif.2 hc
           refine Zx ?_
           exact Zp (st' := ⟨[(0, (.vs 0)), (3, (.int .i64 v12)), (4, (.vsub 0 (0 + v1.toNat) ((a0.length : Int).toNat - v1.toNat) false)), (5, (.int .i64 v13))], [(0, (.vec 1 (List.map Zv v14)))]⟩) ⟨rfl, rfl, rfl, rfl, trivial⟩ ⟨rfl, trivial⟩ (J35 (v12, v14) h)
        ·have h := hif.2 hc
         refine AWp.exit <| At.thru ?_
         exact Zp (st' := ⟨[(0, (.vs 0)), (3, (.int .i64 v12))], [(0, (.vec 1 (List.map Zv v14)))]⟩) ⟨rfl, rfl, trivial⟩ ⟨rfl, trivial⟩ (J15 (v12, v14) h)
     ·have h := hif.2 hc
      refine Zx <| At.end <| Zd <| Z7 <| Z1 I (Ze (v := (.int .i64 v1)) I I) I <| Z1 I (Z1o (k := .i64) (a := v1) (b := 1) (c := (IntKind.i64.wrap (v1 + 1))) I I I I) I <| Z1 I (Zg (v := (.int .i64 (IntKind.i64.wrap (v1 + 1)))) I I) I <| Za ?_
      exact Zp (st' := ⟨[(0, (.vs 0)), (3, (.int .i64 (IntKind.i64.wrap (v1 + 1))))], [(0, (.vec 1 (List.map Zv a0)))]⟩) ⟨rfl, rfl, trivial⟩ ⟨rfl, trivial⟩ (IH2 _ (IntKind.i64.wrap (v1 + 1)) (Nat.lt_succ_self _) h)
    ·have h := hif.2 hc
     refine AWp.exit <| At.thru ?_
     exact Zp (st' := ⟨[(0, (.vs 0))], [(0, (.vec 1 (List.map Zv a0)))]⟩) ⟨rfl, trivial⟩ ⟨rfl, trivial⟩ (J2 () h)
def F25_c5 (K : Nat) (v4 : (List Str)) : Option ((List Str)) :=
 (sortS v4).bind fun v8 =>
  (F50 K v8).bind fun v10 =>
   some v10
def F25_j13 (K : Nat) (b11 : Int → (List Str) → Option ((List Str))) (v1 : Int) (v12 : (List Str)) : Option ((List Str)) :=
 b11 (IntKind.i64.wrap (v1 + 1)) v12
def F25_j22 (K : Nat) (b11 : Int → (List Str) → Option ((List Str))) (v1 : Int) (v21 : (List Str)) : Option ((List Str)) :=
 F25_j13 K b11 v1 v21
def F25_l3 (K : Nat) (a0 : Zm) (a1 : Str) (a2 : Int) (c6 : (List Str) → Option ((List Str))) : Nat → Int → (List Str) → Option ((List Str))
 | 0, _, _ => none
 | k3 + 1, v1, v2 =>
  if (decide (v1 < (a0.Firings.length : Int))) = true then
   if (0 : Int) ≤ v1 ∧ v1 < a0.Firings.length then
    (F18 K a0.Policy (a0.Firings.getD v1.toNat Zi)).bind fun v16 =>
     if (v16 == a1) = true then
      (F21 K a0 (a0.Firings.getD v1.toNat Zi)).bind fun v18 =>
       (F31 K v18 a2).bind fun v20 =>
        if v20 = true then
         if v2.length + [(a0.Firings.getD v1.toNat Zi).Rule].length ≤ 1073741824 then
          F25_j22 K (F25_l3 K a0 a1 a2 c6 k3) v1 (v2 ++ [(a0.Firings.getD v1.toNat Zi).Rule])
         else none
        else
         F25_j22 K (F25_l3 K a0 a1 a2 c6 k3) v1 v2
     else
      F25_j13 K (F25_l3 K a0 a1 a2 c6 k3) v1 v2
   else none
  else
   c6 v2
def F25 (K : Nat) (a0 : Zm) (a1 : Str) (a2 : Int) : Option ((List Str)) :=
 F25_l3 K a0 a1 a2 (F25_c5 K) K 0 []
theorem F25_ok (K : Nat) (a0 : Zm) (a1 : Str) (a2 : Int) (r : (List Str)) (h : F25 K a0 a1 a2 = some r) : ACall P 25 ⟨[(Z6 a0), (.str a1), (.int .i64 a2)], [], (.sl 1 (r.map Zv) false), [], []⟩ := by
 refine acall_of Try.func25 Try.results25 rfl Try.ntmps25 rfl rfl rfl ?_
 intro E Q hP hN hro hret
 obtain ⟨P', nt', w0, F0, p0, S0, β0, ro0⟩ := E
 simp only at hP hN
 subst hP hN
 dsimp only [argT]
 unfold F25 at h
 refine Zf <| Z7 <| Z1 I (st_box (v := (Z6 a0)) (cs := (Z6 a0).cells) I I I I I) I <| Z1 I (Zg (v := (.sl 1 [] true)) I I) I <| Za <| Zd <| Zf <| Z7 ?_
 refine Z1 I (Zg (v := (.sl 1 [] true)) I I) I <| Za <| Zd <| Zf <| Zf <| Z7 <| Z1 I (Zu (m := 3) (o := 0) I f34_1 I I) I <| Z1 I (Z11 (cs := (Z6 a0).cells) (v := (.sl 4 (a0.Firings.map Z8) false)) I o30 I I I) I ?_
 refine Z1 I (stx_len (l := a0.Firings) (enc := Z8) I s30 I) I <| Z1 I (Ze (v := (.int .i64 0)) I I) I <| Za <| Zd <| AWp.ghost (st' := ⟨[(1, (.str a1)), (2, (.int .i64 a2)), (3, (.ptr 3 0)), (7, (.vs 7)), (11, (.sl 4 (a0.Firings.map Z8) false)), (12, (.int .i64 (a0.Firings.length : Int))), (13, (.int .i64 0))], [(3, (.box (Z6 a0).cells)), (7, (.vec 1 (List.map Zv ([] : List Str))))]⟩) (fun a w h => (Z1h ⟨[(1, (.str a1)), (2, (.int .i64 a2)), (3, (.ptr 3 0)), (7, (.vs 7)), (11, (.sl 4 (a0.Firings.map Z8) false)), (12, (.int .i64 (a0.Firings.length : Int))), (13, (.int .i64 0))], [(3, (.box (Z6 a0).cells)), (7, (.vec 1 (List.map Zv ([] : List Str))))]⟩ (ghost_own (k := 7) (m := 7) (sz := 1) I I a w (Z1h ⟨[(7, (.sl 1 [] true)), (1, (.str a1)), (2, (.int .i64 a2)), (3, (.ptr 3 0)), (11, (.sl 4 (a0.Firings.map Z8) false)), (12, (.int .i64 (a0.Firings.length : Int))), (13, (.int .i64 0))], [(3, (.box (Z6 a0).cells))]⟩ h ⟨rfl, rfl, rfl, rfl, rfl, rfl, rfl, trivial⟩ ⟨rfl, trivial⟩)) ⟨rfl, rfl, rfl, rfl, rfl, rfl, rfl, trivial⟩ ⟨rfl, rfl, trivial⟩)) <| AWp.weaken (st' := ⟨[(1, (.str a1)), (2, (.int .i64 a2)), (3, (.ptr 3 0)), (7, (.vs 7)), (11, (.sl 4 (a0.Firings.map Z8) false)), (12, (.int .i64 (a0.Firings.length : Int))), (13, (.int .i64 0))], [(3, (.box (Z6 a0).cells)), (7, (.vec 1 (List.map Zv [])))]⟩) ⟨rfl, rfl, rfl, rfl, rfl, rfl, rfl, trivial⟩ ⟨rfl, rfl, trivial⟩ ?_
 refine Z1l (V := Int × (List Str)) (X := (List Str)) (lp := fun k v => F25_l3 K a0 a1 a2 (F25_c5 K) k v.1 v.2 = some r) (sh := fun v => ⟨[(1, (.str a1)), (2, (.int .i64 a2)), (3, (.ptr 3 0)), (7, (.vs 7)), (11, (.sl 4 (a0.Firings.map Z8) false)), (12, (.int .i64 (a0.Firings.length : Int))), (13, (.int .i64 v.1))], [(3, (.box (Z6 a0).cells)), (7, (.vec 1 (List.map Zv v.2)))]⟩) (x := fun v => F25_c5 K v = some r) (shx := fun v => ⟨[(7, (.vs 7))], [(7, (.vec 1 (List.map Zv v)))]⟩) (k := K) (v := (0, [])) h ?_ ?_
 ·intro v h
  revert h
  revert v
  intro v4 h
  try dsimp only at h ⊢
  unfold F25_c5 at h
  refine Zd <| Zf <| Z7 <| Z1 I (Ze (v := (.vs 7)) I I) I ?_
  have ⟨v8, hv8, h⟩ := Z17 h
  refine Z1 I (st_call (d := some 37) (c := ⟨[(.vs 7)], [(7, (.vec 1 (List.map Zv v4)))], .tup [], [(7, .vec 1 (List.map Zv v8))], []⟩) (ar := [(.vs 7)]) (caps := []) (news := []) (forg := []) Try.call49 (sortS_ok (n := 7) (enc := Zv) (l := v4) sortC49 (fun _ => I) hv8) I I ⟨rfl, trivial⟩ I ⟨rfl, trivial⟩ I) I <| Za <| Zd <| Zf <| Z7 <| Z1 I (Ze (v := (.vs 7)) I I) I ?_
  have ⟨v10, hv10, h⟩ := Z17 h
  refine Z1 I (st_call (d := some 39) (c := ⟨[(.vs 7)] ++ [], [(7, (.vec 1 (List.map Zv v8)))], .vs 7, [(7, .vec 1 (List.map Zv v10))], [7]⟩) (ar := [(.vs 7)]) (caps := []) (news := []) (forg := [7]) Try.call50 ((F50_ok K v8 v10 hv10).sw 0 7) I I ⟨rfl, trivial⟩ I ⟨rfl, trivial⟩ I) I <| Z1 I (Zg (v := (.vs 7)) I I) I <| Za <| Zd <| Z18 <| At.ghost (st' := ⟨[(6, (.sl 1 (v10.map Zv) false))], []⟩) (fun a w h => (Z1h ⟨[(6, (.sl 1 (v10.map Zv) false))], []⟩ (ghost_freeze (m := 7) (sz := 1) (es := (List.map Zv v10)) a w (Z1h ⟨[(6, (.vs 7))], [(7, (.vec 1 (List.map Zv v10)))]⟩ h ⟨rfl, trivial⟩ ⟨rfl, trivial⟩)) ⟨rfl, trivial⟩ trivial)) ?_
  have h := Option.some.inj h
  subst h
  refine (hret _ ?_).1
  exact ⟨[(.sl 1 (v10.map Zv) false)], ⟨rfl, trivial⟩, rfl, trivial⟩
 ·intro N k3 v h IH3 J3
  obtain ⟨v1, v2⟩ := v
  try dsimp only at h IH3 J3 ⊢
  cases k3 with
  | zero => cases h
  | succ k3 =>
   rw [F25_l3] at h
   refine Zf <| Z7 <| Z1 I (Z1f (k := .i64) (a := v1) (b := (a0.Firings.length : Int)) (c := (decide (v1 < (a0.Firings.length : Int)))) I I I I) I <| Za <| Zd <| Zf ?_
   have hif := Z1g h
   refine Zs I (fun hc => ?_) (fun hc => ?_)
   ·have h := hif.1 hc
    refine Zx <| Zd <| Zf ?_
    refine AWp.blockJoin (V := (List Str)) (lp := fun v => F25_j13 K (F25_l3 K a0 a1 a2 (F25_c5 K) k3) v1 v = some r) (sh := fun v => ⟨[(1, (.str a1)), (2, (.int .i64 a2)), (3, (.ptr 3 0)), (7, (.vs 7)), (11, (.sl 4 (a0.Firings.map Z8) false)), (12, (.int .i64 (a0.Firings.length : Int))), (13, (.int .i64 v1))], [(3, (.box (Z6 a0).cells)), (7, (.vec 1 (List.map Zv v)))]⟩) ?_ ?_
    ·intro v h
     revert h
     revert v
     intro v12 h
     try dsimp only at h ⊢
     unfold F25_j13 at h
     refine Zd <| Z7 <| Z1 I (Z1o (k := .i64) (a := v1) (b := 1) (c := (IntKind.i64.wrap (v1 + 1))) I I I I) I <| Z1 I (Ze (v := (.int .i64 (IntKind.i64.wrap (v1 + 1)))) I I) I <| Za ?_
     exact Zp (st' := ⟨[(1, (.str a1)), (2, (.int .i64 a2)), (3, (.ptr 3 0)), (7, (.vs 7)), (11, (.sl 4 (a0.Firings.map Z8) false)), (12, (.int .i64 (a0.Firings.length : Int))), (13, (.int .i64 (IntKind.i64.wrap (v1 + 1))))], [(3, (.box (Z6 a0).cells)), (7, (.vec 1 (List.map Zv v12)))]⟩) ⟨rfl, rfl, rfl, rfl, rfl, rfl, rfl, trivial⟩ ⟨rfl, rfl, trivial⟩ (IH3 _ ((IntKind.i64.wrap (v1 + 1)), v12) (Nat.lt_succ_self _) h)
    ·intro J13
     refine Zf <| Z7 ?_
     have ⟨hg14, h⟩ := Zz h
     refine Z1 I (st_index (k := .i64) (l := a0.Firings) (enc := Z8) (z := Zi) (n := v1) (cs := (Z8 (a0.Firings.getD v1.toNat Zi)).cells) (full := false) I s30 I I hg14 I) I <| Z1 I (st_loadIA (cs := (Z8 (a0.Firings.getD v1.toNat Zi)).cells) (vs := (Z8 (a0.Firings.getD v1.toNat Zi)).cells) I a42 I I I) I <| Z1 I (st_alloc (cs := [(.str []), (.str []), (.int .i64 0), (.int .i64 0)]) I z42 I I I) I <| Z1 I (Z1k (cs := [(.str []), (.str []), (.int .i64 0), (.int .i64 0)]) (vs := (Z8 (a0.Firings.getD v1.toNat Zi)).cells) (ds := (Z8 (a0.Firings.getD v1.toNat Zi)).cells) (v := (Z8 (a0.Firings.getD v1.toNat Zi))) sz42 I I I I I I I I) I <| Za <| Zd <| Zf <| Z7 ?_
     refine Z1 I (Zu (m := 3) (o := 0) I f34_0 I I) I <| Z1 I (Z1p (cs := (Z6 a0).cells) (vs := (Z13 a0.Policy).cells) I a29 I I I I) I <| Z1 I (Z1p (cs := (Z8 (a0.Firings.getD v1.toNat Zi)).cells) (vs := (Z8 (a0.Firings.getD v1.toNat Zi)).cells) I a42 I I I I) I ?_
     have ⟨v16, hv16, h⟩ := Z17 h
     refine Z1 I (Z1b (ar := [(Z13 a0.Policy), (Z8 (a0.Firings.getD v1.toNat Zi))]) (caps := []) Try.call18 (F18_ok K a0.Policy (a0.Firings.getD v1.toNat Zi) v16 hv16) I I ⟨rfl, rfl, trivial⟩ I) I <| Z1 I (Ze (v := (.str a1)) I I) I <| Z1 I (st_cmpS (a := v16) (b := a1) (c := (v16 == a1)) I I I I) I <| Z1 I (Ze (v := (.bool (v16 == a1))) I I) I ?_
     have hif := Z1g h
     refine Z15 (fun hc => ?_) (fun hc => ?_)
     ·have h := hif.1 hc
      refine Zh I I I I (Z1p (cs := (Z6 a0).cells) (vs := (Z6 a0).cells) I a34 I I I I) I <| Zh I I I I (Z1p (cs := (Z8 (a0.Firings.getD v1.toNat Zi)).cells) (vs := (Z8 (a0.Firings.getD v1.toNat Zi)).cells) I a42 I I I I) I ?_
      have ⟨v18, hv18, h⟩ := Z17 h
      refine Zh I I I I (Z1b (ar := [(Z6 a0), (Z8 (a0.Firings.getD v1.toNat Zi))]) (caps := []) Try.call21 (F21_ok K a0 (a0.Firings.getD v1.toNat Zi) v18 hv18) I I ⟨rfl, rfl, trivial⟩ I) I <| Zh I I I I (Ze (v := (.int .i64 a2)) I I) I ?_
      have ⟨v20, hv20, h⟩ := Z17 h
      refine Zh I I I I (Z1b (ar := [(.sl 2 (v18.map Z2) false), (.int .i64 a2)]) (caps := []) Try.call31 (F31_ok K v18 a2 v20 hv20) I I ⟨rfl, rfl, trivial⟩ I) I <| Z1 I (Z1d (v := (.bool v20)) I I I) I <| Za <| Zd ?_
      refine AWp.join (V := (List Str)) (lp := fun v => F25_j22 K (F25_l3 K a0 a1 a2 (F25_c5 K) k3) v1 v = some r) (sh := fun v => ⟨[(1, (.str a1)), (2, (.int .i64 a2)), (3, (.ptr 3 0)), (7, (.vs 7)), (11, (.sl 4 (a0.Firings.map Z8) false)), (12, (.int .i64 (a0.Firings.length : Int))), (13, (.int .i64 v1))], [(3, (.box (Z6 a0).cells)), (7, (.vec 1 (List.map Zv v)))]⟩) ?_ ?_
      ·intro v h
       revert h
       revert v
       intro v21 h
       try dsimp only at h ⊢
       unfold F25_j22 at h
       refine At.end ?_
       exact Zp (st' := ⟨[(1, (.str a1)), (2, (.int .i64 a2)), (3, (.ptr 3 0)), (7, (.vs 7)), (11, (.sl 4 (a0.Firings.map Z8) false)), (12, (.int .i64 (a0.Firings.length : Int))), (13, (.int .i64 v1))], [(3, (.box (Z6 a0).cells)), (7, (.vec 1 (List.map Zv v21)))]⟩) ⟨rfl, rfl, rfl, rfl, rfl, rfl, rfl, trivial⟩ ⟨rfl, rfl, trivial⟩ (J13 v21 h)
      ·intro J22
       have hif := Z1g h
       refine Zs I (fun hc => ?_) (fun hc => ?_)
       ·have h := hif.1 hc
        refine Z7 <| Z1 I (Ze (v := (.vs 7)) I I) I <| Z1 I (Zu (m := 9) (o := 0) I f42_0 I I) I <| Z1 I (Z11 (cs := (Z8 (a0.Firings.getD v1.toNat Zi)).cells) (v := (.str (a0.Firings.getD v1.toNat Zi).Rule)) I o9 I I I) I <| Z1 I (Z1n (vs := [(.str (a0.Firings.getD v1.toNat Zi).Rule)]) (enc := Zv) (l := [(a0.Firings.getD v1.toNat Zi).Rule]) I el36 I I ⟨rfl, trivial⟩ I els_str I I I I) I ?_
        have ⟨hg23, h⟩ := Zz h
        refine Z1 I (st_append (m := 7) (enc := Zv) (l := v2) (l' := [(a0.Firings.getD v1.toNat Zi).Rule]) (src := (.vs 33)) (rd := [(33, (.vec 1 (List.map Zv [(a0.Firings.getD v1.toNat Zi).Rule])))]) I I el36 I u36 I I I I (oneRead I) els_str hg23) I <| Z1 I (Zg (v := (.vs 7)) I I) I <| Za ?_
        exact Zp (st' := ⟨[(1, (.str a1)), (2, (.int .i64 a2)), (3, (.ptr 3 0)), (7, (.vs 7)), (11, (.sl 4 (a0.Firings.map Z8) false)), (12, (.int .i64 (a0.Firings.length : Int))), (13, (.int .i64 v1))], [(3, (.box (Z6 a0).cells)), (7, (.vec 1 (List.map Zv (v2 ++ [(a0.Firings.getD v1.toNat Zi).Rule]))))]⟩) ⟨rfl, rfl, rfl, rfl, rfl, rfl, rfl, trivial⟩ ⟨rfl, rfl, trivial⟩ (J22 (v2 ++ [(a0.Firings.getD v1.toNat Zi).Rule]) h)
       ·have h := hif.2 hc
        refine Zx ?_
        exact Zp (st' := ⟨[(1, (.str a1)), (2, (.int .i64 a2)), (3, (.ptr 3 0)), (7, (.vs 7)), (11, (.sl 4 (a0.Firings.map Z8) false)), (12, (.int .i64 (a0.Firings.length : Int))), (13, (.int .i64 v1))], [(3, (.box (Z6 a0).cells)), (7, (.vec 1 (List.map Zv v2)))]⟩) ⟨rfl, rfl, rfl, rfl, rfl, rfl, rfl, trivial⟩ ⟨rfl, rfl, trivial⟩ (J22 v2 h)
     ·have h := hif.2 hc
      refine Z5 I I I I I I I <| Z5 I I I I I I I <| Z5 I I I I I I I <| Z5 I I I I I I I <| Z5 I I I I I I I <| Z1 I (Z10 (v := (.bool false)) I I I) I <| Za <| Zd ?_
      refine Zs (b := false) I (fun hc => ?_) (fun hc => ?_)
      ·cases hc
      refine Zx <| At.end ?_
      exact Zp (st' := ⟨[(1, (.str a1)), (2, (.int .i64 a2)), (3, (.ptr 3 0)), (7, (.vs 7)), (11, (.sl 4 (a0.Firings.map Z8) false)), (12, (.int .i64 (a0.Firings.length : Int))), (13, (.int .i64 v1))], [(3, (.box (Z6 a0).cells)), (7, (.vec 1 (List.map Zv v2)))]⟩) ⟨rfl, rfl, rfl, rfl, rfl, rfl, rfl, trivial⟩ ⟨rfl, rfl, trivial⟩ (J13 v2 h)
   ·have h := hif.2 hc
    refine AWp.exit <| At.thru ?_
    exact Zp (st' := ⟨[(7, (.vs 7))], [(7, (.vec 1 (List.map Zv v2)))]⟩) ⟨rfl, trivial⟩ ⟨rfl, trivial⟩ (J3 v2 h)
end Go.AM.Noti
