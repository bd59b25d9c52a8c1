/- What these functions compute, each with its walk: F78, F51, F50, F52, F15, F53, F85, F104, F128, F102, F105, F130, F106, F107, F133, F132, F131, F108, F109, F86, F84, F87, F83, F72, F58, F74, F110, F111, F88, F73, F44, F55, F57, F19. -/
import Derived.Test.YtgikdjgdjogdmaaMsgT
namespace Go.AM.Msg
open Go Go.AM Go.Proofs
set_option maxRecDepth 100000
set_option maxHeartbeats 2000000
/-! 78: cmp.isNaN[int] -/
def F78 (K : Nat) (a0 : Int) : Option (Bool) :=
  some (a0 != a0)
theorem F78_ok (K : Nat) (a0 : Int) (r : Bool) (h : F78 K a0 = some r) : ACall P 78 ⟨[(.int .i64 a0)], [], (.bool r), [], []⟩ := by
  refine acall_of Try.func78 Try.results78 rfl Try.ntmps78 rfl rfl rfl ?_
  intro E Q hP hN hro hret
  obtain ⟨P', nt', w0, F0, p0, S0, β0, ro0⟩ := E
  simp only at hP hN
  subst hP hN
  dsimp only [argT]
  unfold F78 at h
  refine AWp.seq ?_
  refine AWp.region ?_
  refine AOps.cons rfl (st_assign (v := (.bool false)) rfl rfl) rfl ?_
  refine AOps.nil ?_
  refine At.next ?_
  refine AWp.seq ?_
  refine AWp.region ?_
  refine AOps.cons rfl (st_move (v := (.int .i64 a0)) rfl rfl) rfl ?_
  refine AOps.cons rfl (st_move (v := (.int .i64 a0)) rfl rfl) rfl ?_
  refine AOps.cons rfl (st_cmp (k := .i64) (a := a0) (b := a0) (c := (a0 != a0)) rfl rfl rfl rfl) rfl ?_
  refine AOps.cons rfl (st_assign (v := (.bool (a0 != a0))) rfl rfl) rfl ?_
  refine AOps.nil ?_
  refine At.next ?_
  refine AWp.ret ?_
  have h := Option.some.inj h
  subst h
  refine (hret _ ?_).1
  exact ⟨[(.bool (a0 != a0))], ⟨rfl, trivial⟩, rfl, trivial⟩

/-! 51: cmp.Compare[int] -/
def F51 (K : Nat) (a0 : Int) (a1 : Int) : Option (Int) :=
  (F78 K a0).bind fun v2 =>
    (F78 K a1).bind fun v4 =>
      if v2 = true then
        if v4 = true then
          some 0
        else
          some (Int.negSucc 0)
      else
        if v4 = true then
          some 1
        else
          if (decide (a0 < a1)) = true then
            some (Int.negSucc 0)
          else
            if (decide (a0 > a1)) = true then
              some 1
            else
              some 0
theorem F51_ok (K : Nat) (a0 : Int) (a1 : Int) (r : Int) (h : F51 K a0 a1 = some r) : ACall P 51 ⟨[(.int .i64 a0), (.int .i64 a1)], [], (.int .i64 r), [], []⟩ := by
  refine acall_of Try.func51 Try.results51 rfl Try.ntmps51 rfl rfl rfl ?_
  intro E Q hP hN hro hret
  obtain ⟨P', nt', w0, F0, p0, S0, β0, ro0⟩ := E
  simp only at hP hN
  subst hP hN
  dsimp only [argT]
  unfold F51 at h
  refine AWp.seq ?_
  refine AWp.region ?_
  refine AOps.cons rfl (st_assign (v := (.int .i64 0)) rfl rfl) rfl ?_
  refine AOps.nil ?_
  refine At.next ?_
  refine AWp.seq ?_
  refine AWp.region ?_
  refine AOps.cons rfl (st_move (v := (.int .i64 a0)) rfl rfl) rfl ?_
  have ⟨v2, hv2, h⟩ := of_bind h
  refine AOps.cons rfl (st_call0 (ar := [(.int .i64 a0)]) (caps := []) Try.call78 (F78_ok K a0 v2 hv2) rfl rfl ⟨rfl, trivial⟩ rfl) rfl ?_
  refine AOps.cons rfl (st_assign (v := (.bool v2)) rfl rfl) rfl ?_
  refine AOps.nil ?_
  refine At.next ?_
  refine AWp.seq ?_
  refine AWp.region ?_
  refine AOps.cons rfl (st_move (v := (.int .i64 a1)) rfl rfl) rfl ?_
  have ⟨v4, hv4, h⟩ := of_bind h
  refine AOps.cons rfl (st_call0 (ar := [(.int .i64 a1)]) (caps := []) Try.call78 (F78_ok K a1 v4 hv4) rfl rfl ⟨rfl, trivial⟩ rfl) rfl ?_
  refine AOps.cons rfl (st_assign (v := (.bool v4)) rfl rfl) rfl ?_
  refine AOps.nil ?_
  refine At.next ?_
  refine AWp.seq ?_
  refine AWp.seq ?_
  refine AWp.region ?_
  refine AOps.cons rfl (st_move (v := (.bool v2)) rfl rfl) rfl ?_
  refine AOps.nil ?_
  refine At.next ?_
  have hif := of_if h
  refine AWp.cond rfl (fun hc => ?_) (fun hc => ?_)
  · have h := hif.1 hc
    refine AWp.seq ?_
    refine AWp.seq ?_
    refine AWp.region ?_
    refine AOps.cons rfl (st_move (v := (.bool v4)) rfl rfl) rfl ?_
    refine AOps.nil ?_
    refine At.next ?_
    have hif := of_if h
    refine AWp.cond rfl (fun hc => ?_) (fun hc => ?_)
    · have h := hif.1 hc
      refine AWp.seq ?_
      refine AWp.region ?_
      refine AOps.cons rfl (st_assign (v := (.int .i64 0)) rfl rfl) rfl ?_
      refine AOps.nil ?_
      refine At.next ?_
      refine AWp.ret ?_
      refine At.thruR ?_
      refine At.thruR ?_
      have h := Option.some.inj h
      subst h
      refine (hret _ ?_).1
      exact ⟨[(.int .i64 0)], ⟨rfl, trivial⟩, rfl, trivial⟩
    · have h := hif.2 hc
      refine AWp.skip ?_
      refine At.next ?_
      refine AWp.seq ?_
      refine AWp.region ?_
      refine AOps.cons rfl (st_assign (v := (.int .i64 (Int.negSucc 0))) rfl rfl) rfl ?_
      refine AOps.nil ?_
      refine At.next ?_
      refine AWp.ret ?_
      refine At.thruR ?_
      have h := Option.some.inj h
      subst h
      refine (hret _ ?_).1
      exact ⟨[(.int .i64 (Int.negSucc 0))], ⟨rfl, trivial⟩, rfl, trivial⟩
  · have h := hif.2 hc
    refine AWp.skip ?_
    refine At.next ?_
    refine AWp.seq ?_
    refine AWp.seq ?_
    refine AWp.region ?_
    refine AOps.cons rfl (st_move (v := (.bool v4)) rfl rfl) rfl ?_
    refine AOps.nil ?_
    refine At.next ?_
    have hif := of_if h
    refine AWp.cond rfl (fun hc => ?_) (fun hc => ?_)
    · have h := hif.1 hc
      refine AWp.seq ?_
      refine AWp.region ?_
      refine AOps.cons rfl (st_assign (v := (.int .i64 1)) rfl rfl) rfl ?_
      refine AOps.nil ?_
      refine At.next ?_
      refine AWp.ret ?_
      refine At.thruR ?_
      have h := Option.some.inj h
      subst h
      refine (hret _ ?_).1
      exact ⟨[(.int .i64 1)], ⟨rfl, trivial⟩, rfl, trivial⟩
    · have h := hif.2 hc
      refine AWp.skip ?_
      refine At.next ?_
      refine AWp.seq ?_
      refine AWp.seq ?_
      refine AWp.region ?_
      refine AOps.cons rfl (st_move (v := (.int .i64 a0)) rfl rfl) rfl ?_
      refine AOps.cons rfl (st_move (v := (.int .i64 a1)) rfl rfl) rfl ?_
      refine AOps.cons rfl (st_cmp (k := .i64) (a := a0) (b := a1) (c := (decide (a0 < a1))) rfl rfl rfl rfl) rfl ?_
      refine AOps.nil ?_
      refine At.next ?_
      have hif := of_if h
      refine AWp.cond rfl (fun hc => ?_) (fun hc => ?_)
      · have h := hif.1 hc
        refine AWp.seq ?_
        refine AWp.region ?_
        refine AOps.cons rfl (st_assign (v := (.int .i64 (Int.negSucc 0))) rfl rfl) rfl ?_
        refine AOps.nil ?_
        refine At.next ?_
        refine AWp.ret ?_
        refine At.thruR ?_
        have h := Option.some.inj h
        subst h
        refine (hret _ ?_).1
        exact ⟨[(.int .i64 (Int.negSucc 0))], ⟨rfl, trivial⟩, rfl, trivial⟩
      · have h := hif.2 hc
        refine AWp.skip ?_
        refine At.next ?_
        refine AWp.seq ?_
        refine AWp.seq ?_
        refine AWp.region ?_
        refine AOps.cons rfl (st_move (v := (.int .i64 a0)) rfl rfl) rfl ?_
        refine AOps.cons rfl (st_move (v := (.int .i64 a1)) rfl rfl) rfl ?_
        refine AOps.cons rfl (st_cmp (k := .i64) (a := a0) (b := a1) (c := (decide (a0 > a1))) rfl rfl rfl rfl) rfl ?_
        refine AOps.nil ?_
        refine At.next ?_
        have hif := of_if h
        refine AWp.cond rfl (fun hc => ?_) (fun hc => ?_)
        · have h := hif.1 hc
          refine AWp.seq ?_
          refine AWp.region ?_
          refine AOps.cons rfl (st_assign (v := (.int .i64 1)) rfl rfl) rfl ?_
          refine AOps.nil ?_
          refine At.next ?_
          refine AWp.ret ?_
          refine At.thruR ?_
          have h := Option.some.inj h
          subst h
          refine (hret _ ?_).1
          exact ⟨[(.int .i64 1)], ⟨rfl, trivial⟩, rfl, trivial⟩
        · have h := hif.2 hc
          refine AWp.skip ?_
          refine At.next ?_
          refine AWp.seq ?_
          refine AWp.region ?_
          refine AOps.cons rfl (st_assign (v := (.int .i64 0)) rfl rfl) rfl ?_
          refine AOps.nil ?_
          refine At.next ?_
          refine AWp.ret ?_
          have h := Option.some.inj h
          subst h
          refine (hret _ ?_).1
          exact ⟨[(.int .i64 0)], ⟨rfl, trivial⟩, rfl, trivial⟩

/-! 50: cmp.Or[int] -/
def F50_c3 (K : Nat) : Option (Int) :=
  some 0
def F50_l2 (K : Nat) (a0 : (List Int)) (c4 : Option (Int)) : Nat → Int → Option (Int)
  | 0, _ => none
  | k2 + 1, v1 =>
    if (decide (v1 < (a0.length : Int))) = true then
      if (0 : Int) ≤ v1 ∧ v1 < a0.length then
        if ((a0.getD v1.toNat 0) != 0) = true then
          some (a0.getD v1.toNat 0)
        else
          (F50_l2 K a0 c4 k2) (IntKind.i64.wrap (v1 + 1))
      else none
    else
      c4
def F50 (K : Nat) (a0 : (List Int)) : Option (Int) :=
  F50_l2 K a0 (F50_c3 K) K 0
theorem F50_ok (K : Nat) (a0 : (List Int)) (r : Int) (h : F50 K a0 = some r) : ACall P 50 ⟨[(.sl 1 (a0.map e_i64) false)], [], (.int .i64 r), [], []⟩ := by
  refine acall_of Try.func50 Try.results50 rfl Try.ntmps50 rfl rfl rfl ?_
  intro E Q hP hN hro hret
  obtain ⟨P', nt', w0, F0, p0, S0, β0, ro0⟩ := E
  simp only at hP hN
  subst hP hN
  dsimp only [argT]
  unfold F50 at h
  refine AWp.seq ?_
  refine AWp.region ?_
  refine AOps.cons rfl (st_assign (v := (.int .i64 0)) rfl rfl) rfl ?_
  refine AOps.nil ?_
  refine At.next ?_
  refine AWp.seq ?_
  refine AWp.region ?_
  refine AOps.cons rfl (st_assign (v := (.int .i64 0)) rfl rfl) rfl ?_
  refine AOps.nil ?_
  refine At.next ?_
  refine AWp.seq ?_
  refine AWp.seq ?_
  refine AWp.region ?_
  refine AOps.cons rfl (st_move (v := (.sl 1 (a0.map e_i64) false)) rfl rfl) rfl ?_
  refine AOps.cons rfl (stx_len (l := a0) (enc := e_i64) rfl s87 rfl) rfl ?_
  refine AOps.cons rfl (st_move (v := (.int .i64 0)) rfl rfl) rfl ?_
  refine AOps.nil ?_
  refine At.next ?_
  refine AWp.weaken (st' := ⟨[(3, (.int .i64 0)), (6, (.sl 1 (a0.map e_i64) false)), (7, (.int .i64 (a0.length : Int))), (8, (.int .i64 0))], []⟩) ⟨rfl, rfl, rfl, rfl, trivial⟩ trivial ?_
  refine AWp.loopBlock (V := Int) (X := Unit) (lp := fun k v => F50_l2 K a0 (F50_c3 K) k v = some r) (sh := fun v => ⟨[(3, (.int .i64 0)), (6, (.sl 1 (a0.map e_i64) false)), (7, (.int .i64 (a0.length : Int))), (8, (.int .i64 v))], []⟩) (x := fun v => F50_c3 K = some r) (shx := fun v => ⟨[(3, (.int .i64 0))], []⟩) (k := K) (v := 0) h ?_ ?_
  · intro v h
    try dsimp only at h ⊢
    unfold F50_c3 at h
    refine At.next ?_
    refine AWp.seq ?_
    refine AWp.region ?_
    refine AOps.cons rfl (st_move (v := (.int .i64 0)) rfl rfl) rfl ?_
    refine AOps.cons rfl (st_assign (v := (.int .i64 0)) rfl rfl) rfl ?_
    refine AOps.nil ?_
    refine At.next ?_
    refine AWp.ret ?_
    have h := Option.some.inj h
    subst h
    refine (hret _ ?_).1
    exact ⟨[(.int .i64 0)], ⟨rfl, trivial⟩, rfl, trivial⟩
  · intro N k2 v h IH2 J2
    revert h
    revert v
    intro v1 h
    try dsimp only at h IH2 J2 ⊢
    cases k2 with
    | zero => cases h
    | succ k2 =>
      rw [F50_l2] at h
      refine AWp.seq ?_
      refine AWp.region ?_
      refine AOps.cons rfl (st_cmp (k := .i64) (a := v1) (b := (a0.length : Int)) (c := (decide (v1 < (a0.length : Int)))) rfl rfl rfl rfl) rfl ?_
      refine AOps.nil ?_
      refine At.next ?_
      refine AWp.seq ?_
      have hif := of_if h
      refine AWp.cond rfl (fun hc => ?_) (fun hc => ?_)
      · have h := hif.1 hc
        refine AWp.skip ?_
        refine At.next ?_
        refine AWp.seq ?_
        refine AWp.block ?_
        refine AWp.seq ?_
        refine AWp.region ?_
        have ⟨hg6, h⟩ := of_guard h
        refine AOps.cons rfl (st_index (k := .i64) (l := a0) (enc := e_i64) (z := 0) (n := v1) (cs := [(.int .i64 (a0.getD v1.toNat 0))]) (full := false) rfl s87 rfl rfl hg6 rfl) rfl ?_
        refine AOps.cons rfl (st_loadI (cs := [(.int .i64 (a0.getD v1.toNat 0))]) (v := (.int .i64 (a0.getD v1.toNat 0))) rfl o3 rfl rfl) rfl ?_
        refine AOps.cons rfl (st_assign (v := (.int .i64 (a0.getD v1.toNat 0))) rfl rfl) rfl ?_
        refine AOps.nil ?_
        refine At.next ?_
        refine AWp.seq ?_
        refine AWp.region ?_
        refine AOps.cons rfl (st_move (v := (.int .i64 (a0.getD v1.toNat 0))) rfl rfl) rfl ?_
        refine AOps.cons rfl (st_move (v := (.int .i64 0)) rfl rfl) rfl ?_
        refine AOps.cons rfl (st_cmp (k := .i64) (a := (a0.getD v1.toNat 0)) (b := 0) (c := ((a0.getD v1.toNat 0) != 0)) rfl rfl rfl rfl) rfl ?_
        refine AOps.nil ?_
        refine At.next ?_
        have hif := of_if h
        refine AWp.cond rfl (fun hc => ?_) (fun hc => ?_)
        · have h := hif.1 hc
          refine AWp.seq ?_
          refine AWp.region ?_
          refine AOps.cons rfl (st_move (v := (.int .i64 (a0.getD v1.toNat 0))) rfl rfl) rfl ?_
          refine AOps.cons rfl (st_assign (v := (.int .i64 (a0.getD v1.toNat 0))) rfl rfl) rfl ?_
          refine AOps.nil ?_
          refine At.next ?_
          refine AWp.ret ?_
          refine At.overR ?_
          refine At.thruR ?_
          refine At.thruR (At.overR ?_)
          refine At.thruR ?_
          have h := Option.some.inj h
          subst h
          refine (hret _ ?_).1
          exact ⟨[(.int .i64 (a0.getD v1.toNat 0))], ⟨rfl, trivial⟩, rfl, trivial⟩
        · have h := hif.2 hc
          refine AWp.skip ?_
          refine At.end ?_
          refine At.next ?_
          refine AWp.region ?_
          refine AOps.cons rfl (st_arith (k := .i64) (a := v1) (b := 1) (c := (IntKind.i64.wrap (v1 + 1))) rfl rfl rfl rfl) rfl ?_
          refine AOps.cons rfl (st_move (v := (.int .i64 (IntKind.i64.wrap (v1 + 1)))) rfl rfl) rfl ?_
          refine AOps.nil ?_
          exact At.weaken (st' := ⟨[(3, (.int .i64 0)), (6, (.sl 1 (a0.map e_i64) false)), (7, (.int .i64 (a0.length : Int))), (8, (.int .i64 (IntKind.i64.wrap (v1 + 1))))], []⟩) ⟨rfl, rfl, rfl, rfl, trivial⟩ trivial (IH2 _ (IntKind.i64.wrap (v1 + 1)) (Nat.lt_succ_self _) h)
      · have h := hif.2 hc
        refine AWp.exit ?_
        refine At.thru ?_
        exact At.weaken (st' := ⟨[(3, (.int .i64 0))], []⟩) ⟨rfl, trivial⟩ trivial (J2 () h)

/-! 52: sleuth/span.CompareRefs -/
def F52 (K : Nat) (a0 : Tapi_Ref) (a1 : Tapi_Ref) : Option (Int) :=
  (F51 K a0.Trace a1.Trace).bind fun v2 =>
    (F51 K a0.Id a1.Id).bind fun v4 =>
      (F50 K [v2, v4]).bind fun v6 =>
        some v6
theorem F52_ok (K : Nat) (a0 : Tapi_Ref) (a1 : Tapi_Ref) (r : Int) (h : F52 K a0 a1 = some r) : ACall P 52 ⟨[(e_Tapi_Ref a0), (e_Tapi_Ref a1)], [], (.int .i64 r), [], []⟩ := by
  refine acall_of Try.func52 Try.results52 rfl Try.ntmps52 rfl rfl rfl ?_
  intro E Q hP hN hro hret
  obtain ⟨P', nt', w0, F0, p0, S0, β0, ro0⟩ := E
  simp only at hP hN
  subst hP hN
  dsimp only [argT]
  unfold F52 at h
  refine AWp.seq ?_
  refine AWp.region ?_
  refine AOps.cons rfl (st_box (v := (e_Tapi_Ref a0)) (cs := (e_Tapi_Ref a0).cells) rfl rfl rfl rfl rfl) rfl ?_
  refine AOps.cons rfl (st_box (v := (e_Tapi_Ref a1)) (cs := (e_Tapi_Ref a1).cells) rfl rfl rfl rfl rfl) rfl ?_
  refine AOps.cons rfl (st_assign (v := (.int .i64 0)) rfl rfl) rfl ?_
  refine AOps.nil ?_
  refine At.next ?_
  refine AWp.seq ?_
  refine AWp.regionD mixed ?_
  refine AOpsD.cons 0 rfl (st_fieldP (m := 2) (o := 0) rfl f23_0 rfl rfl) ?_
  refine AOpsD.cons 1 rfl (st_loadP (cs := (e_Tapi_Ref a0).cells) (v := (.int .i64 a0.Trace)) rfl o3 rfl rfl rfl) ?_
  refine AOpsD.cons 2 rfl (st_fieldP (m := 3) (o := 0) rfl f23_0 rfl rfl) ?_
  refine AOpsD.cons 3 rfl (st_loadP (cs := (e_Tapi_Ref a1).cells) (v := (.int .i64 a1.Trace)) rfl o3 rfl rfl rfl) ?_
  have ⟨v2, hv2, h⟩ := of_bind h
  refine AOpsD.cons 4 rfl (st_call0 (ar := [(.int .i64 a0.Trace), (.int .i64 a1.Trace)]) (caps := []) Try.call51 (F51_ok K a0.Trace a1.Trace v2 hv2) rfl rfl ⟨rfl, rfl, trivial⟩ rfl) ?_
  refine AOpsD.cons 5 rfl (st_fieldP (m := 2) (o := 0) rfl f23_1 rfl rfl) ?_
  refine AOpsD.cons 6 rfl (st_loadP (cs := (e_Tapi_Ref a0).cells) (v := (.int .i64 a0.Id)) rfl o3 rfl rfl rfl) ?_
  refine AOpsD.cons 7 rfl (st_fieldP (m := 3) (o := 0) rfl f23_1 rfl rfl) ?_
  refine AOpsD.cons 8 rfl (st_loadP (cs := (e_Tapi_Ref a1).cells) (v := (.int .i64 a1.Id)) rfl o3 rfl rfl rfl) ?_
  have ⟨v4, hv4, h⟩ := of_bind h
  refine AOpsD.cons 9 rfl (st_call0 (ar := [(.int .i64 a0.Id), (.int .i64 a1.Id)]) (caps := []) Try.call51 (F51_ok K a0.Id a1.Id v4 hv4) rfl rfl ⟨rfl, rfl, trivial⟩ rfl) ?_
  refine AOpsD.cons 10 rfl (stx_buildSlice (vs := [(.int .i64 v2), (.int .i64 v4)]) (enc := e_i64) (l := [v2, v4]) rfl el87 rfl rfl ⟨rfl, rfl, trivial⟩ rfl els_i64 rfl rfl rfl rfl) ?_
  have ⟨v6, hv6, h⟩ := of_bind h
  refine AOpsD.cons 11 rfl (st_callB (rd := [(15, (.vec 1 (List.map e_i64 [v2, v4])))]) (ar := [(.vs 15)]) (caps := []) Try.call50 (F50_ok K [v2, v4] v6 hv6) rfl rfl ⟨rfl, trivial⟩ (subS_mem ⟨rfl, trivial⟩) rfl rfl rfl) ?_
  refine AOpsD.cons 12 rfl (st_assign (v := (.int .i64 v6)) rfl rfl) ?_
  refine AOpsD.nil (by kernel_rfl) rfl ?_
  refine At.next ?_
  refine AWp.ret ?_
  have h := Option.some.inj h
  subst h
  refine (hret _ ?_).1
  exact ⟨[(.int .i64 v6)], ⟨rfl, trivial⟩, rfl, trivial⟩

/-! 15: sleuth/message.Compare -/
def F15 (K : Nat) (a0 : Tapi_Message) (a1 : Tapi_Message) : Option (Int) :=
  (F51 K a0.Kind a1.Kind).bind fun v2 =>
    (F52 K a0.A a1.A).bind fun v4 =>
      (F52 K a0.B a1.B).bind fun v6 =>
        (F51 K a0.From a1.From).bind fun v8 =>
          (F51 K a0.To a1.To).bind fun v10 =>
            (F51 K a0.Sent a1.Sent).bind fun v12 =>
              (F51 K a0.Received a1.Received).bind fun v14 =>
                (F51 K a0.Least a1.Least).bind fun v16 =>
                  (F50 K [v2, v4, v6, v8, v10, v12, v14, v16]).bind fun v18 =>
                    some v18
theorem F15_ok (K : Nat) (a0 : Tapi_Message) (a1 : Tapi_Message) (r : Int) (h : F15 K a0 a1 = some r) : ACall P 15 ⟨[(e_Tapi_Message a0), (e_Tapi_Message a1)], [], (.int .i64 r), [], []⟩ := by
  refine acall_of Try.func15 Try.results15 rfl Try.ntmps15 rfl rfl rfl ?_
  intro E Q hP hN hro hret
  obtain ⟨P', nt', w0, F0, p0, S0, β0, ro0⟩ := E
  simp only at hP hN
  subst hP hN
  dsimp only [argT]
  unfold F15 at h
  refine AWp.seq ?_
  refine AWp.region ?_
  refine AOps.cons rfl (st_box (v := (e_Tapi_Message a0)) (cs := (e_Tapi_Message a0).cells) rfl rfl rfl rfl rfl) rfl ?_
  refine AOps.cons rfl (st_box (v := (e_Tapi_Message a1)) (cs := (e_Tapi_Message a1).cells) rfl rfl rfl rfl rfl) rfl ?_
  refine AOps.cons rfl (st_assign (v := (.int .i64 0)) rfl rfl) rfl ?_
  refine AOps.nil ?_
  refine At.next ?_
  refine AWp.seq ?_
  refine AWp.regionD mixed ?_
  refine AOpsD.cons 0 rfl (st_fieldP (m := 2) (o := 0) rfl f25_0 rfl rfl) ?_
  refine AOpsD.cons 1 rfl (st_loadP (cs := (e_Tapi_Message a0).cells) (v := (.int .i64 a0.Kind)) rfl o3 rfl rfl rfl) ?_
  refine AOpsD.cons 2 rfl (st_fieldP (m := 3) (o := 0) rfl f25_0 rfl rfl) ?_
  refine AOpsD.cons 3 rfl (st_loadP (cs := (e_Tapi_Message a1).cells) (v := (.int .i64 a1.Kind)) rfl o3 rfl rfl rfl) ?_
  have ⟨v2, hv2, h⟩ := of_bind h
  refine AOpsD.cons 4 rfl (st_call0 (ar := [(.int .i64 a0.Kind), (.int .i64 a1.Kind)]) (caps := []) Try.call51 (F51_ok K a0.Kind a1.Kind v2 hv2) rfl rfl ⟨rfl, rfl, trivial⟩ rfl) ?_
  refine AOpsD.cons 5 rfl (st_fieldP (m := 2) (o := 0) rfl f25_1 rfl rfl) ?_
  refine AOpsD.cons 6 rfl (st_loadPA (cs := (e_Tapi_Message a0).cells) (vs := (e_Tapi_Ref a0.A).cells) rfl a23 rfl rfl rfl rfl) ?_
  refine AOpsD.cons 7 rfl (st_fieldP (m := 3) (o := 0) rfl f25_1 rfl rfl) ?_
  refine AOpsD.cons 8 rfl (st_loadPA (cs := (e_Tapi_Message a1).cells) (vs := (e_Tapi_Ref a1.A).cells) rfl a23 rfl rfl rfl rfl) ?_
  have ⟨v4, hv4, h⟩ := of_bind h
  refine AOpsD.cons 9 rfl (st_call0 (ar := [(e_Tapi_Ref a0.A), (e_Tapi_Ref a1.A)]) (caps := []) Try.call52 (F52_ok K a0.A a1.A v4 hv4) rfl rfl ⟨rfl, rfl, trivial⟩ rfl) ?_
  refine AOpsD.cons 10 rfl (st_fieldP (m := 2) (o := 0) rfl f25_2 rfl rfl) ?_
  refine AOpsD.cons 11 rfl (st_loadPA (cs := (e_Tapi_Message a0).cells) (vs := (e_Tapi_Ref a0.B).cells) rfl a23 rfl rfl rfl rfl) ?_
  refine AOpsD.cons 12 rfl (st_fieldP (m := 3) (o := 0) rfl f25_2 rfl rfl) ?_
  refine AOpsD.cons 13 rfl (st_loadPA (cs := (e_Tapi_Message a1).cells) (vs := (e_Tapi_Ref a1.B).cells) rfl a23 rfl rfl rfl rfl) ?_
  have ⟨v6, hv6, h⟩ := of_bind h
  refine AOpsD.cons 14 rfl (st_call0 (ar := [(e_Tapi_Ref a0.B), (e_Tapi_Ref a1.B)]) (caps := []) Try.call52 (F52_ok K a0.B a1.B v6 hv6) rfl rfl ⟨rfl, rfl, trivial⟩ rfl) ?_
  refine AOpsD.cons 15 rfl (st_fieldP (m := 2) (o := 0) rfl f25_3 rfl rfl) ?_
  refine AOpsD.cons 16 rfl (st_loadP (cs := (e_Tapi_Message a0).cells) (v := (.int .i64 a0.From)) rfl o3 rfl rfl rfl) ?_
  refine AOpsD.cons 17 rfl (st_fieldP (m := 3) (o := 0) rfl f25_3 rfl rfl) ?_
  refine AOpsD.cons 18 rfl (st_loadP (cs := (e_Tapi_Message a1).cells) (v := (.int .i64 a1.From)) rfl o3 rfl rfl rfl) ?_
  have ⟨v8, hv8, h⟩ := of_bind h
  refine AOpsD.cons 19 rfl (st_call0 (ar := [(.int .i64 a0.From), (.int .i64 a1.From)]) (caps := []) Try.call51 (F51_ok K a0.From a1.From v8 hv8) rfl rfl ⟨rfl, rfl, trivial⟩ rfl) ?_
  refine AOpsD.cons 20 rfl (st_fieldP (m := 2) (o := 0) rfl f25_4 rfl rfl) ?_
  refine AOpsD.cons 21 rfl (st_loadP (cs := (e_Tapi_Message a0).cells) (v := (.int .i64 a0.To)) rfl o3 rfl rfl rfl) ?_
  refine AOpsD.cons 22 rfl (st_fieldP (m := 3) (o := 0) rfl f25_4 rfl rfl) ?_
  refine AOpsD.cons 23 rfl (st_loadP (cs := (e_Tapi_Message a1).cells) (v := (.int .i64 a1.To)) rfl o3 rfl rfl rfl) ?_
  have ⟨v10, hv10, h⟩ := of_bind h
  refine AOpsD.cons 24 rfl (st_call0 (ar := [(.int .i64 a0.To), (.int .i64 a1.To)]) (caps := []) Try.call51 (F51_ok K a0.To a1.To v10 hv10) rfl rfl ⟨rfl, rfl, trivial⟩ rfl) ?_
  refine AOpsD.cons 25 rfl (st_fieldP (m := 2) (o := 0) rfl f25_5 rfl rfl) ?_
  refine AOpsD.cons 26 rfl (st_loadP (cs := (e_Tapi_Message a0).cells) (v := (.int .i64 a0.Sent)) rfl o3 rfl rfl rfl) ?_
  refine AOpsD.cons 27 rfl (st_fieldP (m := 3) (o := 0) rfl f25_5 rfl rfl) ?_
  refine AOpsD.cons 28 rfl (st_loadP (cs := (e_Tapi_Message a1).cells) (v := (.int .i64 a1.Sent)) rfl o3 rfl rfl rfl) ?_
  have ⟨v12, hv12, h⟩ := of_bind h
  refine AOpsD.cons 29 rfl (st_call0 (ar := [(.int .i64 a0.Sent), (.int .i64 a1.Sent)]) (caps := []) Try.call51 (F51_ok K a0.Sent a1.Sent v12 hv12) rfl rfl ⟨rfl, rfl, trivial⟩ rfl) ?_
  refine AOpsD.cons 30 rfl (st_fieldP (m := 2) (o := 0) rfl f25_6 rfl rfl) ?_
  refine AOpsD.cons 31 rfl (st_loadP (cs := (e_Tapi_Message a0).cells) (v := (.int .i64 a0.Received)) rfl o3 rfl rfl rfl) ?_
  refine AOpsD.cons 32 rfl (st_fieldP (m := 3) (o := 0) rfl f25_6 rfl rfl) ?_
  refine AOpsD.cons 33 rfl (st_loadP (cs := (e_Tapi_Message a1).cells) (v := (.int .i64 a1.Received)) rfl o3 rfl rfl rfl) ?_
  have ⟨v14, hv14, h⟩ := of_bind h
  refine AOpsD.cons 34 rfl (st_call0 (ar := [(.int .i64 a0.Received), (.int .i64 a1.Received)]) (caps := []) Try.call51 (F51_ok K a0.Received a1.Received v14 hv14) rfl rfl ⟨rfl, rfl, trivial⟩ rfl) ?_
  refine AOpsD.cons 35 rfl (st_fieldP (m := 2) (o := 0) rfl f25_7 rfl rfl) ?_
  refine AOpsD.cons 36 rfl (st_loadP (cs := (e_Tapi_Message a0).cells) (v := (.int .i64 a0.Least)) rfl o3 rfl rfl rfl) ?_
  refine AOpsD.cons 37 rfl (st_fieldP (m := 3) (o := 0) rfl f25_7 rfl rfl) ?_
  refine AOpsD.cons 38 rfl (st_loadP (cs := (e_Tapi_Message a1).cells) (v := (.int .i64 a1.Least)) rfl o3 rfl rfl rfl) ?_
  have ⟨v16, hv16, h⟩ := of_bind h
  refine AOpsD.cons 39 rfl (st_call0 (ar := [(.int .i64 a0.Least), (.int .i64 a1.Least)]) (caps := []) Try.call51 (F51_ok K a0.Least a1.Least v16 hv16) rfl rfl ⟨rfl, rfl, trivial⟩ rfl) ?_
  refine AOpsD.cons 40 rfl (stx_buildSlice (vs := [(.int .i64 v2), (.int .i64 v4), (.int .i64 v6), (.int .i64 v8), (.int .i64 v10), (.int .i64 v12), (.int .i64 v14), (.int .i64 v16)]) (enc := e_i64) (l := [v2, v4, v6, v8, v10, v12, v14, v16]) rfl el87 rfl rfl ⟨rfl, rfl, rfl, rfl, rfl, rfl, rfl, rfl, trivial⟩ rfl els_i64 rfl rfl rfl rfl) ?_
  have ⟨v18, hv18, h⟩ := of_bind h
  refine AOpsD.cons 41 rfl (st_callB (rd := [(45, (.vec 1 (List.map e_i64 [v2, v4, v6, v8, v10, v12, v14, v16])))]) (ar := [(.vs 45)]) (caps := []) Try.call50 (F50_ok K [v2, v4, v6, v8, v10, v12, v14, v16] v18 hv18) rfl rfl ⟨rfl, trivial⟩ (subS_mem ⟨rfl, trivial⟩) rfl rfl rfl) ?_
  refine AOpsD.cons 42 rfl (st_assign (v := (.int .i64 v18)) rfl rfl) ?_
  refine AOpsD.nil (by kernel_rfl) rfl ?_
  refine At.next ?_
  refine AWp.ret ?_
  have h := Option.some.inj h
  subst h
  refine (hret _ ?_).1
  exact ⟨[(.int .i64 v18)], ⟨rfl, trivial⟩, rfl, trivial⟩

/-! 53: sleuth/sleuthlaw14.pair -/
def F53 (K : Nat) : Option ((List Tapi_Span)) :=
  some ([(⟨5, 2, 1, 0, 2, 3, [97, 112, 105], [], [103, 101, 116], 112, 130, false, [], []⟩ : Tapi_Span), (⟨5, 1, 0, 0, 1, 2, [119, 101, 98], [], [103, 101, 116], 10, 40, false, [], []⟩ : Tapi_Span)])
theorem F53_ok (K : Nat) (r : (List Tapi_Span)) (h : F53 K = some r) : ACall P 53 ⟨[], [], (.sl 14 (r.map e_Tapi_Span) false), [], []⟩ := by
  refine acall_of Try.func53 Try.results53 rfl Try.ntmps53 rfl rfl rfl ?_
  intro E Q hP hN hro hret
  obtain ⟨P', nt', w0, F0, p0, S0, β0, ro0⟩ := E
  simp only at hP hN
  subst hP hN
  dsimp only [argT]
  unfold F53 at h
  refine AWp.seq ?_
  refine AWp.region ?_
  refine AOps.cons rfl (st_assign (v := (.sl 14 [] false)) rfl rfl) rfl ?_
  refine AOps.nil ?_
  refine At.next ?_
  refine AWp.seq ?_
  refine AWp.region ?_
  refine AOps.cons rfl (stx_build (vs := [(0, (.int .i64 5)), (1, (.int .i64 1)), (4, (.int .i64 1)), (5, (.int .i64 2)), (6, (.str [119, 101, 98])), (8, (.str [103, 101, 116])), (9, (.int .i64 10)), (10, (.int .i64 40))]) (cs := [(.int .i64 5), (.int .i64 1), (.int .i64 0), (.int .i64 0), (.int .i64 1), (.int .i64 2), (.str [119, 101, 98]), (.str []), (.str [103, 101, 116]), (.int .i64 10), (.int .i64 40), (.bool false), (.sl 4 [] false), (.sl 2 [] false)]) rfl st38 ⟨rfl, rfl, rfl, rfl, rfl, rfl, rfl, rfl, rfl, rfl, rfl, rfl, rfl, rfl, rfl, rfl, trivial⟩ rfl) rfl ?_
  refine AOps.cons rfl (st_alloc (cs := [(.int .i64 0), (.int .i64 0), (.int .i64 0), (.int .i64 0), (.int .i64 0), (.int .i64 0), (.str []), (.str []), (.str []), (.int .i64 0), (.int .i64 0), (.bool false), (.sl 4 [] false), (.sl 2 [] false)]) rfl z38 rfl rfl rfl) rfl ?_
  refine AOps.cons rfl (st_storeP (cs := [(.int .i64 0), (.int .i64 0), (.int .i64 0), (.int .i64 0), (.int .i64 0), (.int .i64 0), (.str []), (.str []), (.str []), (.int .i64 0), (.int .i64 0), (.bool false), (.sl 4 [] false), (.sl 2 [] false)]) (vs := [(.int .i64 5), (.int .i64 1), (.int .i64 0), (.int .i64 0), (.int .i64 1), (.int .i64 2), (.str [119, 101, 98]), (.str []), (.str [103, 101, 116]), (.int .i64 10), (.int .i64 40), (.bool false), (.sl 4 [] false), (.sl 2 [] false)]) (ds := [(.int .i64 5), (.int .i64 1), (.int .i64 0), (.int .i64 0), (.int .i64 1), (.int .i64 2), (.str [119, 101, 98]), (.str []), (.str [103, 101, 116]), (.int .i64 10), (.int .i64 40), (.bool false), (.sl 4 [] false), (.sl 2 [] false)]) (v := (.ag [(.int .i64 5), (.int .i64 1), (.int .i64 0), (.int .i64 0), (.int .i64 1), (.int .i64 2), (.str [119, 101, 98]), (.str []), (.str [103, 101, 116]), (.int .i64 10), (.int .i64 40), (.bool false), (.sl 4 [] false), (.sl 2 [] false)])) sz38 rfl rfl rfl rfl rfl rfl rfl rfl) rfl ?_
  refine AOps.nil ?_
  refine At.next ?_
  refine AWp.seq ?_
  refine AWp.region ?_
  refine AOps.cons rfl (stx_build (vs := [(0, (.int .i64 5)), (1, (.int .i64 2)), (2, (.int .i64 1)), (4, (.int .i64 2)), (5, (.int .i64 3)), (6, (.str [97, 112, 105])), (8, (.str [103, 101, 116])), (9, (.int .i64 112)), (10, (.int .i64 130))]) (cs := [(.int .i64 5), (.int .i64 2), (.int .i64 1), (.int .i64 0), (.int .i64 2), (.int .i64 3), (.str [97, 112, 105]), (.str []), (.str [103, 101, 116]), (.int .i64 112), (.int .i64 130), (.bool false), (.sl 4 [] false), (.sl 2 [] false)]) rfl st38 ⟨rfl, rfl, rfl, rfl, rfl, rfl, rfl, rfl, rfl, rfl, rfl, rfl, rfl, rfl, rfl, rfl, rfl, rfl, trivial⟩ rfl) rfl ?_
  refine AOps.cons rfl (st_alloc (cs := [(.int .i64 0), (.int .i64 0), (.int .i64 0), (.int .i64 0), (.int .i64 0), (.int .i64 0), (.str []), (.str []), (.str []), (.int .i64 0), (.int .i64 0), (.bool false), (.sl 4 [] false), (.sl 2 [] false)]) rfl z38 rfl rfl rfl) rfl ?_
  refine AOps.cons rfl (st_storeP (cs := [(.int .i64 0), (.int .i64 0), (.int .i64 0), (.int .i64 0), (.int .i64 0), (.int .i64 0), (.str []), (.str []), (.str []), (.int .i64 0), (.int .i64 0), (.bool false), (.sl 4 [] false), (.sl 2 [] false)]) (vs := [(.int .i64 5), (.int .i64 2), (.int .i64 1), (.int .i64 0), (.int .i64 2), (.int .i64 3), (.str [97, 112, 105]), (.str []), (.str [103, 101, 116]), (.int .i64 112), (.int .i64 130), (.bool false), (.sl 4 [] false), (.sl 2 [] false)]) (ds := [(.int .i64 5), (.int .i64 2), (.int .i64 1), (.int .i64 0), (.int .i64 2), (.int .i64 3), (.str [97, 112, 105]), (.str []), (.str [103, 101, 116]), (.int .i64 112), (.int .i64 130), (.bool false), (.sl 4 [] false), (.sl 2 [] false)]) (v := (.ag [(.int .i64 5), (.int .i64 2), (.int .i64 1), (.int .i64 0), (.int .i64 2), (.int .i64 3), (.str [97, 112, 105]), (.str []), (.str [103, 101, 116]), (.int .i64 112), (.int .i64 130), (.bool false), (.sl 4 [] false), (.sl 2 [] false)])) sz38 rfl rfl rfl rfl rfl rfl rfl rfl) rfl ?_
  refine AOps.nil ?_
  refine At.next ?_
  refine AWp.seq ?_
  refine AWp.region ?_
  refine AOps.cons rfl (st_loadPA (cs := [(.int .i64 5), (.int .i64 2), (.int .i64 1), (.int .i64 0), (.int .i64 2), (.int .i64 3), (.str [97, 112, 105]), (.str []), (.str [103, 101, 116]), (.int .i64 112), (.int .i64 130), (.bool false), (.sl 4 [] false), (.sl 2 [] false)]) (vs := [(.int .i64 5), (.int .i64 2), (.int .i64 1), (.int .i64 0), (.int .i64 2), (.int .i64 3), (.str [97, 112, 105]), (.str []), (.str [103, 101, 116]), (.int .i64 112), (.int .i64 130), (.bool false), (.sl 4 [] false), (.sl 2 [] false)]) rfl a38 rfl rfl rfl rfl) rfl ?_
  refine AOps.cons rfl (st_loadPA (cs := [(.int .i64 5), (.int .i64 1), (.int .i64 0), (.int .i64 0), (.int .i64 1), (.int .i64 2), (.str [119, 101, 98]), (.str []), (.str [103, 101, 116]), (.int .i64 10), (.int .i64 40), (.bool false), (.sl 4 [] false), (.sl 2 [] false)]) (vs := [(.int .i64 5), (.int .i64 1), (.int .i64 0), (.int .i64 0), (.int .i64 1), (.int .i64 2), (.str [119, 101, 98]), (.str []), (.str [103, 101, 116]), (.int .i64 10), (.int .i64 40), (.bool false), (.sl 4 [] false), (.sl 2 [] false)]) rfl a38 rfl rfl rfl rfl) rfl ?_
  refine AOps.cons rfl (stx_buildSlice (vs := [(.ag [(.int .i64 5), (.int .i64 2), (.int .i64 1), (.int .i64 0), (.int .i64 2), (.int .i64 3), (.str [97, 112, 105]), (.str []), (.str [103, 101, 116]), (.int .i64 112), (.int .i64 130), (.bool false), (.sl 4 [] false), (.sl 2 [] false)]), (.ag [(.int .i64 5), (.int .i64 1), (.int .i64 0), (.int .i64 0), (.int .i64 1), (.int .i64 2), (.str [119, 101, 98]), (.str []), (.str [103, 101, 116]), (.int .i64 10), (.int .i64 40), (.bool false), (.sl 4 [] false), (.sl 2 [] false)])]) (enc := e_Tapi_Span) (l := [(⟨5, 2, 1, 0, 2, 3, [97, 112, 105], [], [103, 101, 116], 112, 130, false, [], []⟩ : Tapi_Span), (⟨5, 1, 0, 0, 1, 2, [119, 101, 98], [], [103, 101, 116], 10, 40, false, [], []⟩ : Tapi_Span)]) rfl el33 rfl rfl ⟨rfl, rfl, trivial⟩ rfl els_Tapi_Span rfl rfl rfl rfl) rfl ?_
  refine AOps.cons rfl (st_assign (v := (.vs 7)) rfl rfl) rfl ?_
  refine AOps.nil ?_
  refine At.next ?_
  refine AWp.ret ?_
  refine At.ghost (st' := ⟨[(0, (.sl 14 (([(⟨5, 2, 1, 0, 2, 3, [97, 112, 105], [], [103, 101, 116], 112, 130, false, [], []⟩ : Tapi_Span), (⟨5, 1, 0, 0, 1, 2, [119, 101, 98], [], [103, 101, 116], 10, 40, false, [], []⟩ : Tapi_Span)]).map e_Tapi_Span) false))], []⟩) (fun a w h => (SatL.wk ⟨[(0, (.sl 14 (([(⟨5, 2, 1, 0, 2, 3, [97, 112, 105], [], [103, 101, 116], 112, 130, false, [], []⟩ : Tapi_Span), (⟨5, 1, 0, 0, 1, 2, [119, 101, 98], [], [103, 101, 116], 10, 40, false, [], []⟩ : Tapi_Span)]).map e_Tapi_Span) false))], []⟩ (ghost_freeze (m := 7) (sz := 14) (es := (List.map e_Tapi_Span ([(⟨5, 2, 1, 0, 2, 3, [97, 112, 105], [], [103, 101, 116], 112, 130, false, [], []⟩ : Tapi_Span), (⟨5, 1, 0, 0, 1, 2, [119, 101, 98], [], [103, 101, 116], 10, 40, false, [], []⟩ : Tapi_Span)]))) a w (SatL.wk ⟨[(0, (.vs 7))], [(7, (.vec 14 (List.map e_Tapi_Span ([(⟨5, 2, 1, 0, 2, 3, [97, 112, 105], [], [103, 101, 116], 112, 130, false, [], []⟩ : Tapi_Span), (⟨5, 1, 0, 0, 1, 2, [119, 101, 98], [], [103, 101, 116], 10, 40, false, [], []⟩ : Tapi_Span)]))))]⟩ h ⟨rfl, trivial⟩ ⟨rfl, trivial⟩)) ⟨rfl, trivial⟩ trivial)) ?_
  have h := Option.some.inj h
  subst h
  refine (hret _ ?_).1
  exact ⟨[(.sl 14 (([(⟨5, 2, 1, 0, 2, 3, [97, 112, 105], [], [103, 101, 116], 112, 130, false, [], []⟩ : Tapi_Span), (⟨5, 1, 0, 0, 1, 2, [119, 101, 98], [], [103, 101, 116], 10, 40, false, [], []⟩ : Tapi_Span)]).map e_Tapi_Span) false)], ⟨rfl, trivial⟩, rfl, trivial⟩

/-! 85: slices.Values[[]sleuth/api.Span,sleuth/api.Span] -/
def F85 (K : Nat) (a0 : (List Tapi_Span)) : Option ((List Tapi_Span)) :=
  some a0
theorem F85_ok (K : Nat) (a0 : (List Tapi_Span)) (r : (List Tapi_Span)) (h : F85 K a0 = some r) : ACall P 85 ⟨[(.sl 14 (a0.map e_Tapi_Span) false)], [], (.clo 104 [(.ip [(.sl 14 (r.map e_Tapi_Span) false)])]), [], []⟩ := by
  refine acall_of Try.func85 Try.results85 rfl Try.ntmps85 rfl rfl rfl ?_
  intro E Q hP hN hro hret
  obtain ⟨P', nt', w0, F0, p0, S0, β0, ro0⟩ := E
  simp only at hP hN
  subst hP hN
  dsimp only [argT]
  unfold F85 at h
  refine AWp.seq ?_
  refine AWp.region ?_
  refine AOps.cons rfl (st_box (v := (.sl 14 (a0.map e_Tapi_Span) false)) (cs := [(.sl 14 (a0.map e_Tapi_Span) false)]) rfl rfl rfl rfl rfl) rfl ?_
  refine AOps.cons rfl (st_assign (v := .nilf) rfl rfl) rfl ?_
  refine AOps.nil ?_
  refine At.next ?_
  refine AWp.seq ?_
  refine AWp.region ?_
  refine AOps.cons rfl (stx_makeFunc (vs := [(.ptr 1 0)]) rfl ⟨rfl, trivial⟩) rfl ?_
  refine AOps.cons rfl (st_assign (v := (.clo 104 [(.ptr 1 0)])) rfl rfl) rfl ?_
  refine AOps.nil ?_
  refine At.next ?_
  refine AWp.ret ?_
  refine At.ghost (st' := ⟨[(2, (.clo 104 [(.ip [(.sl 14 (a0.map e_Tapi_Span) false)])]))], []⟩) (fun a w h => (SatL.wk ⟨[(2, (.clo 104 [(.ip [(.sl 14 (a0.map e_Tapi_Span) false)])]))], []⟩ (ghost_freezeB (m := 1) (cs := [(.sl 14 (a0.map e_Tapi_Span) false)]) rfl a w (SatL.wk ⟨[(2, (.clo 104 [(.ptr 1 0)]))], [(1, (.box [(.sl 14 (a0.map e_Tapi_Span) false)]))]⟩ h ⟨rfl, trivial⟩ ⟨rfl, trivial⟩)) ⟨rfl, trivial⟩ trivial)) ?_
  have h := Option.some.inj h
  subst h
  refine (hret _ ?_).1
  exact ⟨[(.clo 104 [(.ip [(.sl 14 (a0.map e_Tapi_Span) false)])])], ⟨rfl, trivial⟩, rfl, trivial⟩

/-! 104: slices.Values[[]sleuth/api.Span,sleuth/api.Span]$1 -/
def F104_c5 (K : Nat) (v4 : (List Tapi_Span)) : Option ((List Tapi_Span)) :=
  some v4
def F104_l3 (K : Nat) (a1 : (List Tapi_Span)) (a899 : Tapi_Span → (List Tapi_Span) → Option ((List Tapi_Span))) (c6 : (List Tapi_Span) → Option ((List Tapi_Span))) : Nat → Int → (List Tapi_Span) → Option ((List Tapi_Span))
  | 0, _, _ => none
  | k3 + 1, v1, v2 =>
    if (decide (v1 < (a1.length : Int))) = true then
      if (0 : Int) ≤ v1 ∧ v1 < a1.length then
        (a899 (a1.getD v1.toNat z_Tapi_Span) v2).bind fun v9 =>
          (F104_l3 K a1 a899 c6 k3) (IntKind.i64.wrap (v1 + 1)) v9
      else none
    else
      c6 v2
def F104 (K : Nat) (a899 : Tapi_Span → (List Tapi_Span) → Option ((List Tapi_Span))) (a900 : (List Tapi_Span)) (a1 : (List Tapi_Span)) : Option ((List Tapi_Span)) :=
  F104_l3 K a1 a899 (F104_c5 K) K 0 a900
theorem F104_ok (K : Nat) (a899 : Tapi_Span → (List Tapi_Span) → Option ((List Tapi_Span))) (a900 : (List Tapi_Span)) (a1 : (List Tapi_Span)) (r : (List Tapi_Span)) (lr : Go.Loop) (h : F104 K a899 a900 a1 = some r) (hps : lr.params.size = 1) (hy : ∀ (x0 : Tapi_Span) (a900 : (List Tapi_Span)) (w : (List Tapi_Span)), a899 x0 a900 = some w → YCall P lr 1000 ⟨[(e_Tapi_Span x0)], [(1000, (.loop lr [2] [(.ptr 1001 0)])), (0, (.vec 14 (List.map e_Tapi_Span a900))), (1001, (.box [(.vs 0)]))], .bool true, [(1000, (.loop lr [2] [(.ptr 1001 0)])), (0, (.vec 14 (List.map e_Tapi_Span w))), (1001, (.box [(.vs 0)]))], [0]⟩) : ACall P 104 ⟨[(.yld 1000), (.ip [(.sl 14 (a1.map e_Tapi_Span) false)])], [(1000, (.loop lr [2] [(.ptr 1001 0)])), (0, (.vec 14 (List.map e_Tapi_Span a900))), (1001, (.box [(.vs 0)]))], .tup [], [(1000, (.loop lr [2] [(.ptr 1001 0)])), (0, (.vec 14 (List.map e_Tapi_Span r))), (1001, (.box [(.vs 0)]))], [0]⟩ := by
  refine acall_of Try.func104 Try.results104 rfl Try.ntmps104 rfl rfl rfl ?_
  intro E Q hP hN hro hret
  obtain ⟨P', nt', w0, F0, p0, S0, β0, ro0⟩ := E
  simp only at hP hN
  subst hP hN
  dsimp only [argT]
  unfold F104 at h
  refine AWp.seq ?_
  refine AWp.region ?_
  refine AOps.cons rfl (st_loadI (cs := [(.sl 14 (a1.map e_Tapi_Span) false)]) (v := (.sl 14 (a1.map e_Tapi_Span) false)) rfl o33 rfl rfl) rfl ?_
  refine AOps.cons rfl (stx_len (l := a1) (enc := e_Tapi_Span) rfl s33 rfl) rfl ?_
  refine AOps.cons rfl (st_move (v := (.int .i64 0)) rfl rfl) rfl ?_
  refine AOps.nil ?_
  refine At.next ?_
  refine AWp.weaken (st' := ⟨[(0, (.yld 1000)), (5, (.sl 14 (a1.map e_Tapi_Span) false)), (6, (.int .i64 (a1.length : Int))), (7, (.int .i64 0))], [(0, (.vec 14 (List.map e_Tapi_Span a900))), (1000, (.loop lr [2] [(.ptr 1001 0)])), (1001, (.box [(.vs 0)]))]⟩) ⟨rfl, rfl, rfl, rfl, trivial⟩ ⟨rfl, rfl, rfl, trivial⟩ ?_
  refine AWp.loopBlock (V := Int × (List Tapi_Span)) (X := (List Tapi_Span)) (lp := fun k v => F104_l3 K a1 a899 (F104_c5 K) k v.1 v.2 = some r) (sh := fun v => ⟨[(0, (.yld 1000)), (5, (.sl 14 (a1.map e_Tapi_Span) false)), (6, (.int .i64 (a1.length : Int))), (7, (.int .i64 v.1))], [(0, (.vec 14 (List.map e_Tapi_Span v.2))), (1000, (.loop lr [2] [(.ptr 1001 0)])), (1001, (.box [(.vs 0)]))]⟩) (x := fun v => F104_c5 K v = some r) (shx := fun v => ⟨[], [(0, (.vec 14 (List.map e_Tapi_Span v))), (1000, (.loop lr [2] [(.ptr 1001 0)])), (1001, (.box [(.vs 0)]))]⟩) (k := K) (v := (0, a900)) h ?_ ?_
  · intro v h
    revert h
    revert v
    intro v4 h
    try dsimp only at h ⊢
    unfold F104_c5 at h
    have h := Option.some.inj h
    subst h
    refine (hret _ ?_).2
    exact ⟨[], trivial, rfl, ⟨rfl, rfl, rfl, trivial⟩⟩
  · intro N k3 v h IH3 J3
    obtain ⟨v1, v2⟩ := v
    try dsimp only at h IH3 J3 ⊢
    cases k3 with
    | zero => cases h
    | succ k3 =>
      rw [F104_l3] at h
      refine AWp.seq ?_
      refine AWp.region ?_
      refine AOps.cons rfl (st_cmp (k := .i64) (a := v1) (b := (a1.length : Int)) (c := (decide (v1 < (a1.length : Int)))) rfl rfl rfl rfl) rfl ?_
      refine AOps.nil ?_
      refine At.next ?_
      refine AWp.seq ?_
      have hif := of_if h
      refine AWp.cond rfl (fun hc => ?_) (fun hc => ?_)
      · have h := hif.1 hc
        refine AWp.skip ?_
        refine At.next ?_
        refine AWp.seq ?_
        refine AWp.block ?_
        refine AWp.seq ?_
        refine AWp.region ?_
        have ⟨hg8, h⟩ := of_guard h
        refine AOps.cons rfl (st_index (k := .i64) (l := a1) (enc := e_Tapi_Span) (z := z_Tapi_Span) (n := v1) (cs := (e_Tapi_Span (a1.getD v1.toNat z_Tapi_Span)).cells) (full := false) rfl s33 rfl rfl hg8 rfl) rfl ?_
        refine AOps.cons rfl (st_loadIA (cs := (e_Tapi_Span (a1.getD v1.toNat z_Tapi_Span)).cells) (vs := (e_Tapi_Span (a1.getD v1.toNat z_Tapi_Span)).cells) rfl a38 rfl rfl rfl) rfl ?_
        refine AOps.cons rfl (st_alloc (cs := [(.int .i64 0), (.int .i64 0), (.int .i64 0), (.int .i64 0), (.int .i64 0), (.int .i64 0), (.str []), (.str []), (.str []), (.int .i64 0), (.int .i64 0), (.bool false), (.sl 4 [] false), (.sl 2 [] false)]) rfl z38 rfl rfl rfl) rfl ?_
        refine AOps.cons rfl (st_storeP (cs := [(.int .i64 0), (.int .i64 0), (.int .i64 0), (.int .i64 0), (.int .i64 0), (.int .i64 0), (.str []), (.str []), (.str []), (.int .i64 0), (.int .i64 0), (.bool false), (.sl 4 [] false), (.sl 2 [] false)]) (vs := (e_Tapi_Span (a1.getD v1.toNat z_Tapi_Span)).cells) (ds := (e_Tapi_Span (a1.getD v1.toNat z_Tapi_Span)).cells) (v := (e_Tapi_Span (a1.getD v1.toNat z_Tapi_Span))) sz38 rfl rfl rfl rfl rfl rfl rfl rfl) rfl ?_
        refine AOps.nil ?_
        refine At.next ?_
        refine AWp.seq ?_
        refine AWp.region ?_
        refine AOps.cons rfl (st_move (v := (.yld 1000)) rfl rfl) rfl ?_
        refine AOps.cons rfl (st_loadPA (cs := (e_Tapi_Span (a1.getD v1.toNat z_Tapi_Span)).cells) (vs := (e_Tapi_Span (a1.getD v1.toNat z_Tapi_Span)).cells) rfl a38 rfl rfl rfl rfl) rfl ?_
        have ⟨v9, hv9, h⟩ := of_bind h
        refine AOps.cons rfl (st_yield (d := some 13) (ks := [2]) (vs := [(.ptr 1001 0)]) (c := ⟨[(e_Tapi_Span (a1.getD v1.toNat z_Tapi_Span))], [(1000, (.loop lr [2] [(.ptr 1001 0)])), (0, (.vec 14 (List.map e_Tapi_Span v2))), (1001, (.box [(.vs 0)]))], .bool true, [(1000, (.loop lr [2] [(.ptr 1001 0)])), (0, (.vec 14 (List.map e_Tapi_Span v9))), (1001, (.box [(.vs 0)]))], [0]⟩) (ar := [(e_Tapi_Span (a1.getD v1.toNat z_Tapi_Span))]) (news := []) (forg := [0]) (hy (a1.getD v1.toNat z_Tapi_Span) v2 _ hv9) rfl hps rfl rfl ⟨rfl, trivial⟩ rfl ⟨rfl, rfl, rfl, trivial⟩ rfl) rfl ?_
        refine AOps.cons rfl (st_not (b := true) rfl rfl) rfl ?_
        refine AOps.nil ?_
        refine At.next ?_
        refine AWp.cond (b := false) rfl (fun hc => ?_) (fun hc => ?_)
        · cases hc
        refine AWp.skip ?_
        refine At.end ?_
        refine At.next ?_
        refine AWp.region ?_
        refine AOps.cons rfl (st_arith (k := .i64) (a := v1) (b := 1) (c := (IntKind.i64.wrap (v1 + 1))) rfl rfl rfl rfl) rfl ?_
        refine AOps.cons rfl (st_move (v := (.int .i64 (IntKind.i64.wrap (v1 + 1)))) rfl rfl) rfl ?_
        refine AOps.nil ?_
        exact At.weaken (st' := ⟨[(0, (.yld 1000)), (5, (.sl 14 (a1.map e_Tapi_Span) false)), (6, (.int .i64 (a1.length : Int))), (7, (.int .i64 (IntKind.i64.wrap (v1 + 1))))], [(0, (.vec 14 (List.map e_Tapi_Span v9))), (1000, (.loop lr [2] [(.ptr 1001 0)])), (1001, (.box [(.vs 0)]))]⟩) ⟨rfl, rfl, rfl, rfl, trivial⟩ ⟨rfl, rfl, rfl, trivial⟩ (IH3 _ ((IntKind.i64.wrap (v1 + 1)), v9) (Nat.lt_succ_self _) h)
      · have h := hif.2 hc
        refine AWp.exit ?_
        refine At.thru ?_
        exact At.weaken (st' := ⟨[], [(0, (.vec 14 (List.map e_Tapi_Span v2))), (1000, (.loop lr [2] [(.ptr 1001 0)])), (1001, (.box [(.vs 0)]))]⟩) trivial ⟨rfl, rfl, rfl, trivial⟩ (J3 v2 h)

/-! 128: slices.AppendSeq[[]sleuth/api.Span,sleuth/api.Span] -/
def F128_y4 (K : Nat) (x2 : Tapi_Span) (v1 : (List Tapi_Span)) : Option ((List Tapi_Span)) :=
  if v1.length + [x2].length ≤ 1073741824 then
    some (v1 ++ [x2])
  else none
def F128 (K : Nat) (a100 : (List Tapi_Span)) : Option ((List Tapi_Span)) :=
  (F104 K (F128_y4 K) [] a100).bind fun v5 =>
    some v5
theorem F128_ok (K : Nat) (a100 : (List Tapi_Span)) (r : (List Tapi_Span)) (h : F128 K a100 = some r) : ACall P 128 ⟨[(.sl 14 [] true), (.clo 104 [(.ip [(.sl 14 (a100.map e_Tapi_Span) false)])])], [], .vs 4, [(4, .vec 14 (List.map e_Tapi_Span r))], [4]⟩ := by
  refine acall_of Try.func128 Try.results128 rfl Try.ntmps128 rfl rfl rfl ?_
  intro E Q hP hN hro hret
  obtain ⟨P', nt', w0, F0, p0, S0, β0, ro0⟩ := E
  simp only at hP hN
  subst hP hN
  dsimp only [argT]
  unfold F128 at h
  refine AWp.seq ?_
  refine AWp.region ?_
  refine AOps.cons rfl (st_box (v := (.sl 14 [] true)) (cs := [(.sl 14 [] true)]) rfl rfl rfl rfl rfl) rfl ?_
  refine AOps.cons rfl (st_assign (v := (.sl 14 [] false)) rfl rfl) rfl ?_
  refine AOps.nil ?_
  refine At.next ?_
  refine AWp.seq ?_
  refine AWp.seq ?_
  refine AWp.region ?_
  refine AOps.cons rfl (st_move (v := (.clo 104 [(.ip [(.sl 14 (a100.map e_Tapi_Span) false)])])) rfl rfl) rfl ?_
  refine AOps.nil ?_
  refine At.next ?_
  refine AWp.block ?_
  refine AWp.ghost (st' := ⟨[(2, (.ptr 2 0)), (6, (.clo 104 [(.ip [(.sl 14 (a100.map e_Tapi_Span) false)])]))], [(2, (.box [(.vs 12)])), (12, (.vec 14 (List.map e_Tapi_Span ([] : List Tapi_Span))))]⟩) (fun a w h => (SatL.wk ⟨[(2, (.ptr 2 0)), (6, (.clo 104 [(.ip [(.sl 14 (a100.map e_Tapi_Span) false)])]))], [(2, (.box [(.vs 12)])), (12, (.vec 14 (List.map e_Tapi_Span ([] : List Tapi_Span))))]⟩ (ghost_ownB (n := 2) (m := 12) (sz := 14) (j := 0) rfl rfl rfl a w (SatL.wk ⟨[(2, (.ptr 2 0)), (6, (.clo 104 [(.ip [(.sl 14 (a100.map e_Tapi_Span) false)])]))], [(2, (.box [(.sl 14 [] true)]))]⟩ h ⟨rfl, rfl, trivial⟩ ⟨rfl, trivial⟩)) ⟨rfl, rfl, trivial⟩ ⟨rfl, rfl, trivial⟩)) ?_
  have ⟨v5, hv5, h⟩ := of_bind h
  refine AWp.weaken (st' := ⟨[(2, (.ptr 2 0)), (6, (.clo 104 [(.ip [(.sl 14 (a100.map e_Tapi_Span) false)])]))], [(2, (.box [(.vs 12)])), (12, (.vec 14 (List.map e_Tapi_Span [])))]⟩) ⟨rfl, rfl, trivial⟩ ⟨rfl, rfl, trivial⟩ ?_
  refine AWp.rangeFunc (n := 1) (f := 104) (caps := [(.ip [(.sl 14 (a100.map e_Tapi_Span) false)])]) (ks := [2]) (vs := [(.ptr 2 0)]) (ins := [(12, (.vec 14 (List.map e_Tapi_Span []))), (2, (.box [(.vs 12)]))]) (outs := [(12, (.vec 14 (List.map e_Tapi_Span v5))), (2, (.box [(.vs 12)]))]) (res := .tup []) (mv := [12]) (forg := [12]) (jump := none) hro Try.call104 rfl rfl rfl rfl ⟨rfl, trivial⟩ ⟨rfl, rfl, trivial⟩ rfl rfl rfl rfl (fun lr hst hpe hpr has hbd hsz => ?_) (fun _ => ?_) (fun c hc => by cases hc)
  · have hend := endRec_self hst hpe
    rw [hend]
    have hps : lr.params.size = 1 ∧ True := ⟨by rw [hpr]; rfl, trivial⟩
    have hy : ∀ (x2 : Tapi_Span) (v1 : (List Tapi_Span)) (w : (List Tapi_Span)), F128_y4 K x2 v1 = some w → YCall P lr 1000 ⟨[(e_Tapi_Span x2)], [(1000, .loop lr [2] [(.ptr 1001 0)]), (0, (.vec 14 (List.map e_Tapi_Span v1))), (1001, (.box [(.vs 0)]))], .bool true, [(1000, .loop lr [2] [(.ptr 1001 0)]), (0, (.vec 14 (List.map e_Tapi_Span w))), (1001, (.box [(.vs 0)]))], [0]⟩ := by
      intro x2 v1 w h
      unfold F128_y4 at h
      refine ycall_of (ks := [2]) (vs := [(.ptr 1001 0)]) (ps := [7]) rfl hst hsz hpr rfl (by decide) rfl rfl rfl ?_
      intro E Qa Qb hP hN hmid hfin
      obtain ⟨P', nt', w0, F0, p0, S0, β0, ro0⟩ := E
      simp only at hP hN
      subst hP hN
      refine AWp.code has ?_
      dsimp only [List.zip, List.zipWith, List.cons_append, List.nil_append]
      refine AWp.region ?_
      refine AOps.cons rfl (st_alloc (cs := [(.int .i64 0), (.int .i64 0), (.int .i64 0), (.int .i64 0), (.int .i64 0), (.int .i64 0), (.str []), (.str []), (.str []), (.int .i64 0), (.int .i64 0), (.bool false), (.sl 4 [] false), (.sl 2 [] false)]) rfl z38 rfl rfl rfl) rfl ?_
      refine AOps.cons rfl (st_storeP (cs := [(.int .i64 0), (.int .i64 0), (.int .i64 0), (.int .i64 0), (.int .i64 0), (.int .i64 0), (.str []), (.str []), (.str []), (.int .i64 0), (.int .i64 0), (.bool false), (.sl 4 [] false), (.sl 2 [] false)]) (vs := (e_Tapi_Span x2).cells) (ds := (e_Tapi_Span x2).cells) (v := (e_Tapi_Span x2)) sz38 rfl rfl rfl rfl rfl rfl rfl rfl) rfl ?_
      refine AOps.nil ?_
      refine hmid _ _ _ rfl ?_
      refine AWp.code hbd ?_
      refine AWp.block ?_
      refine AWp.region ?_
      refine AOps.cons rfl (st_loadP (cs := [(.vs 0)]) (v := (.vs 0)) rfl o33 rfl rfl rfl) rfl ?_
      refine AOps.cons rfl (st_loadPA (cs := (e_Tapi_Span x2).cells) (vs := (e_Tapi_Span x2).cells) rfl a38 rfl rfl rfl rfl) rfl ?_
      refine AOps.cons rfl (stx_buildSlice (vs := [(e_Tapi_Span x2)]) (enc := e_Tapi_Span) (l := [x2]) rfl el33 rfl rfl ⟨rfl, trivial⟩ rfl els_Tapi_Span rfl rfl rfl rfl) rfl ?_
      have ⟨hg3, h⟩ := of_guard h
      refine AOps.cons rfl (st_append (m := 0) (enc := e_Tapi_Span) (l := v1) (l' := [x2]) (src := (.vs 10)) (rd := [(10, (.vec 14 (List.map e_Tapi_Span [x2])))]) rfl rfl el33 rfl u33 rfl rfl rfl rfl (oneRead rfl) els_Tapi_Span hg3) rfl ?_
      refine AOps.cons rfl (st_storeP (cs := [.undef]) (vs := [(.vs 0)]) (ds := [(.vs 0)]) (v := (.vs 0)) sz33 rfl rfl rfl rfl rfl rfl rfl rfl) rfl ?_
      refine AOps.nil ?_
      refine At.end ?_
      have h := Option.some.inj h
      subst h
      refine hfin _ _ _ none .normal rfl rfl rfl ?_
      rw [hend]
      exact ⟨rfl, rfl, rfl, trivial⟩
    exact (((F104_ok K (F128_y4 K) [] a100 v5 lr hv5 hps.1 hy).sw 1000 1).sw 0 12).sw 1001 2
  · refine At.weaken (st' := ⟨[(2, (.ptr 2 0)), (6, (.clo 104 [(.ip [(.sl 14 (a100.map e_Tapi_Span) false)])]))], [(2, (.box [(.vs 12)])), (12, (.vec 14 (List.map e_Tapi_Span v5)))]⟩) ⟨rfl, rfl, trivial⟩ ⟨rfl, rfl, trivial⟩ ?_
    refine At.end ?_
    refine At.next ?_
    refine AWp.seq ?_
    refine AWp.region ?_
    refine AOps.cons rfl (st_loadP (cs := [(.vs 12)]) (v := (.vs 12)) rfl o33 rfl rfl rfl) rfl ?_
    refine AOps.cons rfl (st_assign (v := (.vs 12)) rfl rfl) rfl ?_
    refine AOps.nil ?_
    refine At.next ?_
    refine AWp.ret ?_
    refine At.ghost (st' := ⟨[(4, (.vs 4))], [(4, (.vec 14 (List.map e_Tapi_Span v5)))]⟩) (fun a w h => (SatL.wk ⟨[(4, (.vs 4))], [(4, (.vec 14 (List.map e_Tapi_Span v5)))]⟩ (ghost_sw (a := 12) (b := 4) rfl rfl a w (SatL.wk ⟨[(4, (.vs 12))], [(12, (.vec 14 (List.map e_Tapi_Span v5)))]⟩ h ⟨rfl, trivial⟩ ⟨rfl, trivial⟩)) ⟨rfl, trivial⟩ ⟨rfl, trivial⟩)) ?_
    have h := Option.some.inj h
    subst h
    refine (hret _ ?_).1
    exact ⟨[(.vs 4)], ⟨rfl, trivial⟩, rfl, ⟨rfl, trivial⟩⟩

/-! 102: slices.Collect[sleuth/api.Span] -/
def F102 (K : Nat) (a000 : (List Tapi_Span)) : Option ((List Tapi_Span)) :=
  (F128 K a000).bind fun v2 =>
    some v2
theorem F102_ok (K : Nat) (a000 : (List Tapi_Span)) (r : (List Tapi_Span)) (h : F102 K a000 = some r) : ACall P 102 ⟨[(.clo 104 [(.ip [(.sl 14 (a000.map e_Tapi_Span) false)])])], [], .vs 2, [(2, .vec 14 (List.map e_Tapi_Span r))], [2]⟩ := by
  refine acall_of Try.func102 Try.results102 rfl Try.ntmps102 rfl rfl rfl ?_
  intro E Q hP hN hro hret
  obtain ⟨P', nt', w0, F0, p0, S0, β0, ro0⟩ := E
  simp only at hP hN
  subst hP hN
  dsimp only [argT]
  unfold F102 at h
  refine AWp.seq ?_
  refine AWp.region ?_
  refine AOps.cons rfl (st_assign (v := (.sl 14 [] false)) rfl rfl) rfl ?_
  refine AOps.nil ?_
  refine At.next ?_
  refine AWp.seq ?_
  refine AWp.region ?_
  refine AOps.cons rfl (st_move (v := (.clo 104 [(.ip [(.sl 14 (a000.map e_Tapi_Span) false)])])) rfl rfl) rfl ?_
  have ⟨v2, hv2, h⟩ := of_bind h
  refine AOps.cons rfl (st_callO (sz := 14) (es := (List.map e_Tapi_Span v2)) (ar := [(.sl 14 [] true), (.clo 104 [(.ip [(.sl 14 (a000.map e_Tapi_Span) false)])])]) (caps := []) Try.call128 ((F128_ok K a000 v2 hv2).sw 4 4) rfl rfl ⟨rfl, rfl, trivial⟩ rfl) rfl ?_
  refine AOps.cons rfl (st_assign (v := (.vs 4)) rfl rfl) rfl ?_
  refine AOps.nil ?_
  refine At.next ?_
  refine AWp.ret ?_
  refine At.ghost (st' := ⟨[(2, (.vs 2))], [(2, (.vec 14 (List.map e_Tapi_Span v2)))]⟩) (fun a w h => (SatL.wk ⟨[(2, (.vs 2))], [(2, (.vec 14 (List.map e_Tapi_Span v2)))]⟩ (ghost_sw (a := 4) (b := 2) rfl rfl a w (SatL.wk ⟨[(2, (.vs 4))], [(4, (.vec 14 (List.map e_Tapi_Span v2)))]⟩ h ⟨rfl, trivial⟩ ⟨rfl, trivial⟩)) ⟨rfl, trivial⟩ ⟨rfl, trivial⟩)) ?_
  have h := Option.some.inj h
  subst h
  refine (hret _ ?_).1
  exact ⟨[(.vs 2)], ⟨rfl, trivial⟩, rfl, ⟨rfl, trivial⟩⟩

/-! 105: slices.Compare[[]int,int] -/
def F105_c3 (K : Nat) (a0 : (List Int)) (a1 : (List Int)) : Option (Int) :=
  if (decide ((a0.length : Int) < (a1.length : Int))) = true then
    some (Int.negSucc 0)
  else
    some 0
def F105_l2 (K : Nat) (a0 : (List Int)) (a1 : (List Int)) (c4 : Option (Int)) : Nat → Int → Option (Int)
  | 0, _ => none
  | k2 + 1, v1 =>
    if (decide (v1 < (a0.length : Int))) = true then
      if (0 : Int) ≤ v1 ∧ v1 < a0.length then
        if (decide (v1 ≥ (a1.length : Int))) = true then
          some 1
        else
          if (0 : Int) ≤ v1 ∧ v1 < a1.length then
            (F51 K (a0.getD v1.toNat 0) (a1.getD v1.toNat 0)).bind fun v9 =>
              if (v9 != 0) = true then
                some v9
              else
                (F105_l2 K a0 a1 c4 k2) (IntKind.i64.wrap (v1 + 1))
          else none
      else none
    else
      c4
def F105 (K : Nat) (a0 : (List Int)) (a1 : (List Int)) : Option (Int) :=
  F105_l2 K a0 a1 (F105_c3 K a0 a1) K 0
theorem F105_ok (K : Nat) (a0 : (List Int)) (a1 : (List Int)) (r : Int) (h : F105 K a0 a1 = some r) : ACall P 105 ⟨[(.sl 1 (a0.map e_i64) false), (.sl 1 (a1.map e_i64) false)], [], (.int .i64 r), [], []⟩ := by
  refine acall_of Try.func105 Try.results105 rfl Try.ntmps105 rfl rfl rfl ?_
  intro E Q hP hN hro hret
  obtain ⟨P', nt', w0, F0, p0, S0, β0, ro0⟩ := E
  simp only at hP hN
  subst hP hN
  dsimp only [argT]
  unfold F105 at h
  refine AWp.seq ?_
  refine AWp.region ?_
  refine AOps.cons rfl (st_assign (v := (.int .i64 0)) rfl rfl) rfl ?_
  refine AOps.nil ?_
  refine At.next ?_
  refine AWp.seq ?_
  refine AWp.seq ?_
  refine AWp.region ?_
  refine AOps.cons rfl (st_move (v := (.sl 1 (a0.map e_i64) false)) rfl rfl) rfl ?_
  refine AOps.cons rfl (stx_len (l := a0) (enc := e_i64) rfl s87 rfl) rfl ?_
  refine AOps.cons rfl (st_move (v := (.int .i64 0)) rfl rfl) rfl ?_
  refine AOps.nil ?_
  refine At.next ?_
  refine AWp.weaken (st' := ⟨[(0, (.sl 1 (a0.map e_i64) false)), (1, (.sl 1 (a1.map e_i64) false)), (9, (.sl 1 (a0.map e_i64) false)), (10, (.int .i64 (a0.length : Int))), (11, (.int .i64 0))], []⟩) ⟨rfl, rfl, rfl, rfl, rfl, trivial⟩ trivial ?_
  refine AWp.loopBlock (V := Int) (X := Unit) (lp := fun k v => F105_l2 K a0 a1 (F105_c3 K a0 a1) k v = some r) (sh := fun v => ⟨[(0, (.sl 1 (a0.map e_i64) false)), (1, (.sl 1 (a1.map e_i64) false)), (9, (.sl 1 (a0.map e_i64) false)), (10, (.int .i64 (a0.length : Int))), (11, (.int .i64 v))], []⟩) (x := fun v => F105_c3 K a0 a1 = some r) (shx := fun v => ⟨[(0, (.sl 1 (a0.map e_i64) false)), (1, (.sl 1 (a1.map e_i64) false))], []⟩) (k := K) (v := 0) h ?_ ?_
  · intro v h
    try dsimp only at h ⊢
    unfold F105_c3 at h
    refine At.next ?_
    refine AWp.seq ?_
    refine AWp.seq ?_
    refine AWp.region ?_
    refine AOps.cons rfl (st_move (v := (.sl 1 (a0.map e_i64) false)) rfl rfl) rfl ?_
    refine AOps.cons rfl (stx_len (l := a0) (enc := e_i64) rfl s87 rfl) rfl ?_
    refine AOps.cons rfl (st_move (v := (.sl 1 (a1.map e_i64) false)) rfl rfl) rfl ?_
    refine AOps.cons rfl (stx_len (l := a1) (enc := e_i64) rfl s87 rfl) rfl ?_
    refine AOps.cons rfl (st_cmp (k := .i64) (a := (a0.length : Int)) (b := (a1.length : Int)) (c := (decide ((a0.length : Int) < (a1.length : Int)))) rfl rfl rfl rfl) rfl ?_
    refine AOps.nil ?_
    refine At.next ?_
    have hif := of_if h
    refine AWp.cond rfl (fun hc => ?_) (fun hc => ?_)
    · have h := hif.1 hc
      refine AWp.seq ?_
      refine AWp.region ?_
      refine AOps.cons rfl (st_assign (v := (.int .i64 (Int.negSucc 0))) rfl rfl) rfl ?_
      refine AOps.nil ?_
      refine At.next ?_
      refine AWp.ret ?_
      refine At.thruR ?_
      have h := Option.some.inj h
      subst h
      refine (hret _ ?_).1
      exact ⟨[(.int .i64 (Int.negSucc 0))], ⟨rfl, trivial⟩, rfl, trivial⟩
    · have h := hif.2 hc
      refine AWp.skip ?_
      refine At.next ?_
      refine AWp.seq ?_
      refine AWp.region ?_
      refine AOps.cons rfl (st_assign (v := (.int .i64 0)) rfl rfl) rfl ?_
      refine AOps.nil ?_
      refine At.next ?_
      refine AWp.ret ?_
      have h := Option.some.inj h
      subst h
      refine (hret _ ?_).1
      exact ⟨[(.int .i64 0)], ⟨rfl, trivial⟩, rfl, trivial⟩
  · intro N k2 v h IH2 J2
    revert h
    revert v
    intro v1 h
    try dsimp only at h IH2 J2 ⊢
    cases k2 with
    | zero => cases h
    | succ k2 =>
      rw [F105_l2] at h
      refine AWp.seq ?_
      refine AWp.region ?_
      refine AOps.cons rfl (st_cmp (k := .i64) (a := v1) (b := (a0.length : Int)) (c := (decide (v1 < (a0.length : Int)))) rfl rfl rfl rfl) rfl ?_
      refine AOps.nil ?_
      refine At.next ?_
      refine AWp.seq ?_
      have hif := of_if h
      refine AWp.cond rfl (fun hc => ?_) (fun hc => ?_)
      · have h := hif.1 hc
        refine AWp.skip ?_
        refine At.next ?_
        refine AWp.seq ?_
        refine AWp.block ?_
        refine AWp.seq ?_
        refine AWp.region ?_
        refine AOps.cons rfl (st_move (v := (.int .i64 v1)) rfl rfl) rfl ?_
        have ⟨hg6, h⟩ := of_guard h
        refine AOps.cons rfl (st_index (k := .i64) (l := a0) (enc := e_i64) (z := 0) (n := v1) (cs := [(.int .i64 (a0.getD v1.toNat 0))]) (full := false) rfl s87 rfl rfl hg6 rfl) rfl ?_
        refine AOps.cons rfl (st_loadI (cs := [(.int .i64 (a0.getD v1.toNat 0))]) (v := (.int .i64 (a0.getD v1.toNat 0))) rfl o3 rfl rfl) rfl ?_
        refine AOps.cons rfl (st_assign (v := (.int .i64 v1)) rfl rfl) rfl ?_
        refine AOps.cons rfl (st_assign (v := (.int .i64 (a0.getD v1.toNat 0))) rfl rfl) rfl ?_
        refine AOps.nil ?_
        refine At.next ?_
        refine AWp.seq ?_
        refine AWp.seq ?_
        refine AWp.region ?_
        refine AOps.cons rfl (st_move (v := (.int .i64 v1)) rfl rfl) rfl ?_
        refine AOps.cons rfl (st_move (v := (.sl 1 (a1.map e_i64) false)) rfl rfl) rfl ?_
        refine AOps.cons rfl (stx_len (l := a1) (enc := e_i64) rfl s87 rfl) rfl ?_
        refine AOps.cons rfl (st_cmp (k := .i64) (a := v1) (b := (a1.length : Int)) (c := (decide (v1 ≥ (a1.length : Int)))) rfl rfl rfl rfl) rfl ?_
        refine AOps.nil ?_
        refine At.next ?_
        have hif := of_if h
        refine AWp.cond rfl (fun hc => ?_) (fun hc => ?_)
        · have h := hif.1 hc
          refine AWp.seq ?_
          refine AWp.region ?_
          refine AOps.cons rfl (st_assign (v := (.int .i64 1)) rfl rfl) rfl ?_
          refine AOps.nil ?_
          refine At.next ?_
          refine AWp.ret ?_
          refine At.thruR ?_
          refine At.overR ?_
          refine At.thruR ?_
          refine At.thruR (At.overR ?_)
          refine At.thruR ?_
          have h := Option.some.inj h
          subst h
          refine (hret _ ?_).1
          exact ⟨[(.int .i64 1)], ⟨rfl, trivial⟩, rfl, trivial⟩
        · have h := hif.2 hc
          refine AWp.skip ?_
          refine At.next ?_
          refine AWp.seq ?_
          refine AWp.region ?_
          refine AOps.cons rfl (st_move (v := (.sl 1 (a1.map e_i64) false)) rfl rfl) rfl ?_
          refine AOps.cons rfl (st_move (v := (.int .i64 v1)) rfl rfl) rfl ?_
          have ⟨hg7, h⟩ := of_guard h
          refine AOps.cons rfl (st_index (k := .i64) (l := a1) (enc := e_i64) (z := 0) (n := v1) (cs := [(.int .i64 (a1.getD v1.toNat 0))]) (full := false) rfl s87 rfl rfl hg7 rfl) rfl ?_
          refine AOps.cons rfl (st_loadI (cs := [(.int .i64 (a1.getD v1.toNat 0))]) (v := (.int .i64 (a1.getD v1.toNat 0))) rfl o3 rfl rfl) rfl ?_
          refine AOps.cons rfl (st_assign (v := (.int .i64 (a1.getD v1.toNat 0))) rfl rfl) rfl ?_
          refine AOps.nil ?_
          refine At.next ?_
          refine AWp.seq ?_
          refine AWp.region ?_
          refine AOps.cons rfl (st_move (v := (.int .i64 (a0.getD v1.toNat 0))) rfl rfl) rfl ?_
          refine AOps.cons rfl (st_move (v := (.int .i64 (a1.getD v1.toNat 0))) rfl rfl) rfl ?_
          have ⟨v9, hv9, h⟩ := of_bind h
          refine AOps.cons rfl (st_call0 (ar := [(.int .i64 (a0.getD v1.toNat 0)), (.int .i64 (a1.getD v1.toNat 0))]) (caps := []) Try.call51 (F51_ok K (a0.getD v1.toNat 0) (a1.getD v1.toNat 0) v9 hv9) rfl rfl ⟨rfl, rfl, trivial⟩ rfl) rfl ?_
          refine AOps.cons rfl (st_assign (v := (.int .i64 v9)) rfl rfl) rfl ?_
          refine AOps.nil ?_
          refine At.next ?_
          refine AWp.seq ?_
          refine AWp.region ?_
          refine AOps.cons rfl (st_move (v := (.int .i64 v9)) rfl rfl) rfl ?_
          refine AOps.cons rfl (st_cmp (k := .i64) (a := v9) (b := 0) (c := (v9 != 0)) rfl rfl rfl rfl) rfl ?_
          refine AOps.nil ?_
          refine At.next ?_
          have hif := of_if h
          refine AWp.cond rfl (fun hc => ?_) (fun hc => ?_)
          · have h := hif.1 hc
            refine AWp.seq ?_
            refine AWp.region ?_
            refine AOps.cons rfl (st_move (v := (.int .i64 v9)) rfl rfl) rfl ?_
            refine AOps.cons rfl (st_assign (v := (.int .i64 v9)) rfl rfl) rfl ?_
            refine AOps.nil ?_
            refine At.next ?_
            refine AWp.ret ?_
            refine At.overR ?_
            refine At.thruR ?_
            refine At.thruR (At.overR ?_)
            refine At.thruR ?_
            have h := Option.some.inj h
            subst h
            refine (hret _ ?_).1
            exact ⟨[(.int .i64 v9)], ⟨rfl, trivial⟩, rfl, trivial⟩
          · have h := hif.2 hc
            refine AWp.skip ?_
            refine At.end ?_
            refine At.next ?_
            refine AWp.region ?_
            refine AOps.cons rfl (st_arith (k := .i64) (a := v1) (b := 1) (c := (IntKind.i64.wrap (v1 + 1))) rfl rfl rfl rfl) rfl ?_
            refine AOps.cons rfl (st_move (v := (.int .i64 (IntKind.i64.wrap (v1 + 1)))) rfl rfl) rfl ?_
            refine AOps.nil ?_
            exact At.weaken (st' := ⟨[(0, (.sl 1 (a0.map e_i64) false)), (1, (.sl 1 (a1.map e_i64) false)), (9, (.sl 1 (a0.map e_i64) false)), (10, (.int .i64 (a0.length : Int))), (11, (.int .i64 (IntKind.i64.wrap (v1 + 1))))], []⟩) ⟨rfl, rfl, rfl, rfl, rfl, trivial⟩ trivial (IH2 _ (IntKind.i64.wrap (v1 + 1)) (Nat.lt_succ_self _) h)
      · have h := hif.2 hc
        refine AWp.exit ?_
        refine At.thru ?_
        exact At.weaken (st' := ⟨[(0, (.sl 1 (a0.map e_i64) false)), (1, (.sl 1 (a1.map e_i64) false))], []⟩) ⟨rfl, rfl, trivial⟩ trivial (J2 () h)

/-! 130: cmp.isNaN[string] -/
def F130 (K : Nat) (a0 : Str) : Option (Bool) :=
  some (!(a0 == a0))
theorem F130_ok (K : Nat) (a0 : Str) (r : Bool) (h : F130 K a0 = some r) : ACall P 130 ⟨[(.str a0)], [], (.bool r), [], []⟩ := by
  refine acall_of Try.func130 Try.results130 rfl Try.ntmps130 rfl rfl rfl ?_
  intro E Q hP hN hro hret
  obtain ⟨P', nt', w0, F0, p0, S0, β0, ro0⟩ := E
  simp only at hP hN
  subst hP hN
  dsimp only [argT]
  unfold F130 at h
  refine AWp.seq ?_
  refine AWp.region ?_
  refine AOps.cons rfl (st_assign (v := (.bool false)) rfl rfl) rfl ?_
  refine AOps.nil ?_
  refine At.next ?_
  refine AWp.seq ?_
  refine AWp.region ?_
  refine AOps.cons rfl (st_move (v := (.str a0)) rfl rfl) rfl ?_
  refine AOps.cons rfl (st_move (v := (.str a0)) rfl rfl) rfl ?_
  refine AOps.cons rfl (st_cmpS (a := a0) (b := a0) (c := (!(a0 == a0))) rfl rfl rfl rfl) rfl ?_
  refine AOps.cons rfl (st_assign (v := (.bool (!(a0 == a0)))) rfl rfl) rfl ?_
  refine AOps.nil ?_
  refine At.next ?_
  refine AWp.ret ?_
  have h := Option.some.inj h
  subst h
  refine (hret _ ?_).1
  exact ⟨[(.bool (!(a0 == a0)))], ⟨rfl, trivial⟩, rfl, trivial⟩

/-! 106: cmp.Compare[string] -/
def F106 (K : Nat) (a0 : Str) (a1 : Str) : Option (Int) :=
  (F130 K a0).bind fun v2 =>
    (F130 K a1).bind fun v4 =>
      if v2 = true then
        if v4 = true then
          some 0
        else
          some (Int.negSucc 0)
      else
        if v4 = true then
          some 1
        else
          if (slt a0 a1) = true then
            some (Int.negSucc 0)
          else
            if (!(slt a0 a1 || a0 == a1)) = true then
              some 1
            else
              some 0
theorem F106_ok (K : Nat) (a0 : Str) (a1 : Str) (r : Int) (h : F106 K a0 a1 = some r) : ACall P 106 ⟨[(.str a0), (.str a1)], [], (.int .i64 r), [], []⟩ := by
  refine acall_of Try.func106 Try.results106 rfl Try.ntmps106 rfl rfl rfl ?_
  intro E Q hP hN hro hret
  obtain ⟨P', nt', w0, F0, p0, S0, β0, ro0⟩ := E
  simp only at hP hN
  subst hP hN
  dsimp only [argT]
  unfold F106 at h
  refine AWp.seq ?_
  refine AWp.region ?_
  refine AOps.cons rfl (st_assign (v := (.int .i64 0)) rfl rfl) rfl ?_
  refine AOps.nil ?_
  refine At.next ?_
  refine AWp.seq ?_
  refine AWp.region ?_
  refine AOps.cons rfl (st_move (v := (.str a0)) rfl rfl) rfl ?_
  have ⟨v2, hv2, h⟩ := of_bind h
  refine AOps.cons rfl (st_call0 (ar := [(.str a0)]) (caps := []) Try.call130 (F130_ok K a0 v2 hv2) rfl rfl ⟨rfl, trivial⟩ rfl) rfl ?_
  refine AOps.cons rfl (st_assign (v := (.bool v2)) rfl rfl) rfl ?_
  refine AOps.nil ?_
  refine At.next ?_
  refine AWp.seq ?_
  refine AWp.region ?_
  refine AOps.cons rfl (st_move (v := (.str a1)) rfl rfl) rfl ?_
  have ⟨v4, hv4, h⟩ := of_bind h
  refine AOps.cons rfl (st_call0 (ar := [(.str a1)]) (caps := []) Try.call130 (F130_ok K a1 v4 hv4) rfl rfl ⟨rfl, trivial⟩ rfl) rfl ?_
  refine AOps.cons rfl (st_assign (v := (.bool v4)) rfl rfl) rfl ?_
  refine AOps.nil ?_
  refine At.next ?_
  refine AWp.seq ?_
  refine AWp.seq ?_
  refine AWp.region ?_
  refine AOps.cons rfl (st_move (v := (.bool v2)) rfl rfl) rfl ?_
  refine AOps.nil ?_
  refine At.next ?_
  have hif := of_if h
  refine AWp.cond rfl (fun hc => ?_) (fun hc => ?_)
  · have h := hif.1 hc
    refine AWp.seq ?_
    refine AWp.seq ?_
    refine AWp.region ?_
    refine AOps.cons rfl (st_move (v := (.bool v4)) rfl rfl) rfl ?_
    refine AOps.nil ?_
    refine At.next ?_
    have hif := of_if h
    refine AWp.cond rfl (fun hc => ?_) (fun hc => ?_)
    · have h := hif.1 hc
      refine AWp.seq ?_
      refine AWp.region ?_
      refine AOps.cons rfl (st_assign (v := (.int .i64 0)) rfl rfl) rfl ?_
      refine AOps.nil ?_
      refine At.next ?_
      refine AWp.ret ?_
      refine At.thruR ?_
      refine At.thruR ?_
      have h := Option.some.inj h
      subst h
      refine (hret _ ?_).1
      exact ⟨[(.int .i64 0)], ⟨rfl, trivial⟩, rfl, trivial⟩
    · have h := hif.2 hc
      refine AWp.skip ?_
      refine At.next ?_
      refine AWp.seq ?_
      refine AWp.region ?_
      refine AOps.cons rfl (st_assign (v := (.int .i64 (Int.negSucc 0))) rfl rfl) rfl ?_
      refine AOps.nil ?_
      refine At.next ?_
      refine AWp.ret ?_
      refine At.thruR ?_
      have h := Option.some.inj h
      subst h
      refine (hret _ ?_).1
      exact ⟨[(.int .i64 (Int.negSucc 0))], ⟨rfl, trivial⟩, rfl, trivial⟩
  · have h := hif.2 hc
    refine AWp.skip ?_
    refine At.next ?_
    refine AWp.seq ?_
    refine AWp.seq ?_
    refine AWp.region ?_
    refine AOps.cons rfl (st_move (v := (.bool v4)) rfl rfl) rfl ?_
    refine AOps.nil ?_
    refine At.next ?_
    have hif := of_if h
    refine AWp.cond rfl (fun hc => ?_) (fun hc => ?_)
    · have h := hif.1 hc
      refine AWp.seq ?_
      refine AWp.region ?_
      refine AOps.cons rfl (st_assign (v := (.int .i64 1)) rfl rfl) rfl ?_
      refine AOps.nil ?_
      refine At.next ?_
      refine AWp.ret ?_
      refine At.thruR ?_
      have h := Option.some.inj h
      subst h
      refine (hret _ ?_).1
      exact ⟨[(.int .i64 1)], ⟨rfl, trivial⟩, rfl, trivial⟩
    · have h := hif.2 hc
      refine AWp.skip ?_
      refine At.next ?_
      refine AWp.seq ?_
      refine AWp.seq ?_
      refine AWp.region ?_
      refine AOps.cons rfl (st_move (v := (.str a0)) rfl rfl) rfl ?_
      refine AOps.cons rfl (st_move (v := (.str a1)) rfl rfl) rfl ?_
      refine AOps.cons rfl (st_cmpS (a := a0) (b := a1) (c := (slt a0 a1)) rfl rfl rfl rfl) rfl ?_
      refine AOps.nil ?_
      refine At.next ?_
      have hif := of_if h
      refine AWp.cond rfl (fun hc => ?_) (fun hc => ?_)
      · have h := hif.1 hc
        refine AWp.seq ?_
        refine AWp.region ?_
        refine AOps.cons rfl (st_assign (v := (.int .i64 (Int.negSucc 0))) rfl rfl) rfl ?_
        refine AOps.nil ?_
        refine At.next ?_
        refine AWp.ret ?_
        refine At.thruR ?_
        have h := Option.some.inj h
        subst h
        refine (hret _ ?_).1
        exact ⟨[(.int .i64 (Int.negSucc 0))], ⟨rfl, trivial⟩, rfl, trivial⟩
      · have h := hif.2 hc
        refine AWp.skip ?_
        refine At.next ?_
        refine AWp.seq ?_
        refine AWp.seq ?_
        refine AWp.region ?_
        refine AOps.cons rfl (st_move (v := (.str a0)) rfl rfl) rfl ?_
        refine AOps.cons rfl (st_move (v := (.str a1)) rfl rfl) rfl ?_
        refine AOps.cons rfl (st_cmpS (a := a0) (b := a1) (c := (!(slt a0 a1 || a0 == a1))) rfl rfl rfl rfl) rfl ?_
        refine AOps.nil ?_
        refine At.next ?_
        have hif := of_if h
        refine AWp.cond rfl (fun hc => ?_) (fun hc => ?_)
        · have h := hif.1 hc
          refine AWp.seq ?_
          refine AWp.region ?_
          refine AOps.cons rfl (st_assign (v := (.int .i64 1)) rfl rfl) rfl ?_
          refine AOps.nil ?_
          refine At.next ?_
          refine AWp.ret ?_
          refine At.thruR ?_
          have h := Option.some.inj h
          subst h
          refine (hret _ ?_).1
          exact ⟨[(.int .i64 1)], ⟨rfl, trivial⟩, rfl, trivial⟩
        · have h := hif.2 hc
          refine AWp.skip ?_
          refine At.next ?_
          refine AWp.seq ?_
          refine AWp.region ?_
          refine AOps.cons rfl (st_assign (v := (.int .i64 0)) rfl rfl) rfl ?_
          refine AOps.nil ?_
          refine At.next ?_
          refine AWp.ret ?_
          have h := Option.some.inj h
          subst h
          refine (hret _ ?_).1
          exact ⟨[(.int .i64 0)], ⟨rfl, trivial⟩, rfl, trivial⟩

/-! 107: sleuth/span.number -/
def F107 (K : Nat) (a0 : Bool) : Option (Int) :=
  if a0 = true then
    some 1
  else
    some 0
theorem F107_ok (K : Nat) (a0 : Bool) (r : Int) (h : F107 K a0 = some r) : ACall P 107 ⟨[(.bool a0)], [], (.int .i64 r), [], []⟩ := by
  refine acall_of Try.func107 Try.results107 rfl Try.ntmps107 rfl rfl rfl ?_
  intro E Q hP hN hro hret
  obtain ⟨P', nt', w0, F0, p0, S0, β0, ro0⟩ := E
  simp only at hP hN
  subst hP hN
  dsimp only [argT]
  unfold F107 at h
  refine AWp.seq ?_
  refine AWp.region ?_
  refine AOps.cons rfl (st_assign (v := (.int .i64 0)) rfl rfl) rfl ?_
  refine AOps.nil ?_
  refine At.next ?_
  refine AWp.seq ?_
  refine AWp.seq ?_
  refine AWp.region ?_
  refine AOps.cons rfl (st_move (v := (.bool a0)) rfl rfl) rfl ?_
  refine AOps.nil ?_
  refine At.next ?_
  have hif := of_if h
  refine AWp.cond rfl (fun hc => ?_) (fun hc => ?_)
  · have h := hif.1 hc
    refine AWp.seq ?_
    refine AWp.region ?_
    refine AOps.cons rfl (st_assign (v := (.int .i64 1)) rfl rfl) rfl ?_
    refine AOps.nil ?_
    refine At.next ?_
    refine AWp.ret ?_
    refine At.thruR ?_
    have h := Option.some.inj h
    subst h
    refine (hret _ ?_).1
    exact ⟨[(.int .i64 1)], ⟨rfl, trivial⟩, rfl, trivial⟩
  · have h := hif.2 hc
    refine AWp.skip ?_
    refine At.next ?_
    refine AWp.seq ?_
    refine AWp.region ?_
    refine AOps.cons rfl (st_assign (v := (.int .i64 0)) rfl rfl) rfl ?_
    refine AOps.nil ?_
    refine At.next ?_
    refine AWp.ret ?_
    have h := Option.some.inj h
    subst h
    refine (hret _ ?_).1
    exact ⟨[(.int .i64 0)], ⟨rfl, trivial⟩, rfl, trivial⟩

/-! 133: sleuth/attribute.CompareValues -/
def F133 (K : Nat) (a0 : Tapi_Value) (a1 : Tapi_Value) : Option (Int) :=
  (F51 K a0.Kind a1.Kind).bind fun v2 =>
    (F106 K a0.Text a1.Text).bind fun v4 =>
      (F51 K a0.Int a1.Int).bind fun v6 =>
        (F50 K [v2, v4, v6]).bind fun v8 =>
          some v8
theorem F133_ok (K : Nat) (a0 : Tapi_Value) (a1 : Tapi_Value) (r : Int) (h : F133 K a0 a1 = some r) : ACall P 133 ⟨[(e_Tapi_Value a0), (e_Tapi_Value a1)], [], (.int .i64 r), [], []⟩ := by
  refine acall_of Try.func133 Try.results133 rfl Try.ntmps133 rfl rfl rfl ?_
  intro E Q hP hN hro hret
  obtain ⟨P', nt', w0, F0, p0, S0, β0, ro0⟩ := E
  simp only at hP hN
  subst hP hN
  dsimp only [argT]
  unfold F133 at h
  refine AWp.seq ?_
  refine AWp.region ?_
  refine AOps.cons rfl (st_box (v := (e_Tapi_Value a0)) (cs := (e_Tapi_Value a0).cells) rfl rfl rfl rfl rfl) rfl ?_
  refine AOps.cons rfl (st_box (v := (e_Tapi_Value a1)) (cs := (e_Tapi_Value a1).cells) rfl rfl rfl rfl rfl) rfl ?_
  refine AOps.cons rfl (st_assign (v := (.int .i64 0)) rfl rfl) rfl ?_
  refine AOps.nil ?_
  refine At.next ?_
  refine AWp.seq ?_
  refine AWp.regionD mixed ?_
  refine AOpsD.cons 0 rfl (st_fieldP (m := 2) (o := 0) rfl f165_0 rfl rfl) ?_
  refine AOpsD.cons 1 rfl (st_loadP (cs := (e_Tapi_Value a0).cells) (v := (.int .i64 a0.Kind)) rfl o3 rfl rfl rfl) ?_
  refine AOpsD.cons 2 rfl (st_fieldP (m := 3) (o := 0) rfl f165_0 rfl rfl) ?_
  refine AOpsD.cons 3 rfl (st_loadP (cs := (e_Tapi_Value a1).cells) (v := (.int .i64 a1.Kind)) rfl o3 rfl rfl rfl) ?_
  have ⟨v2, hv2, h⟩ := of_bind h
  refine AOpsD.cons 4 rfl (st_call0 (ar := [(.int .i64 a0.Kind), (.int .i64 a1.Kind)]) (caps := []) Try.call51 (F51_ok K a0.Kind a1.Kind v2 hv2) rfl rfl ⟨rfl, rfl, trivial⟩ rfl) ?_
  refine AOpsD.cons 5 rfl (st_fieldP (m := 2) (o := 0) rfl f165_1 rfl rfl) ?_
  refine AOpsD.cons 6 rfl (st_loadP (cs := (e_Tapi_Value a0).cells) (v := (.str a0.Text)) rfl o9 rfl rfl rfl) ?_
  refine AOpsD.cons 7 rfl (st_fieldP (m := 3) (o := 0) rfl f165_1 rfl rfl) ?_
  refine AOpsD.cons 8 rfl (st_loadP (cs := (e_Tapi_Value a1).cells) (v := (.str a1.Text)) rfl o9 rfl rfl rfl) ?_
  have ⟨v4, hv4, h⟩ := of_bind h
  refine AOpsD.cons 9 rfl (st_call0 (ar := [(.str a0.Text), (.str a1.Text)]) (caps := []) Try.call106 (F106_ok K a0.Text a1.Text v4 hv4) rfl rfl ⟨rfl, rfl, trivial⟩ rfl) ?_
  refine AOpsD.cons 10 rfl (st_fieldP (m := 2) (o := 0) rfl f165_2 rfl rfl) ?_
  refine AOpsD.cons 11 rfl (st_loadP (cs := (e_Tapi_Value a0).cells) (v := (.int .i64 a0.Int)) rfl o3 rfl rfl rfl) ?_
  refine AOpsD.cons 12 rfl (st_fieldP (m := 3) (o := 0) rfl f165_2 rfl rfl) ?_
  refine AOpsD.cons 13 rfl (st_loadP (cs := (e_Tapi_Value a1).cells) (v := (.int .i64 a1.Int)) rfl o3 rfl rfl rfl) ?_
  have ⟨v6, hv6, h⟩ := of_bind h
  refine AOpsD.cons 14 rfl (st_call0 (ar := [(.int .i64 a0.Int), (.int .i64 a1.Int)]) (caps := []) Try.call51 (F51_ok K a0.Int a1.Int v6 hv6) rfl rfl ⟨rfl, rfl, trivial⟩ rfl) ?_
  refine AOpsD.cons 15 rfl (stx_buildSlice (vs := [(.int .i64 v2), (.int .i64 v4), (.int .i64 v6)]) (enc := e_i64) (l := [v2, v4, v6]) rfl el87 rfl rfl ⟨rfl, rfl, rfl, trivial⟩ rfl els_i64 rfl rfl rfl rfl) ?_
  have ⟨v8, hv8, h⟩ := of_bind h
  refine AOpsD.cons 16 rfl (st_callB (rd := [(20, (.vec 1 (List.map e_i64 [v2, v4, v6])))]) (ar := [(.vs 20)]) (caps := []) Try.call50 (F50_ok K [v2, v4, v6] v8 hv8) rfl rfl ⟨rfl, trivial⟩ (subS_mem ⟨rfl, trivial⟩) rfl rfl rfl) ?_
  refine AOpsD.cons 17 rfl (st_assign (v := (.int .i64 v8)) rfl rfl) ?_
  refine AOpsD.nil (by kernel_rfl) rfl ?_
  refine At.next ?_
  refine AWp.ret ?_
  have h := Option.some.inj h
  subst h
  refine (hret _ ?_).1
  exact ⟨[(.int .i64 v8)], ⟨rfl, trivial⟩, rfl, trivial⟩

/-! 132: sleuth/attribute.CompareAttrs$1 -/
def F132 (K : Nat) (a0 : Tapi_Attr) (a1 : Tapi_Attr) : Option (Int) :=
  (F106 K a0.Key a1.Key).bind fun v2 =>
    (F133 K a0.Value a1.Value).bind fun v4 =>
      (F50 K [v2, v4]).bind fun v6 =>
        some v6
theorem F132_ok (K : Nat) (a0 : Tapi_Attr) (a1 : Tapi_Attr) (r : Int) (h : F132 K a0 a1 = some r) : ACall P 132 ⟨[(e_Tapi_Attr a0), (e_Tapi_Attr a1)], [], (.int .i64 r), [], []⟩ := by
  refine acall_of Try.func132 Try.results132 rfl Try.ntmps132 rfl rfl rfl ?_
  intro E Q hP hN hro hret
  obtain ⟨P', nt', w0, F0, p0, S0, β0, ro0⟩ := E
  simp only at hP hN
  subst hP hN
  dsimp only [argT]
  unfold F132 at h
  refine AWp.seq ?_
  refine AWp.region ?_
  refine AOps.cons rfl (st_box (v := (e_Tapi_Attr a0)) (cs := (e_Tapi_Attr a0).cells) rfl rfl rfl rfl rfl) rfl ?_
  refine AOps.cons rfl (st_box (v := (e_Tapi_Attr a1)) (cs := (e_Tapi_Attr a1).cells) rfl rfl rfl rfl rfl) rfl ?_
  refine AOps.cons rfl (st_assign (v := (.int .i64 0)) rfl rfl) rfl ?_
  refine AOps.nil ?_
  refine At.next ?_
  refine AWp.seq ?_
  refine AWp.regionD mixed ?_
  refine AOpsD.cons 0 rfl (st_fieldP (m := 2) (o := 0) rfl f167_0 rfl rfl) ?_
  refine AOpsD.cons 1 rfl (st_loadP (cs := (e_Tapi_Attr a0).cells) (v := (.str a0.Key)) rfl o9 rfl rfl rfl) ?_
  refine AOpsD.cons 2 rfl (st_fieldP (m := 3) (o := 0) rfl f167_0 rfl rfl) ?_
  refine AOpsD.cons 3 rfl (st_loadP (cs := (e_Tapi_Attr a1).cells) (v := (.str a1.Key)) rfl o9 rfl rfl rfl) ?_
  have ⟨v2, hv2, h⟩ := of_bind h
  refine AOpsD.cons 4 rfl (st_call0 (ar := [(.str a0.Key), (.str a1.Key)]) (caps := []) Try.call106 (F106_ok K a0.Key a1.Key v2 hv2) rfl rfl ⟨rfl, rfl, trivial⟩ rfl) ?_
  refine AOpsD.cons 5 rfl (st_fieldP (m := 2) (o := 0) rfl f167_1 rfl rfl) ?_
  refine AOpsD.cons 6 rfl (st_loadPA (cs := (e_Tapi_Attr a0).cells) (vs := (e_Tapi_Value a0.Value).cells) rfl a165 rfl rfl rfl rfl) ?_
  refine AOpsD.cons 7 rfl (st_fieldP (m := 3) (o := 0) rfl f167_1 rfl rfl) ?_
  refine AOpsD.cons 8 rfl (st_loadPA (cs := (e_Tapi_Attr a1).cells) (vs := (e_Tapi_Value a1.Value).cells) rfl a165 rfl rfl rfl rfl) ?_
  have ⟨v4, hv4, h⟩ := of_bind h
  refine AOpsD.cons 9 rfl (st_call0 (ar := [(e_Tapi_Value a0.Value), (e_Tapi_Value a1.Value)]) (caps := []) Try.call133 (F133_ok K a0.Value a1.Value v4 hv4) rfl rfl ⟨rfl, rfl, trivial⟩ rfl) ?_
  refine AOpsD.cons 10 rfl (stx_buildSlice (vs := [(.int .i64 v2), (.int .i64 v4)]) (enc := e_i64) (l := [v2, v4]) rfl el87 rfl rfl ⟨rfl, rfl, trivial⟩ rfl els_i64 rfl rfl rfl rfl) ?_
  have ⟨v6, hv6, h⟩ := of_bind h
  refine AOpsD.cons 11 rfl (st_callB (rd := [(15, (.vec 1 (List.map e_i64 [v2, v4])))]) (ar := [(.vs 15)]) (caps := []) Try.call50 (F50_ok K [v2, v4] v6 hv6) rfl rfl ⟨rfl, trivial⟩ (subS_mem ⟨rfl, trivial⟩) rfl rfl rfl) ?_
  refine AOpsD.cons 12 rfl (st_assign (v := (.int .i64 v6)) rfl rfl) ?_
  refine AOpsD.nil (by kernel_rfl) rfl ?_
  refine At.next ?_
  refine AWp.ret ?_
  have h := Option.some.inj h
  subst h
  refine (hret _ ?_).1
  exact ⟨[(.int .i64 v6)], ⟨rfl, trivial⟩, rfl, trivial⟩

/-! 131: slices.CompareFunc[[]sleuth/api.Attr,[]sleuth/api.Attr,sleuth/api.Attr,sleuth/api.Attr] -/
def F131_c3 (K : Nat) (a0 : (List Tapi_Attr)) (a1 : (List Tapi_Attr)) : Option (Int) :=
  if (decide ((a0.length : Int) < (a1.length : Int))) = true then
    some (Int.negSucc 0)
  else
    some 0
def F131_l2 (K : Nat) (a0 : (List Tapi_Attr)) (a1 : (List Tapi_Attr)) (c4 : Option (Int)) : Nat → Int → Option (Int)
  | 0, _ => none
  | k2 + 1, v1 =>
    if (decide (v1 < (a0.length : Int))) = true then
      if (0 : Int) ≤ v1 ∧ v1 < a0.length then
        if (decide (v1 ≥ (a1.length : Int))) = true then
          some 1
        else
          if (0 : Int) ≤ v1 ∧ v1 < a1.length then
            (F132 K (a0.getD v1.toNat z_Tapi_Attr) (a1.getD v1.toNat z_Tapi_Attr)).bind fun v9 =>
              if (v9 != 0) = true then
                some v9
              else
                (F131_l2 K a0 a1 c4 k2) (IntKind.i64.wrap (v1 + 1))
          else none
      else none
    else
      c4
def F131 (K : Nat) (a0 : (List Tapi_Attr)) (a1 : (List Tapi_Attr)) : Option (Int) :=
  F131_l2 K a0 a1 (F131_c3 K a0 a1) K 0
theorem F131_ok (K : Nat) (a0 : (List Tapi_Attr)) (a1 : (List Tapi_Attr)) (r : Int) (h : F131 K a0 a1 = some r) : ACall P 131 ⟨[(.sl 4 (a0.map e_Tapi_Attr) false), (.sl 4 (a1.map e_Tapi_Attr) false), (.clo 132 [])], [], (.int .i64 r), [], []⟩ := by
  refine acall_of Try.func131 Try.results131 rfl Try.ntmps131 rfl rfl rfl ?_
  intro E Q hP hN hro hret
  obtain ⟨P', nt', w0, F0, p0, S0, β0, ro0⟩ := E
  simp only at hP hN
  subst hP hN
  dsimp only [argT]
  unfold F131 at h
  refine AWp.seq ?_
  refine AWp.region ?_
  refine AOps.cons rfl (st_assign (v := (.int .i64 0)) rfl rfl) rfl ?_
  refine AOps.nil ?_
  refine At.next ?_
  refine AWp.seq ?_
  refine AWp.seq ?_
  refine AWp.region ?_
  refine AOps.cons rfl (st_move (v := (.sl 4 (a0.map e_Tapi_Attr) false)) rfl rfl) rfl ?_
  refine AOps.cons rfl (stx_len (l := a0) (enc := e_Tapi_Attr) rfl s35 rfl) rfl ?_
  refine AOps.cons rfl (st_move (v := (.int .i64 0)) rfl rfl) rfl ?_
  refine AOps.nil ?_
  refine At.next ?_
  refine AWp.weaken (st' := ⟨[(0, (.sl 4 (a0.map e_Tapi_Attr) false)), (1, (.sl 4 (a1.map e_Tapi_Attr) false)), (2, (.clo 132 [])), (11, (.sl 4 (a0.map e_Tapi_Attr) false)), (12, (.int .i64 (a0.length : Int))), (13, (.int .i64 0))], []⟩) ⟨rfl, rfl, rfl, rfl, rfl, rfl, trivial⟩ trivial ?_
  refine AWp.loopBlock (V := Int) (X := Unit) (lp := fun k v => F131_l2 K a0 a1 (F131_c3 K a0 a1) k v = some r) (sh := fun v => ⟨[(0, (.sl 4 (a0.map e_Tapi_Attr) false)), (1, (.sl 4 (a1.map e_Tapi_Attr) false)), (2, (.clo 132 [])), (11, (.sl 4 (a0.map e_Tapi_Attr) false)), (12, (.int .i64 (a0.length : Int))), (13, (.int .i64 v))], []⟩) (x := fun v => F131_c3 K a0 a1 = some r) (shx := fun v => ⟨[(0, (.sl 4 (a0.map e_Tapi_Attr) false)), (1, (.sl 4 (a1.map e_Tapi_Attr) false))], []⟩) (k := K) (v := 0) h ?_ ?_
  · intro v h
    try dsimp only at h ⊢
    unfold F131_c3 at h
    refine At.next ?_
    refine AWp.seq ?_
    refine AWp.seq ?_
    refine AWp.region ?_
    refine AOps.cons rfl (st_move (v := (.sl 4 (a0.map e_Tapi_Attr) false)) rfl rfl) rfl ?_
    refine AOps.cons rfl (stx_len (l := a0) (enc := e_Tapi_Attr) rfl s35 rfl) rfl ?_
    refine AOps.cons rfl (st_move (v := (.sl 4 (a1.map e_Tapi_Attr) false)) rfl rfl) rfl ?_
    refine AOps.cons rfl (stx_len (l := a1) (enc := e_Tapi_Attr) rfl s35 rfl) rfl ?_
    refine AOps.cons rfl (st_cmp (k := .i64) (a := (a0.length : Int)) (b := (a1.length : Int)) (c := (decide ((a0.length : Int) < (a1.length : Int)))) rfl rfl rfl rfl) rfl ?_
    refine AOps.nil ?_
    refine At.next ?_
    have hif := of_if h
    refine AWp.cond rfl (fun hc => ?_) (fun hc => ?_)
    · have h := hif.1 hc
      refine AWp.seq ?_
      refine AWp.region ?_
      refine AOps.cons rfl (st_assign (v := (.int .i64 (Int.negSucc 0))) rfl rfl) rfl ?_
      refine AOps.nil ?_
      refine At.next ?_
      refine AWp.ret ?_
      refine At.thruR ?_
      have h := Option.some.inj h
      subst h
      refine (hret _ ?_).1
      exact ⟨[(.int .i64 (Int.negSucc 0))], ⟨rfl, trivial⟩, rfl, trivial⟩
    · have h := hif.2 hc
      refine AWp.skip ?_
      refine At.next ?_
      refine AWp.seq ?_
      refine AWp.region ?_
      refine AOps.cons rfl (st_assign (v := (.int .i64 0)) rfl rfl) rfl ?_
      refine AOps.nil ?_
      refine At.next ?_
      refine AWp.ret ?_
      have h := Option.some.inj h
      subst h
      refine (hret _ ?_).1
      exact ⟨[(.int .i64 0)], ⟨rfl, trivial⟩, rfl, trivial⟩
  · intro N k2 v h IH2 J2
    revert h
    revert v
    intro v1 h
    try dsimp only at h IH2 J2 ⊢
    cases k2 with
    | zero => cases h
    | succ k2 =>
      rw [F131_l2] at h
      refine AWp.seq ?_
      refine AWp.region ?_
      refine AOps.cons rfl (st_cmp (k := .i64) (a := v1) (b := (a0.length : Int)) (c := (decide (v1 < (a0.length : Int)))) rfl rfl rfl rfl) rfl ?_
      refine AOps.nil ?_
      refine At.next ?_
      refine AWp.seq ?_
      have hif := of_if h
      refine AWp.cond rfl (fun hc => ?_) (fun hc => ?_)
      · have h := hif.1 hc
        refine AWp.skip ?_
        refine At.next ?_
        refine AWp.seq ?_
        refine AWp.block ?_
        refine AWp.seq ?_
        refine AWp.region ?_
        refine AOps.cons rfl (st_move (v := (.int .i64 v1)) rfl rfl) rfl ?_
        have ⟨hg6, h⟩ := of_guard h
        refine AOps.cons rfl (st_index (k := .i64) (l := a0) (enc := e_Tapi_Attr) (z := z_Tapi_Attr) (n := v1) (cs := (e_Tapi_Attr (a0.getD v1.toNat z_Tapi_Attr)).cells) (full := false) rfl s35 rfl rfl hg6 rfl) rfl ?_
        refine AOps.cons rfl (st_loadIA (cs := (e_Tapi_Attr (a0.getD v1.toNat z_Tapi_Attr)).cells) (vs := (e_Tapi_Attr (a0.getD v1.toNat z_Tapi_Attr)).cells) rfl a167 rfl rfl rfl) rfl ?_
        refine AOps.cons rfl (st_alloc (cs := [(.str []), (.int .i64 0), (.str []), (.int .i64 0)]) rfl z167 rfl rfl rfl) rfl ?_
        refine AOps.cons rfl (st_assign (v := (.int .i64 v1)) rfl rfl) rfl ?_
        refine AOps.cons rfl (st_storeP (cs := [(.str []), (.int .i64 0), (.str []), (.int .i64 0)]) (vs := (e_Tapi_Attr (a0.getD v1.toNat z_Tapi_Attr)).cells) (ds := (e_Tapi_Attr (a0.getD v1.toNat z_Tapi_Attr)).cells) (v := (e_Tapi_Attr (a0.getD v1.toNat z_Tapi_Attr))) sz167 rfl rfl rfl rfl rfl rfl rfl rfl) rfl ?_
        refine AOps.nil ?_
        refine At.next ?_
        refine AWp.seq ?_
        refine AWp.seq ?_
        refine AWp.region ?_
        refine AOps.cons rfl (st_move (v := (.int .i64 v1)) rfl rfl) rfl ?_
        refine AOps.cons rfl (st_move (v := (.sl 4 (a1.map e_Tapi_Attr) false)) rfl rfl) rfl ?_
        refine AOps.cons rfl (stx_len (l := a1) (enc := e_Tapi_Attr) rfl s35 rfl) rfl ?_
        refine AOps.cons rfl (st_cmp (k := .i64) (a := v1) (b := (a1.length : Int)) (c := (decide (v1 ≥ (a1.length : Int)))) rfl rfl rfl rfl) rfl ?_
        refine AOps.nil ?_
        refine At.next ?_
        have hif := of_if h
        refine AWp.cond rfl (fun hc => ?_) (fun hc => ?_)
        · have h := hif.1 hc
          refine AWp.seq ?_
          refine AWp.region ?_
          refine AOps.cons rfl (st_assign (v := (.int .i64 1)) rfl rfl) rfl ?_
          refine AOps.nil ?_
          refine At.next ?_
          refine AWp.ret ?_
          refine At.thruR ?_
          refine At.overR ?_
          refine At.thruR ?_
          refine At.thruR (At.overR ?_)
          refine At.thruR ?_
          have h := Option.some.inj h
          subst h
          refine (hret _ ?_).1
          exact ⟨[(.int .i64 1)], ⟨rfl, trivial⟩, rfl, trivial⟩
        · have h := hif.2 hc
          refine AWp.skip ?_
          refine At.next ?_
          refine AWp.seq ?_
          refine AWp.region ?_
          refine AOps.cons rfl (st_move (v := (.sl 4 (a1.map e_Tapi_Attr) false)) rfl rfl) rfl ?_
          refine AOps.cons rfl (st_move (v := (.int .i64 v1)) rfl rfl) rfl ?_
          have ⟨hg7, h⟩ := of_guard h
          refine AOps.cons rfl (st_index (k := .i64) (l := a1) (enc := e_Tapi_Attr) (z := z_Tapi_Attr) (n := v1) (cs := (e_Tapi_Attr (a1.getD v1.toNat z_Tapi_Attr)).cells) (full := false) rfl s35 rfl rfl hg7 rfl) rfl ?_
          refine AOps.cons rfl (st_loadIA (cs := (e_Tapi_Attr (a1.getD v1.toNat z_Tapi_Attr)).cells) (vs := (e_Tapi_Attr (a1.getD v1.toNat z_Tapi_Attr)).cells) rfl a167 rfl rfl rfl) rfl ?_
          refine AOps.cons rfl (st_alloc (cs := [(.str []), (.int .i64 0), (.str []), (.int .i64 0)]) rfl z167 rfl rfl rfl) rfl ?_
          refine AOps.cons rfl (st_storeP (cs := [(.str []), (.int .i64 0), (.str []), (.int .i64 0)]) (vs := (e_Tapi_Attr (a1.getD v1.toNat z_Tapi_Attr)).cells) (ds := (e_Tapi_Attr (a1.getD v1.toNat z_Tapi_Attr)).cells) (v := (e_Tapi_Attr (a1.getD v1.toNat z_Tapi_Attr))) sz167 rfl rfl rfl rfl rfl rfl rfl rfl) rfl ?_
          refine AOps.nil ?_
          refine At.next ?_
          refine AWp.seq ?_
          refine AWp.region ?_
          refine AOps.cons rfl (st_move (v := (.clo 132 [])) rfl rfl) rfl ?_
          refine AOps.cons rfl (st_loadPA (cs := (e_Tapi_Attr (a0.getD v1.toNat z_Tapi_Attr)).cells) (vs := (e_Tapi_Attr (a0.getD v1.toNat z_Tapi_Attr)).cells) rfl a167 rfl rfl rfl rfl) rfl ?_
          refine AOps.cons rfl (st_loadPA (cs := (e_Tapi_Attr (a1.getD v1.toNat z_Tapi_Attr)).cells) (vs := (e_Tapi_Attr (a1.getD v1.toNat z_Tapi_Attr)).cells) rfl a167 rfl rfl rfl rfl) rfl ?_
          have ⟨v9, hv9, h⟩ := of_bind h
          refine AOps.cons rfl (st_call0 (ar := [(e_Tapi_Attr (a0.getD v1.toNat z_Tapi_Attr)), (e_Tapi_Attr (a1.getD v1.toNat z_Tapi_Attr))]) (caps := []) Try.call132 (F132_ok K (a0.getD v1.toNat z_Tapi_Attr) (a1.getD v1.toNat z_Tapi_Attr) v9 hv9) rfl rfl ⟨rfl, rfl, trivial⟩ rfl) rfl ?_
          refine AOps.cons rfl (st_assign (v := (.int .i64 v9)) rfl rfl) rfl ?_
          refine AOps.nil ?_
          refine At.next ?_
          refine AWp.seq ?_
          refine AWp.region ?_
          refine AOps.cons rfl (st_move (v := (.int .i64 v9)) rfl rfl) rfl ?_
          refine AOps.cons rfl (st_cmp (k := .i64) (a := v9) (b := 0) (c := (v9 != 0)) rfl rfl rfl rfl) rfl ?_
          refine AOps.nil ?_
          refine At.next ?_
          have hif := of_if h
          refine AWp.cond rfl (fun hc => ?_) (fun hc => ?_)
          · have h := hif.1 hc
            refine AWp.seq ?_
            refine AWp.region ?_
            refine AOps.cons rfl (st_move (v := (.int .i64 v9)) rfl rfl) rfl ?_
            refine AOps.cons rfl (st_assign (v := (.int .i64 v9)) rfl rfl) rfl ?_
            refine AOps.nil ?_
            refine At.next ?_
            refine AWp.ret ?_
            refine At.overR ?_
            refine At.thruR ?_
            refine At.thruR (At.overR ?_)
            refine At.thruR ?_
            have h := Option.some.inj h
            subst h
            refine (hret _ ?_).1
            exact ⟨[(.int .i64 v9)], ⟨rfl, trivial⟩, rfl, trivial⟩
          · have h := hif.2 hc
            refine AWp.skip ?_
            refine At.end ?_
            refine At.next ?_
            refine AWp.region ?_
            refine AOps.cons rfl (st_arith (k := .i64) (a := v1) (b := 1) (c := (IntKind.i64.wrap (v1 + 1))) rfl rfl rfl rfl) rfl ?_
            refine AOps.cons rfl (st_move (v := (.int .i64 (IntKind.i64.wrap (v1 + 1)))) rfl rfl) rfl ?_
            refine AOps.nil ?_
            exact At.weaken (st' := ⟨[(0, (.sl 4 (a0.map e_Tapi_Attr) false)), (1, (.sl 4 (a1.map e_Tapi_Attr) false)), (2, (.clo 132 [])), (11, (.sl 4 (a0.map e_Tapi_Attr) false)), (12, (.int .i64 (a0.length : Int))), (13, (.int .i64 (IntKind.i64.wrap (v1 + 1))))], []⟩) ⟨rfl, rfl, rfl, rfl, rfl, rfl, trivial⟩ trivial (IH2 _ (IntKind.i64.wrap (v1 + 1)) (Nat.lt_succ_self _) h)
      · have h := hif.2 hc
        refine AWp.exit ?_
        refine At.thru ?_
        exact At.weaken (st' := ⟨[(0, (.sl 4 (a0.map e_Tapi_Attr) false)), (1, (.sl 4 (a1.map e_Tapi_Attr) false))], []⟩) ⟨rfl, rfl, trivial⟩ trivial (J2 () h)

/-! 108: sleuth/attribute.CompareAttrs -/
def F108 (K : Nat) (a0 : (List Tapi_Attr)) (a1 : (List Tapi_Attr)) : Option (Int) :=
  (F131 K a0 a1).bind fun v2 =>
    some v2
theorem F108_ok (K : Nat) (a0 : (List Tapi_Attr)) (a1 : (List Tapi_Attr)) (r : Int) (h : F108 K a0 a1 = some r) : ACall P 108 ⟨[(.sl 4 (a0.map e_Tapi_Attr) false), (.sl 4 (a1.map e_Tapi_Attr) false)], [], (.int .i64 r), [], []⟩ := by
  refine acall_of Try.func108 Try.results108 rfl Try.ntmps108 rfl rfl rfl ?_
  intro E Q hP hN hro hret
  obtain ⟨P', nt', w0, F0, p0, S0, β0, ro0⟩ := E
  simp only at hP hN
  subst hP hN
  dsimp only [argT]
  unfold F108 at h
  refine AWp.seq ?_
  refine AWp.region ?_
  refine AOps.cons rfl (st_assign (v := (.int .i64 0)) rfl rfl) rfl ?_
  refine AOps.nil ?_
  refine At.next ?_
  refine AWp.seq ?_
  refine AWp.region ?_
  refine AOps.cons rfl (st_move (v := (.sl 4 (a0.map e_Tapi_Attr) false)) rfl rfl) rfl ?_
  refine AOps.cons rfl (st_move (v := (.sl 4 (a1.map e_Tapi_Attr) false)) rfl rfl) rfl ?_
  have ⟨v2, hv2, h⟩ := of_bind h
  refine AOps.cons rfl (st_call0 (ar := [(.sl 4 (a0.map e_Tapi_Attr) false), (.sl 4 (a1.map e_Tapi_Attr) false), (.clo 132 [])]) (caps := []) Try.call131 (F131_ok K a0 a1 v2 hv2) rfl rfl ⟨rfl, rfl, rfl, trivial⟩ rfl) rfl ?_
  refine AOps.cons rfl (st_assign (v := (.int .i64 v2)) rfl rfl) rfl ?_
  refine AOps.nil ?_
  refine At.next ?_
  refine AWp.ret ?_
  have h := Option.some.inj h
  subst h
  refine (hret _ ?_).1
  exact ⟨[(.int .i64 v2)], ⟨rfl, trivial⟩, rfl, trivial⟩

/-! 109: slices.CompareFunc[[]sleuth/api.Ref,[]sleuth/api.Ref,sleuth/api.Ref,sleuth/api.Ref] -/
def F109_c3 (K : Nat) (a0 : (List Tapi_Ref)) (a1 : (List Tapi_Ref)) : Option (Int) :=
  if (decide ((a0.length : Int) < (a1.length : Int))) = true then
    some (Int.negSucc 0)
  else
    some 0
def F109_l2 (K : Nat) (a0 : (List Tapi_Ref)) (a1 : (List Tapi_Ref)) (c4 : Option (Int)) : Nat → Int → Option (Int)
  | 0, _ => none
  | k2 + 1, v1 =>
    if (decide (v1 < (a0.length : Int))) = true then
      if (0 : Int) ≤ v1 ∧ v1 < a0.length then
        if (decide (v1 ≥ (a1.length : Int))) = true then
          some 1
        else
          if (0 : Int) ≤ v1 ∧ v1 < a1.length then
            (F52 K (a0.getD v1.toNat z_Tapi_Ref) (a1.getD v1.toNat z_Tapi_Ref)).bind fun v9 =>
              if (v9 != 0) = true then
                some v9
              else
                (F109_l2 K a0 a1 c4 k2) (IntKind.i64.wrap (v1 + 1))
          else none
      else none
    else
      c4
def F109 (K : Nat) (a0 : (List Tapi_Ref)) (a1 : (List Tapi_Ref)) : Option (Int) :=
  F109_l2 K a0 a1 (F109_c3 K a0 a1) K 0
theorem F109_ok (K : Nat) (a0 : (List Tapi_Ref)) (a1 : (List Tapi_Ref)) (r : Int) (h : F109 K a0 a1 = some r) : ACall P 109 ⟨[(.sl 2 (a0.map e_Tapi_Ref) false), (.sl 2 (a1.map e_Tapi_Ref) false), (.clo 52 [])], [], (.int .i64 r), [], []⟩ := by
  refine acall_of Try.func109 Try.results109 rfl Try.ntmps109 rfl rfl rfl ?_
  intro E Q hP hN hro hret
  obtain ⟨P', nt', w0, F0, p0, S0, β0, ro0⟩ := E
  simp only at hP hN
  subst hP hN
  dsimp only [argT]
  unfold F109 at h
  refine AWp.seq ?_
  refine AWp.region ?_
  refine AOps.cons rfl (st_assign (v := (.int .i64 0)) rfl rfl) rfl ?_
  refine AOps.nil ?_
  refine At.next ?_
  refine AWp.seq ?_
  refine AWp.seq ?_
  refine AWp.region ?_
  refine AOps.cons rfl (st_move (v := (.sl 2 (a0.map e_Tapi_Ref) false)) rfl rfl) rfl ?_
  refine AOps.cons rfl (stx_len (l := a0) (enc := e_Tapi_Ref) rfl s36 rfl) rfl ?_
  refine AOps.cons rfl (st_move (v := (.int .i64 0)) rfl rfl) rfl ?_
  refine AOps.nil ?_
  refine At.next ?_
  refine AWp.weaken (st' := ⟨[(0, (.sl 2 (a0.map e_Tapi_Ref) false)), (1, (.sl 2 (a1.map e_Tapi_Ref) false)), (2, (.clo 52 [])), (11, (.sl 2 (a0.map e_Tapi_Ref) false)), (12, (.int .i64 (a0.length : Int))), (13, (.int .i64 0))], []⟩) ⟨rfl, rfl, rfl, rfl, rfl, rfl, trivial⟩ trivial ?_
  refine AWp.loopBlock (V := Int) (X := Unit) (lp := fun k v => F109_l2 K a0 a1 (F109_c3 K a0 a1) k v = some r) (sh := fun v => ⟨[(0, (.sl 2 (a0.map e_Tapi_Ref) false)), (1, (.sl 2 (a1.map e_Tapi_Ref) false)), (2, (.clo 52 [])), (11, (.sl 2 (a0.map e_Tapi_Ref) false)), (12, (.int .i64 (a0.length : Int))), (13, (.int .i64 v))], []⟩) (x := fun v => F109_c3 K a0 a1 = some r) (shx := fun v => ⟨[(0, (.sl 2 (a0.map e_Tapi_Ref) false)), (1, (.sl 2 (a1.map e_Tapi_Ref) false))], []⟩) (k := K) (v := 0) h ?_ ?_
  · intro v h
    try dsimp only at h ⊢
    unfold F109_c3 at h
    refine At.next ?_
    refine AWp.seq ?_
    refine AWp.seq ?_
    refine AWp.region ?_
    refine AOps.cons rfl (st_move (v := (.sl 2 (a0.map e_Tapi_Ref) false)) rfl rfl) rfl ?_
    refine AOps.cons rfl (stx_len (l := a0) (enc := e_Tapi_Ref) rfl s36 rfl) rfl ?_
    refine AOps.cons rfl (st_move (v := (.sl 2 (a1.map e_Tapi_Ref) false)) rfl rfl) rfl ?_
    refine AOps.cons rfl (stx_len (l := a1) (enc := e_Tapi_Ref) rfl s36 rfl) rfl ?_
    refine AOps.cons rfl (st_cmp (k := .i64) (a := (a0.length : Int)) (b := (a1.length : Int)) (c := (decide ((a0.length : Int) < (a1.length : Int)))) rfl rfl rfl rfl) rfl ?_
    refine AOps.nil ?_
    refine At.next ?_
    have hif := of_if h
    refine AWp.cond rfl (fun hc => ?_) (fun hc => ?_)
    · have h := hif.1 hc
      refine AWp.seq ?_
      refine AWp.region ?_
      refine AOps.cons rfl (st_assign (v := (.int .i64 (Int.negSucc 0))) rfl rfl) rfl ?_
      refine AOps.nil ?_
      refine At.next ?_
      refine AWp.ret ?_
      refine At.thruR ?_
      have h := Option.some.inj h
      subst h
      refine (hret _ ?_).1
      exact ⟨[(.int .i64 (Int.negSucc 0))], ⟨rfl, trivial⟩, rfl, trivial⟩
    · have h := hif.2 hc
      refine AWp.skip ?_
      refine At.next ?_
      refine AWp.seq ?_
      refine AWp.region ?_
      refine AOps.cons rfl (st_assign (v := (.int .i64 0)) rfl rfl) rfl ?_
      refine AOps.nil ?_
      refine At.next ?_
      refine AWp.ret ?_
      have h := Option.some.inj h
      subst h
      refine (hret _ ?_).1
      exact ⟨[(.int .i64 0)], ⟨rfl, trivial⟩, rfl, trivial⟩
  · intro N k2 v h IH2 J2
    revert h
    revert v
    intro v1 h
    try dsimp only at h IH2 J2 ⊢
    cases k2 with
    | zero => cases h
    | succ k2 =>
      rw [F109_l2] at h
      refine AWp.seq ?_
      refine AWp.region ?_
      refine AOps.cons rfl (st_cmp (k := .i64) (a := v1) (b := (a0.length : Int)) (c := (decide (v1 < (a0.length : Int)))) rfl rfl rfl rfl) rfl ?_
      refine AOps.nil ?_
      refine At.next ?_
      refine AWp.seq ?_
      have hif := of_if h
      refine AWp.cond rfl (fun hc => ?_) (fun hc => ?_)
      · have h := hif.1 hc
        refine AWp.skip ?_
        refine At.next ?_
        refine AWp.seq ?_
        refine AWp.block ?_
        refine AWp.seq ?_
        refine AWp.region ?_
        refine AOps.cons rfl (st_move (v := (.int .i64 v1)) rfl rfl) rfl ?_
        have ⟨hg6, h⟩ := of_guard h
        refine AOps.cons rfl (st_index (k := .i64) (l := a0) (enc := e_Tapi_Ref) (z := z_Tapi_Ref) (n := v1) (cs := (e_Tapi_Ref (a0.getD v1.toNat z_Tapi_Ref)).cells) (full := false) rfl s36 rfl rfl hg6 rfl) rfl ?_
        refine AOps.cons rfl (st_loadIA (cs := (e_Tapi_Ref (a0.getD v1.toNat z_Tapi_Ref)).cells) (vs := (e_Tapi_Ref (a0.getD v1.toNat z_Tapi_Ref)).cells) rfl a23 rfl rfl rfl) rfl ?_
        refine AOps.cons rfl (st_alloc (cs := [(.int .i64 0), (.int .i64 0)]) rfl z23 rfl rfl rfl) rfl ?_
        refine AOps.cons rfl (st_assign (v := (.int .i64 v1)) rfl rfl) rfl ?_
        refine AOps.cons rfl (st_storeP (cs := [(.int .i64 0), (.int .i64 0)]) (vs := (e_Tapi_Ref (a0.getD v1.toNat z_Tapi_Ref)).cells) (ds := (e_Tapi_Ref (a0.getD v1.toNat z_Tapi_Ref)).cells) (v := (e_Tapi_Ref (a0.getD v1.toNat z_Tapi_Ref))) sz23 rfl rfl rfl rfl rfl rfl rfl rfl) rfl ?_
        refine AOps.nil ?_
        refine At.next ?_
        refine AWp.seq ?_
        refine AWp.seq ?_
        refine AWp.region ?_
        refine AOps.cons rfl (st_move (v := (.int .i64 v1)) rfl rfl) rfl ?_
        refine AOps.cons rfl (st_move (v := (.sl 2 (a1.map e_Tapi_Ref) false)) rfl rfl) rfl ?_
        refine AOps.cons rfl (stx_len (l := a1) (enc := e_Tapi_Ref) rfl s36 rfl) rfl ?_
        refine AOps.cons rfl (st_cmp (k := .i64) (a := v1) (b := (a1.length : Int)) (c := (decide (v1 ≥ (a1.length : Int)))) rfl rfl rfl rfl) rfl ?_
        refine AOps.nil ?_
        refine At.next ?_
        have hif := of_if h
        refine AWp.cond rfl (fun hc => ?_) (fun hc => ?_)
        · have h := hif.1 hc
          refine AWp.seq ?_
          refine AWp.region ?_
          refine AOps.cons rfl (st_assign (v := (.int .i64 1)) rfl rfl) rfl ?_
          refine AOps.nil ?_
          refine At.next ?_
          refine AWp.ret ?_
          refine At.thruR ?_
          refine At.overR ?_
          refine At.thruR ?_
          refine At.thruR (At.overR ?_)
          refine At.thruR ?_
          have h := Option.some.inj h
          subst h
          refine (hret _ ?_).1
          exact ⟨[(.int .i64 1)], ⟨rfl, trivial⟩, rfl, trivial⟩
        · have h := hif.2 hc
          refine AWp.skip ?_
          refine At.next ?_
          refine AWp.seq ?_
          refine AWp.region ?_
          refine AOps.cons rfl (st_move (v := (.sl 2 (a1.map e_Tapi_Ref) false)) rfl rfl) rfl ?_
          refine AOps.cons rfl (st_move (v := (.int .i64 v1)) rfl rfl) rfl ?_
          have ⟨hg7, h⟩ := of_guard h
          refine AOps.cons rfl (st_index (k := .i64) (l := a1) (enc := e_Tapi_Ref) (z := z_Tapi_Ref) (n := v1) (cs := (e_Tapi_Ref (a1.getD v1.toNat z_Tapi_Ref)).cells) (full := false) rfl s36 rfl rfl hg7 rfl) rfl ?_
          refine AOps.cons rfl (st_loadIA (cs := (e_Tapi_Ref (a1.getD v1.toNat z_Tapi_Ref)).cells) (vs := (e_Tapi_Ref (a1.getD v1.toNat z_Tapi_Ref)).cells) rfl a23 rfl rfl rfl) rfl ?_
          refine AOps.cons rfl (st_alloc (cs := [(.int .i64 0), (.int .i64 0)]) rfl z23 rfl rfl rfl) rfl ?_
          refine AOps.cons rfl (st_storeP (cs := [(.int .i64 0), (.int .i64 0)]) (vs := (e_Tapi_Ref (a1.getD v1.toNat z_Tapi_Ref)).cells) (ds := (e_Tapi_Ref (a1.getD v1.toNat z_Tapi_Ref)).cells) (v := (e_Tapi_Ref (a1.getD v1.toNat z_Tapi_Ref))) sz23 rfl rfl rfl rfl rfl rfl rfl rfl) rfl ?_
          refine AOps.nil ?_
          refine At.next ?_
          refine AWp.seq ?_
          refine AWp.region ?_
          refine AOps.cons rfl (st_move (v := (.clo 52 [])) rfl rfl) rfl ?_
          refine AOps.cons rfl (st_loadPA (cs := (e_Tapi_Ref (a0.getD v1.toNat z_Tapi_Ref)).cells) (vs := (e_Tapi_Ref (a0.getD v1.toNat z_Tapi_Ref)).cells) rfl a23 rfl rfl rfl rfl) rfl ?_
          refine AOps.cons rfl (st_loadPA (cs := (e_Tapi_Ref (a1.getD v1.toNat z_Tapi_Ref)).cells) (vs := (e_Tapi_Ref (a1.getD v1.toNat z_Tapi_Ref)).cells) rfl a23 rfl rfl rfl rfl) rfl ?_
          have ⟨v9, hv9, h⟩ := of_bind h
          refine AOps.cons rfl (st_call0 (ar := [(e_Tapi_Ref (a0.getD v1.toNat z_Tapi_Ref)), (e_Tapi_Ref (a1.getD v1.toNat z_Tapi_Ref))]) (caps := []) Try.call52 (F52_ok K (a0.getD v1.toNat z_Tapi_Ref) (a1.getD v1.toNat z_Tapi_Ref) v9 hv9) rfl rfl ⟨rfl, rfl, trivial⟩ rfl) rfl ?_
          refine AOps.cons rfl (st_assign (v := (.int .i64 v9)) rfl rfl) rfl ?_
          refine AOps.nil ?_
          refine At.next ?_
          refine AWp.seq ?_
          refine AWp.region ?_
          refine AOps.cons rfl (st_move (v := (.int .i64 v9)) rfl rfl) rfl ?_
          refine AOps.cons rfl (st_cmp (k := .i64) (a := v9) (b := 0) (c := (v9 != 0)) rfl rfl rfl rfl) rfl ?_
          refine AOps.nil ?_
          refine At.next ?_
          have hif := of_if h
          refine AWp.cond rfl (fun hc => ?_) (fun hc => ?_)
          · have h := hif.1 hc
            refine AWp.seq ?_
            refine AWp.region ?_
            refine AOps.cons rfl (st_move (v := (.int .i64 v9)) rfl rfl) rfl ?_
            refine AOps.cons rfl (st_assign (v := (.int .i64 v9)) rfl rfl) rfl ?_
            refine AOps.nil ?_
            refine At.next ?_
            refine AWp.ret ?_
            refine At.overR ?_
            refine At.thruR ?_
            refine At.thruR (At.overR ?_)
            refine At.thruR ?_
            have h := Option.some.inj h
            subst h
            refine (hret _ ?_).1
            exact ⟨[(.int .i64 v9)], ⟨rfl, trivial⟩, rfl, trivial⟩
          · have h := hif.2 hc
            refine AWp.skip ?_
            refine At.end ?_
            refine At.next ?_
            refine AWp.region ?_
            refine AOps.cons rfl (st_arith (k := .i64) (a := v1) (b := 1) (c := (IntKind.i64.wrap (v1 + 1))) rfl rfl rfl rfl) rfl ?_
            refine AOps.cons rfl (st_move (v := (.int .i64 (IntKind.i64.wrap (v1 + 1)))) rfl rfl) rfl ?_
            refine AOps.nil ?_
            exact At.weaken (st' := ⟨[(0, (.sl 2 (a0.map e_Tapi_Ref) false)), (1, (.sl 2 (a1.map e_Tapi_Ref) false)), (2, (.clo 52 [])), (11, (.sl 2 (a0.map e_Tapi_Ref) false)), (12, (.int .i64 (a0.length : Int))), (13, (.int .i64 (IntKind.i64.wrap (v1 + 1))))], []⟩) ⟨rfl, rfl, rfl, rfl, rfl, rfl, trivial⟩ trivial (IH2 _ (IntKind.i64.wrap (v1 + 1)) (Nat.lt_succ_self _) h)
      · have h := hif.2 hc
        refine AWp.exit ?_
        refine At.thru ?_
        exact At.weaken (st' := ⟨[(0, (.sl 2 (a0.map e_Tapi_Ref) false)), (1, (.sl 2 (a1.map e_Tapi_Ref) false))], []⟩) ⟨rfl, rfl, trivial⟩ trivial (J2 () h)

/-! 86: sleuth/span.Compare -/
def F86 (K : Nat) (a0 : Tapi_Span) (a1 : Tapi_Span) : Option (Int) :=
  (F105 K [a0.Trace, a0.Id, a0.Revision, a0.Parent, a0.Clock, a0.Kind] [a1.Trace, a1.Id, a1.Revision, a1.Parent, a1.Clock, a1.Kind]).bind fun v2 =>
    (F106 K a0.Service a1.Service).bind fun v4 =>
      (F106 K a0.Version a1.Version).bind fun v6 =>
        (F106 K a0.Operation a1.Operation).bind fun v8 =>
          (F51 K a0.Start a1.Start).bind fun v10 =>
            (F51 K a0.End a1.End).bind fun v12 =>
              (F107 K a0.Error).bind fun v14 =>
                (F107 K a1.Error).bind fun v16 =>
                  (F108 K a0.Attrs a1.Attrs).bind fun v18 =>
                    (F109 K a0.Links a1.Links).bind fun v20 =>
                      (F50 K [v2, v4, v6, v8, v10, v12, (IntKind.i64.wrap (v14 - v16)), v18, v20]).bind fun v22 =>
                        some v22
theorem F86_ok (K : Nat) (a0 : Tapi_Span) (a1 : Tapi_Span) (r : Int) (h : F86 K a0 a1 = some r) : ACall P 86 ⟨[(e_Tapi_Span a0), (e_Tapi_Span a1)], [], (.int .i64 r), [], []⟩ := by
  refine acall_of Try.func86 Try.results86 rfl Try.ntmps86 rfl rfl rfl ?_
  intro E Q hP hN hro hret
  obtain ⟨P', nt', w0, F0, p0, S0, β0, ro0⟩ := E
  simp only at hP hN
  subst hP hN
  dsimp only [argT]
  unfold F86 at h
  refine AWp.seq ?_
  refine AWp.region ?_
  refine AOps.cons rfl (st_box (v := (e_Tapi_Span a0)) (cs := (e_Tapi_Span a0).cells) rfl rfl rfl rfl rfl) rfl ?_
  refine AOps.cons rfl (st_box (v := (e_Tapi_Span a1)) (cs := (e_Tapi_Span a1).cells) rfl rfl rfl rfl rfl) rfl ?_
  refine AOps.cons rfl (st_assign (v := (.int .i64 0)) rfl rfl) rfl ?_
  refine AOps.nil ?_
  refine At.next ?_
  refine AWp.seq ?_
  refine AWp.region ?_
  refine AOps.cons rfl (st_fieldP (m := 2) (o := 0) rfl f38_0 rfl rfl) rfl ?_
  refine AOps.cons rfl (st_loadP (cs := (e_Tapi_Span a0).cells) (v := (.int .i64 a0.Trace)) rfl o3 rfl rfl rfl) rfl ?_
  refine AOps.cons rfl (st_fieldP (m := 2) (o := 0) rfl f38_1 rfl rfl) rfl ?_
  refine AOps.cons rfl (st_loadP (cs := (e_Tapi_Span a0).cells) (v := (.int .i64 a0.Id)) rfl o3 rfl rfl rfl) rfl ?_
  refine AOps.cons rfl (st_fieldP (m := 2) (o := 0) rfl f38_3 rfl rfl) rfl ?_
  refine AOps.cons rfl (st_loadP (cs := (e_Tapi_Span a0).cells) (v := (.int .i64 a0.Revision)) rfl o3 rfl rfl rfl) rfl ?_
  refine AOps.cons rfl (st_fieldP (m := 2) (o := 0) rfl f38_2 rfl rfl) rfl ?_
  refine AOps.cons rfl (st_loadP (cs := (e_Tapi_Span a0).cells) (v := (.int .i64 a0.Parent)) rfl o3 rfl rfl rfl) rfl ?_
  refine AOps.cons rfl (st_fieldP (m := 2) (o := 0) rfl f38_4 rfl rfl) rfl ?_
  refine AOps.cons rfl (st_loadP (cs := (e_Tapi_Span a0).cells) (v := (.int .i64 a0.Clock)) rfl o3 rfl rfl rfl) rfl ?_
  refine AOps.cons rfl (st_fieldP (m := 2) (o := 0) rfl f38_5 rfl rfl) rfl ?_
  refine AOps.cons rfl (st_loadP (cs := (e_Tapi_Span a0).cells) (v := (.int .i64 a0.Kind)) rfl o3 rfl rfl rfl) rfl ?_
  refine AOps.cons rfl (stx_buildA (vs := [(0, (.int .i64 a0.Trace)), (1, (.int .i64 a0.Id)), (2, (.int .i64 a0.Revision)), (3, (.int .i64 a0.Parent)), (4, (.int .i64 a0.Clock)), (5, (.int .i64 a0.Kind))]) (cs := [(.int .i64 a0.Trace), (.int .i64 a0.Id), (.int .i64 a0.Revision), (.int .i64 a0.Parent), (.int .i64 a0.Clock), (.int .i64 a0.Kind)]) rfl ar157 ⟨rfl, rfl, rfl, rfl, rfl, rfl, rfl, rfl, rfl, rfl, rfl, rfl, trivial⟩ rfl) rfl ?_
  refine AOps.cons rfl (st_alloc (cs := [(.int .i64 0), (.int .i64 0), (.int .i64 0), (.int .i64 0), (.int .i64 0), (.int .i64 0)]) rfl z157 rfl rfl rfl) rfl ?_
  refine AOps.cons rfl (st_storeP (cs := [(.int .i64 0), (.int .i64 0), (.int .i64 0), (.int .i64 0), (.int .i64 0), (.int .i64 0)]) (vs := [(.int .i64 a0.Trace), (.int .i64 a0.Id), (.int .i64 a0.Revision), (.int .i64 a0.Parent), (.int .i64 a0.Clock), (.int .i64 a0.Kind)]) (ds := [(.int .i64 a0.Trace), (.int .i64 a0.Id), (.int .i64 a0.Revision), (.int .i64 a0.Parent), (.int .i64 a0.Clock), (.int .i64 a0.Kind)]) (v := (.ag [(.int .i64 a0.Trace), (.int .i64 a0.Id), (.int .i64 a0.Revision), (.int .i64 a0.Parent), (.int .i64 a0.Clock), (.int .i64 a0.Kind)])) sz157 rfl rfl rfl rfl rfl rfl rfl rfl) rfl ?_
  refine AOps.nil ?_
  refine At.next ?_
  refine AWp.seq ?_
  refine AWp.region ?_
  refine AOps.cons rfl (st_fieldP (m := 3) (o := 0) rfl f38_0 rfl rfl) rfl ?_
  refine AOps.cons rfl (st_loadP (cs := (e_Tapi_Span a1).cells) (v := (.int .i64 a1.Trace)) rfl o3 rfl rfl rfl) rfl ?_
  refine AOps.cons rfl (st_fieldP (m := 3) (o := 0) rfl f38_1 rfl rfl) rfl ?_
  refine AOps.cons rfl (st_loadP (cs := (e_Tapi_Span a1).cells) (v := (.int .i64 a1.Id)) rfl o3 rfl rfl rfl) rfl ?_
  refine AOps.cons rfl (st_fieldP (m := 3) (o := 0) rfl f38_3 rfl rfl) rfl ?_
  refine AOps.cons rfl (st_loadP (cs := (e_Tapi_Span a1).cells) (v := (.int .i64 a1.Revision)) rfl o3 rfl rfl rfl) rfl ?_
  refine AOps.cons rfl (st_fieldP (m := 3) (o := 0) rfl f38_2 rfl rfl) rfl ?_
  refine AOps.cons rfl (st_loadP (cs := (e_Tapi_Span a1).cells) (v := (.int .i64 a1.Parent)) rfl o3 rfl rfl rfl) rfl ?_
  refine AOps.cons rfl (st_fieldP (m := 3) (o := 0) rfl f38_4 rfl rfl) rfl ?_
  refine AOps.cons rfl (st_loadP (cs := (e_Tapi_Span a1).cells) (v := (.int .i64 a1.Clock)) rfl o3 rfl rfl rfl) rfl ?_
  refine AOps.cons rfl (st_fieldP (m := 3) (o := 0) rfl f38_5 rfl rfl) rfl ?_
  refine AOps.cons rfl (st_loadP (cs := (e_Tapi_Span a1).cells) (v := (.int .i64 a1.Kind)) rfl o3 rfl rfl rfl) rfl ?_
  refine AOps.cons rfl (stx_buildA (vs := [(0, (.int .i64 a1.Trace)), (1, (.int .i64 a1.Id)), (2, (.int .i64 a1.Revision)), (3, (.int .i64 a1.Parent)), (4, (.int .i64 a1.Clock)), (5, (.int .i64 a1.Kind))]) (cs := [(.int .i64 a1.Trace), (.int .i64 a1.Id), (.int .i64 a1.Revision), (.int .i64 a1.Parent), (.int .i64 a1.Clock), (.int .i64 a1.Kind)]) rfl ar157 ⟨rfl, rfl, rfl, rfl, rfl, rfl, rfl, rfl, rfl, rfl, rfl, rfl, trivial⟩ rfl) rfl ?_
  refine AOps.cons rfl (st_alloc (cs := [(.int .i64 0), (.int .i64 0), (.int .i64 0), (.int .i64 0), (.int .i64 0), (.int .i64 0)]) rfl z157 rfl rfl rfl) rfl ?_
  refine AOps.cons rfl (st_storeP (cs := [(.int .i64 0), (.int .i64 0), (.int .i64 0), (.int .i64 0), (.int .i64 0), (.int .i64 0)]) (vs := [(.int .i64 a1.Trace), (.int .i64 a1.Id), (.int .i64 a1.Revision), (.int .i64 a1.Parent), (.int .i64 a1.Clock), (.int .i64 a1.Kind)]) (ds := [(.int .i64 a1.Trace), (.int .i64 a1.Id), (.int .i64 a1.Revision), (.int .i64 a1.Parent), (.int .i64 a1.Clock), (.int .i64 a1.Kind)]) (v := (.ag [(.int .i64 a1.Trace), (.int .i64 a1.Id), (.int .i64 a1.Revision), (.int .i64 a1.Parent), (.int .i64 a1.Clock), (.int .i64 a1.Kind)])) sz157 rfl rfl rfl rfl rfl rfl rfl rfl) rfl ?_
  refine AOps.nil ?_
  refine At.next ?_
  refine AWp.seq ?_
  refine AWp.ghost (st' := ⟨[(0, (e_Tapi_Span a0)), (1, (e_Tapi_Span a1)), (2, (.ptr 2 0)), (3, (.ptr 3 0)), (4, (.int .i64 0)), (5, (.ip [(.int .i64 a0.Trace), (.int .i64 a0.Id), (.int .i64 a0.Revision), (.int .i64 a0.Parent), (.int .i64 a0.Clock), (.int .i64 a0.Kind)])), (6, (.ptr 6 0)), (7, (.ptr 2 0)), (8, (.int .i64 a0.Trace)), (9, (.ptr 2 1)), (10, (.int .i64 a0.Id)), (11, (.ptr 2 3)), (12, (.int .i64 a0.Revision)), (13, (.ptr 2 2)), (14, (.int .i64 a0.Parent)), (15, (.ptr 2 4)), (16, (.int .i64 a0.Clock)), (17, (.ptr 2 5)), (18, (.int .i64 a0.Kind)), (19, (.ag [(.int .i64 a0.Trace), (.int .i64 a0.Id), (.int .i64 a0.Revision), (.int .i64 a0.Parent), (.int .i64 a0.Clock), (.int .i64 a0.Kind)])), (20, (.ptr 3 0)), (21, (.int .i64 a1.Trace)), (22, (.ptr 3 1)), (23, (.int .i64 a1.Id)), (24, (.ptr 3 3)), (25, (.int .i64 a1.Revision)), (26, (.ptr 3 2)), (27, (.int .i64 a1.Parent)), (28, (.ptr 3 4)), (29, (.int .i64 a1.Clock)), (30, (.ptr 3 5)), (31, (.int .i64 a1.Kind)), (32, (.ag [(.int .i64 a1.Trace), (.int .i64 a1.Id), (.int .i64 a1.Revision), (.int .i64 a1.Parent), (.int .i64 a1.Clock), (.int .i64 a1.Kind)]))], [(2, (.box (e_Tapi_Span a0).cells)), (3, (.box (e_Tapi_Span a1).cells)), (6, (.box [(.int .i64 a1.Trace), (.int .i64 a1.Id), (.int .i64 a1.Revision), (.int .i64 a1.Parent), (.int .i64 a1.Clock), (.int .i64 a1.Kind)]))]⟩) (fun a w h => (SatL.wk ⟨[(0, (e_Tapi_Span a0)), (1, (e_Tapi_Span a1)), (2, (.ptr 2 0)), (3, (.ptr 3 0)), (4, (.int .i64 0)), (5, (.ip [(.int .i64 a0.Trace), (.int .i64 a0.Id), (.int .i64 a0.Revision), (.int .i64 a0.Parent), (.int .i64 a0.Clock), (.int .i64 a0.Kind)])), (6, (.ptr 6 0)), (7, (.ptr 2 0)), (8, (.int .i64 a0.Trace)), (9, (.ptr 2 1)), (10, (.int .i64 a0.Id)), (11, (.ptr 2 3)), (12, (.int .i64 a0.Revision)), (13, (.ptr 2 2)), (14, (.int .i64 a0.Parent)), (15, (.ptr 2 4)), (16, (.int .i64 a0.Clock)), (17, (.ptr 2 5)), (18, (.int .i64 a0.Kind)), (19, (.ag [(.int .i64 a0.Trace), (.int .i64 a0.Id), (.int .i64 a0.Revision), (.int .i64 a0.Parent), (.int .i64 a0.Clock), (.int .i64 a0.Kind)])), (20, (.ptr 3 0)), (21, (.int .i64 a1.Trace)), (22, (.ptr 3 1)), (23, (.int .i64 a1.Id)), (24, (.ptr 3 3)), (25, (.int .i64 a1.Revision)), (26, (.ptr 3 2)), (27, (.int .i64 a1.Parent)), (28, (.ptr 3 4)), (29, (.int .i64 a1.Clock)), (30, (.ptr 3 5)), (31, (.int .i64 a1.Kind)), (32, (.ag [(.int .i64 a1.Trace), (.int .i64 a1.Id), (.int .i64 a1.Revision), (.int .i64 a1.Parent), (.int .i64 a1.Clock), (.int .i64 a1.Kind)]))], [(2, (.box (e_Tapi_Span a0).cells)), (3, (.box (e_Tapi_Span a1).cells)), (6, (.box [(.int .i64 a1.Trace), (.int .i64 a1.Id), (.int .i64 a1.Revision), (.int .i64 a1.Parent), (.int .i64 a1.Clock), (.int .i64 a1.Kind)]))]⟩ (ghost_freezeB (m := 5) (cs := [(.int .i64 a0.Trace), (.int .i64 a0.Id), (.int .i64 a0.Revision), (.int .i64 a0.Parent), (.int .i64 a0.Clock), (.int .i64 a0.Kind)]) rfl a w (SatL.wk ⟨[(0, (e_Tapi_Span a0)), (1, (e_Tapi_Span a1)), (2, (.ptr 2 0)), (3, (.ptr 3 0)), (4, (.int .i64 0)), (5, (.ptr 5 0)), (6, (.ptr 6 0)), (7, (.ptr 2 0)), (8, (.int .i64 a0.Trace)), (9, (.ptr 2 1)), (10, (.int .i64 a0.Id)), (11, (.ptr 2 3)), (12, (.int .i64 a0.Revision)), (13, (.ptr 2 2)), (14, (.int .i64 a0.Parent)), (15, (.ptr 2 4)), (16, (.int .i64 a0.Clock)), (17, (.ptr 2 5)), (18, (.int .i64 a0.Kind)), (19, (.ag [(.int .i64 a0.Trace), (.int .i64 a0.Id), (.int .i64 a0.Revision), (.int .i64 a0.Parent), (.int .i64 a0.Clock), (.int .i64 a0.Kind)])), (20, (.ptr 3 0)), (21, (.int .i64 a1.Trace)), (22, (.ptr 3 1)), (23, (.int .i64 a1.Id)), (24, (.ptr 3 3)), (25, (.int .i64 a1.Revision)), (26, (.ptr 3 2)), (27, (.int .i64 a1.Parent)), (28, (.ptr 3 4)), (29, (.int .i64 a1.Clock)), (30, (.ptr 3 5)), (31, (.int .i64 a1.Kind)), (32, (.ag [(.int .i64 a1.Trace), (.int .i64 a1.Id), (.int .i64 a1.Revision), (.int .i64 a1.Parent), (.int .i64 a1.Clock), (.int .i64 a1.Kind)]))], [(5, (.box [(.int .i64 a0.Trace), (.int .i64 a0.Id), (.int .i64 a0.Revision), (.int .i64 a0.Parent), (.int .i64 a0.Clock), (.int .i64 a0.Kind)])), (2, (.box (e_Tapi_Span a0).cells)), (3, (.box (e_Tapi_Span a1).cells)), (6, (.box [(.int .i64 a1.Trace), (.int .i64 a1.Id), (.int .i64 a1.Revision), (.int .i64 a1.Parent), (.int .i64 a1.Clock), (.int .i64 a1.Kind)]))]⟩ h ⟨rfl, rfl, rfl, rfl, rfl, rfl, rfl, rfl, rfl, rfl, rfl, rfl, rfl, rfl, rfl, rfl, rfl, rfl, rfl, rfl, rfl, rfl, rfl, rfl, rfl, rfl, rfl, rfl, rfl, rfl, rfl, rfl, rfl, trivial⟩ ⟨rfl, rfl, rfl, rfl, trivial⟩)) ⟨rfl, rfl, rfl, rfl, rfl, rfl, rfl, rfl, rfl, rfl, rfl, rfl, rfl, rfl, rfl, rfl, rfl, rfl, rfl, rfl, rfl, rfl, rfl, rfl, rfl, rfl, rfl, rfl, rfl, rfl, rfl, rfl, rfl, trivial⟩ ⟨rfl, rfl, rfl, trivial⟩)) ?_
  refine AWp.ghost (st' := ⟨[(0, (e_Tapi_Span a0)), (1, (e_Tapi_Span a1)), (2, (.ptr 2 0)), (3, (.ptr 3 0)), (4, (.int .i64 0)), (5, (.ip [(.int .i64 a0.Trace), (.int .i64 a0.Id), (.int .i64 a0.Revision), (.int .i64 a0.Parent), (.int .i64 a0.Clock), (.int .i64 a0.Kind)])), (6, (.ip [(.int .i64 a1.Trace), (.int .i64 a1.Id), (.int .i64 a1.Revision), (.int .i64 a1.Parent), (.int .i64 a1.Clock), (.int .i64 a1.Kind)])), (7, (.ptr 2 0)), (8, (.int .i64 a0.Trace)), (9, (.ptr 2 1)), (10, (.int .i64 a0.Id)), (11, (.ptr 2 3)), (12, (.int .i64 a0.Revision)), (13, (.ptr 2 2)), (14, (.int .i64 a0.Parent)), (15, (.ptr 2 4)), (16, (.int .i64 a0.Clock)), (17, (.ptr 2 5)), (18, (.int .i64 a0.Kind)), (19, (.ag [(.int .i64 a0.Trace), (.int .i64 a0.Id), (.int .i64 a0.Revision), (.int .i64 a0.Parent), (.int .i64 a0.Clock), (.int .i64 a0.Kind)])), (20, (.ptr 3 0)), (21, (.int .i64 a1.Trace)), (22, (.ptr 3 1)), (23, (.int .i64 a1.Id)), (24, (.ptr 3 3)), (25, (.int .i64 a1.Revision)), (26, (.ptr 3 2)), (27, (.int .i64 a1.Parent)), (28, (.ptr 3 4)), (29, (.int .i64 a1.Clock)), (30, (.ptr 3 5)), (31, (.int .i64 a1.Kind)), (32, (.ag [(.int .i64 a1.Trace), (.int .i64 a1.Id), (.int .i64 a1.Revision), (.int .i64 a1.Parent), (.int .i64 a1.Clock), (.int .i64 a1.Kind)]))], [(2, (.box (e_Tapi_Span a0).cells)), (3, (.box (e_Tapi_Span a1).cells))]⟩) (fun a w h => (SatL.wk ⟨[(0, (e_Tapi_Span a0)), (1, (e_Tapi_Span a1)), (2, (.ptr 2 0)), (3, (.ptr 3 0)), (4, (.int .i64 0)), (5, (.ip [(.int .i64 a0.Trace), (.int .i64 a0.Id), (.int .i64 a0.Revision), (.int .i64 a0.Parent), (.int .i64 a0.Clock), (.int .i64 a0.Kind)])), (6, (.ip [(.int .i64 a1.Trace), (.int .i64 a1.Id), (.int .i64 a1.Revision), (.int .i64 a1.Parent), (.int .i64 a1.Clock), (.int .i64 a1.Kind)])), (7, (.ptr 2 0)), (8, (.int .i64 a0.Trace)), (9, (.ptr 2 1)), (10, (.int .i64 a0.Id)), (11, (.ptr 2 3)), (12, (.int .i64 a0.Revision)), (13, (.ptr 2 2)), (14, (.int .i64 a0.Parent)), (15, (.ptr 2 4)), (16, (.int .i64 a0.Clock)), (17, (.ptr 2 5)), (18, (.int .i64 a0.Kind)), (19, (.ag [(.int .i64 a0.Trace), (.int .i64 a0.Id), (.int .i64 a0.Revision), (.int .i64 a0.Parent), (.int .i64 a0.Clock), (.int .i64 a0.Kind)])), (20, (.ptr 3 0)), (21, (.int .i64 a1.Trace)), (22, (.ptr 3 1)), (23, (.int .i64 a1.Id)), (24, (.ptr 3 3)), (25, (.int .i64 a1.Revision)), (26, (.ptr 3 2)), (27, (.int .i64 a1.Parent)), (28, (.ptr 3 4)), (29, (.int .i64 a1.Clock)), (30, (.ptr 3 5)), (31, (.int .i64 a1.Kind)), (32, (.ag [(.int .i64 a1.Trace), (.int .i64 a1.Id), (.int .i64 a1.Revision), (.int .i64 a1.Parent), (.int .i64 a1.Clock), (.int .i64 a1.Kind)]))], [(2, (.box (e_Tapi_Span a0).cells)), (3, (.box (e_Tapi_Span a1).cells))]⟩ (ghost_freezeB (m := 6) (cs := [(.int .i64 a1.Trace), (.int .i64 a1.Id), (.int .i64 a1.Revision), (.int .i64 a1.Parent), (.int .i64 a1.Clock), (.int .i64 a1.Kind)]) rfl a w (SatL.wk ⟨[(0, (e_Tapi_Span a0)), (1, (e_Tapi_Span a1)), (2, (.ptr 2 0)), (3, (.ptr 3 0)), (4, (.int .i64 0)), (5, (.ip [(.int .i64 a0.Trace), (.int .i64 a0.Id), (.int .i64 a0.Revision), (.int .i64 a0.Parent), (.int .i64 a0.Clock), (.int .i64 a0.Kind)])), (6, (.ptr 6 0)), (7, (.ptr 2 0)), (8, (.int .i64 a0.Trace)), (9, (.ptr 2 1)), (10, (.int .i64 a0.Id)), (11, (.ptr 2 3)), (12, (.int .i64 a0.Revision)), (13, (.ptr 2 2)), (14, (.int .i64 a0.Parent)), (15, (.ptr 2 4)), (16, (.int .i64 a0.Clock)), (17, (.ptr 2 5)), (18, (.int .i64 a0.Kind)), (19, (.ag [(.int .i64 a0.Trace), (.int .i64 a0.Id), (.int .i64 a0.Revision), (.int .i64 a0.Parent), (.int .i64 a0.Clock), (.int .i64 a0.Kind)])), (20, (.ptr 3 0)), (21, (.int .i64 a1.Trace)), (22, (.ptr 3 1)), (23, (.int .i64 a1.Id)), (24, (.ptr 3 3)), (25, (.int .i64 a1.Revision)), (26, (.ptr 3 2)), (27, (.int .i64 a1.Parent)), (28, (.ptr 3 4)), (29, (.int .i64 a1.Clock)), (30, (.ptr 3 5)), (31, (.int .i64 a1.Kind)), (32, (.ag [(.int .i64 a1.Trace), (.int .i64 a1.Id), (.int .i64 a1.Revision), (.int .i64 a1.Parent), (.int .i64 a1.Clock), (.int .i64 a1.Kind)]))], [(6, (.box [(.int .i64 a1.Trace), (.int .i64 a1.Id), (.int .i64 a1.Revision), (.int .i64 a1.Parent), (.int .i64 a1.Clock), (.int .i64 a1.Kind)])), (2, (.box (e_Tapi_Span a0).cells)), (3, (.box (e_Tapi_Span a1).cells))]⟩ h ⟨rfl, rfl, rfl, rfl, rfl, rfl, rfl, rfl, rfl, rfl, rfl, rfl, rfl, rfl, rfl, rfl, rfl, rfl, rfl, rfl, rfl, rfl, rfl, rfl, rfl, rfl, rfl, rfl, rfl, rfl, rfl, rfl, rfl, trivial⟩ ⟨rfl, rfl, rfl, trivial⟩)) ⟨rfl, rfl, rfl, rfl, rfl, rfl, rfl, rfl, rfl, rfl, rfl, rfl, rfl, rfl, rfl, rfl, rfl, rfl, rfl, rfl, rfl, rfl, rfl, rfl, rfl, rfl, rfl, rfl, rfl, rfl, rfl, rfl, rfl, trivial⟩ ⟨rfl, rfl, trivial⟩)) ?_
  refine AWp.regionD mixed ?_
  refine AOpsD.cons 0 rfl (st_sliceI (l := [a0.Trace, a0.Id, a0.Revision, a0.Parent, a0.Clock, a0.Kind]) (enc := e_i64) (cs := [(.int .i64 a0.Trace), (.int .i64 a0.Id), (.int .i64 a0.Revision), (.int .i64 a0.Parent), (.int .i64 a0.Clock), (.int .i64 a0.Kind)]) rfl u157 sz3 rfl rfl rfl rfl els_i64) ?_
  refine AOpsD.cons 1 rfl (st_sliceI (l := [a1.Trace, a1.Id, a1.Revision, a1.Parent, a1.Clock, a1.Kind]) (enc := e_i64) (cs := [(.int .i64 a1.Trace), (.int .i64 a1.Id), (.int .i64 a1.Revision), (.int .i64 a1.Parent), (.int .i64 a1.Clock), (.int .i64 a1.Kind)]) rfl u157 sz3 rfl rfl rfl rfl els_i64) ?_
  have ⟨v2, hv2, h⟩ := of_bind h
  refine AOpsD.cons 2 rfl (st_call0 (ar := [(.sl 1 ([a0.Trace, a0.Id, a0.Revision, a0.Parent, a0.Clock, a0.Kind].map e_i64) false), (.sl 1 ([a1.Trace, a1.Id, a1.Revision, a1.Parent, a1.Clock, a1.Kind].map e_i64) false)]) (caps := []) Try.call105 (F105_ok K [a0.Trace, a0.Id, a0.Revision, a0.Parent, a0.Clock, a0.Kind] [a1.Trace, a1.Id, a1.Revision, a1.Parent, a1.Clock, a1.Kind] v2 hv2) rfl rfl ⟨rfl, rfl, trivial⟩ rfl) ?_
  refine AOpsD.cons 3 rfl (st_fieldP (m := 2) (o := 0) rfl f38_6 rfl rfl) ?_
  refine AOpsD.cons 4 rfl (st_loadP (cs := (e_Tapi_Span a0).cells) (v := (.str a0.Service)) rfl o9 rfl rfl rfl) ?_
  refine AOpsD.cons 5 rfl (st_fieldP (m := 3) (o := 0) rfl f38_6 rfl rfl) ?_
  refine AOpsD.cons 6 rfl (st_loadP (cs := (e_Tapi_Span a1).cells) (v := (.str a1.Service)) rfl o9 rfl rfl rfl) ?_
  have ⟨v4, hv4, h⟩ := of_bind h
  refine AOpsD.cons 7 rfl (st_call0 (ar := [(.str a0.Service), (.str a1.Service)]) (caps := []) Try.call106 (F106_ok K a0.Service a1.Service v4 hv4) rfl rfl ⟨rfl, rfl, trivial⟩ rfl) ?_
  refine AOpsD.cons 8 rfl (st_fieldP (m := 2) (o := 0) rfl f38_7 rfl rfl) ?_
  refine AOpsD.cons 9 rfl (st_loadP (cs := (e_Tapi_Span a0).cells) (v := (.str a0.Version)) rfl o9 rfl rfl rfl) ?_
  refine AOpsD.cons 10 rfl (st_fieldP (m := 3) (o := 0) rfl f38_7 rfl rfl) ?_
  refine AOpsD.cons 11 rfl (st_loadP (cs := (e_Tapi_Span a1).cells) (v := (.str a1.Version)) rfl o9 rfl rfl rfl) ?_
  have ⟨v6, hv6, h⟩ := of_bind h
  refine AOpsD.cons 12 rfl (st_call0 (ar := [(.str a0.Version), (.str a1.Version)]) (caps := []) Try.call106 (F106_ok K a0.Version a1.Version v6 hv6) rfl rfl ⟨rfl, rfl, trivial⟩ rfl) ?_
  refine AOpsD.cons 13 rfl (st_fieldP (m := 2) (o := 0) rfl f38_8 rfl rfl) ?_
  refine AOpsD.cons 14 rfl (st_loadP (cs := (e_Tapi_Span a0).cells) (v := (.str a0.Operation)) rfl o9 rfl rfl rfl) ?_
  refine AOpsD.cons 15 rfl (st_fieldP (m := 3) (o := 0) rfl f38_8 rfl rfl) ?_
  refine AOpsD.cons 16 rfl (st_loadP (cs := (e_Tapi_Span a1).cells) (v := (.str a1.Operation)) rfl o9 rfl rfl rfl) ?_
  have ⟨v8, hv8, h⟩ := of_bind h
  refine AOpsD.cons 17 rfl (st_call0 (ar := [(.str a0.Operation), (.str a1.Operation)]) (caps := []) Try.call106 (F106_ok K a0.Operation a1.Operation v8 hv8) rfl rfl ⟨rfl, rfl, trivial⟩ rfl) ?_
  refine AOpsD.cons 18 rfl (st_fieldP (m := 2) (o := 0) rfl f38_9 rfl rfl) ?_
  refine AOpsD.cons 19 rfl (st_loadP (cs := (e_Tapi_Span a0).cells) (v := (.int .i64 a0.Start)) rfl o3 rfl rfl rfl) ?_
  refine AOpsD.cons 20 rfl (st_fieldP (m := 3) (o := 0) rfl f38_9 rfl rfl) ?_
  refine AOpsD.cons 21 rfl (st_loadP (cs := (e_Tapi_Span a1).cells) (v := (.int .i64 a1.Start)) rfl o3 rfl rfl rfl) ?_
  have ⟨v10, hv10, h⟩ := of_bind h
  refine AOpsD.cons 22 rfl (st_call0 (ar := [(.int .i64 a0.Start), (.int .i64 a1.Start)]) (caps := []) Try.call51 (F51_ok K a0.Start a1.Start v10 hv10) rfl rfl ⟨rfl, rfl, trivial⟩ rfl) ?_
  refine AOpsD.cons 23 rfl (st_fieldP (m := 2) (o := 0) rfl f38_10 rfl rfl) ?_
  refine AOpsD.cons 24 rfl (st_loadP (cs := (e_Tapi_Span a0).cells) (v := (.int .i64 a0.End)) rfl o3 rfl rfl rfl) ?_
  refine AOpsD.cons 25 rfl (st_fieldP (m := 3) (o := 0) rfl f38_10 rfl rfl) ?_
  refine AOpsD.cons 26 rfl (st_loadP (cs := (e_Tapi_Span a1).cells) (v := (.int .i64 a1.End)) rfl o3 rfl rfl rfl) ?_
  have ⟨v12, hv12, h⟩ := of_bind h
  refine AOpsD.cons 27 rfl (st_call0 (ar := [(.int .i64 a0.End), (.int .i64 a1.End)]) (caps := []) Try.call51 (F51_ok K a0.End a1.End v12 hv12) rfl rfl ⟨rfl, rfl, trivial⟩ rfl) ?_
  refine AOpsD.cons 28 rfl (st_fieldP (m := 2) (o := 0) rfl f38_11 rfl rfl) ?_
  refine AOpsD.cons 29 rfl (st_loadP (cs := (e_Tapi_Span a0).cells) (v := (.bool a0.Error)) rfl o4 rfl rfl rfl) ?_
  have ⟨v14, hv14, h⟩ := of_bind h
  refine AOpsD.cons 30 rfl (st_call0 (ar := [(.bool a0.Error)]) (caps := []) Try.call107 (F107_ok K a0.Error v14 hv14) rfl rfl ⟨rfl, trivial⟩ rfl) ?_
  refine AOpsD.cons 31 rfl (st_fieldP (m := 3) (o := 0) rfl f38_11 rfl rfl) ?_
  refine AOpsD.cons 32 rfl (st_loadP (cs := (e_Tapi_Span a1).cells) (v := (.bool a1.Error)) rfl o4 rfl rfl rfl) ?_
  have ⟨v16, hv16, h⟩ := of_bind h
  refine AOpsD.cons 33 rfl (st_call0 (ar := [(.bool a1.Error)]) (caps := []) Try.call107 (F107_ok K a1.Error v16 hv16) rfl rfl ⟨rfl, trivial⟩ rfl) ?_
  refine AOpsD.cons 34 rfl (st_arith (k := .i64) (a := v14) (b := v16) (c := (IntKind.i64.wrap (v14 - v16))) rfl rfl rfl rfl) ?_
  refine AOpsD.cons 35 rfl (st_fieldP (m := 2) (o := 0) rfl f38_12 rfl rfl) ?_
  refine AOpsD.cons 36 rfl (st_loadP (cs := (e_Tapi_Span a0).cells) (v := (.sl 4 (a0.Attrs.map e_Tapi_Attr) false)) rfl o35 rfl rfl rfl) ?_
  refine AOpsD.cons 37 rfl (st_fieldP (m := 3) (o := 0) rfl f38_12 rfl rfl) ?_
  refine AOpsD.cons 38 rfl (st_loadP (cs := (e_Tapi_Span a1).cells) (v := (.sl 4 (a1.Attrs.map e_Tapi_Attr) false)) rfl o35 rfl rfl rfl) ?_
  have ⟨v18, hv18, h⟩ := of_bind h
  refine AOpsD.cons 39 rfl (st_call0 (ar := [(.sl 4 (a0.Attrs.map e_Tapi_Attr) false), (.sl 4 (a1.Attrs.map e_Tapi_Attr) false)]) (caps := []) Try.call108 (F108_ok K a0.Attrs a1.Attrs v18 hv18) rfl rfl ⟨rfl, rfl, trivial⟩ rfl) ?_
  refine AOpsD.cons 40 rfl (st_fieldP (m := 2) (o := 0) rfl f38_13 rfl rfl) ?_
  refine AOpsD.cons 41 rfl (st_loadP (cs := (e_Tapi_Span a0).cells) (v := (.sl 2 (a0.Links.map e_Tapi_Ref) false)) rfl o36 rfl rfl rfl) ?_
  refine AOpsD.cons 42 rfl (st_fieldP (m := 3) (o := 0) rfl f38_13 rfl rfl) ?_
  refine AOpsD.cons 43 rfl (st_loadP (cs := (e_Tapi_Span a1).cells) (v := (.sl 2 (a1.Links.map e_Tapi_Ref) false)) rfl o36 rfl rfl rfl) ?_
  have ⟨v20, hv20, h⟩ := of_bind h
  refine AOpsD.cons 44 rfl (st_call0 (ar := [(.sl 2 (a0.Links.map e_Tapi_Ref) false), (.sl 2 (a1.Links.map e_Tapi_Ref) false), (.clo 52 [])]) (caps := []) Try.call109 (F109_ok K a0.Links a1.Links v20 hv20) rfl rfl ⟨rfl, rfl, rfl, trivial⟩ rfl) ?_
  refine AOpsD.cons 45 rfl (stx_buildSlice (vs := [(.int .i64 v2), (.int .i64 v4), (.int .i64 v6), (.int .i64 v8), (.int .i64 v10), (.int .i64 v12), (.int .i64 (IntKind.i64.wrap (v14 - v16))), (.int .i64 v18), (.int .i64 v20)]) (enc := e_i64) (l := [v2, v4, v6, v8, v10, v12, (IntKind.i64.wrap (v14 - v16)), v18, v20]) rfl el87 rfl rfl ⟨rfl, rfl, rfl, rfl, rfl, rfl, rfl, rfl, rfl, trivial⟩ rfl els_i64 rfl rfl rfl rfl) ?_
  have ⟨v22, hv22, h⟩ := of_bind h
  refine AOpsD.cons 46 rfl (st_callB (rd := [(78, (.vec 1 (List.map e_i64 [v2, v4, v6, v8, v10, v12, (IntKind.i64.wrap (v14 - v16)), v18, v20])))]) (ar := [(.vs 78)]) (caps := []) Try.call50 (F50_ok K [v2, v4, v6, v8, v10, v12, (IntKind.i64.wrap (v14 - v16)), v18, v20] v22 hv22) rfl rfl ⟨rfl, trivial⟩ (subS_mem ⟨rfl, trivial⟩) rfl rfl rfl) ?_
  refine AOpsD.cons 47 rfl (st_assign (v := (.int .i64 v22)) rfl rfl) ?_
  refine AOpsD.nil (by kernel_rfl) rfl ?_
  refine At.next ?_
  refine AWp.ret ?_
  have h := Option.some.inj h
  subst h
  refine (hret _ ?_).1
  exact ⟨[(.int .i64 v22)], ⟨rfl, trivial⟩, rfl, trivial⟩

/-! 84: slices.SortedFunc[sleuth/api.Span] -/
def F84 (K : Nat) (a000 : (List Tapi_Span)) : Option ((List Tapi_Span)) :=
  (F102 K a000).bind fun v2 =>
    (sortF (fun a b => F86 K a b) v2).bind fun v4 =>
      some v4
theorem F84_ok (K : Nat) (a000 : (List Tapi_Span)) (r : (List Tapi_Span)) (h : F84 K a000 = some r) : ACall P 84 ⟨[(.clo 104 [(.ip [(.sl 14 (a000.map e_Tapi_Span) false)])]), (.clo 86 [])], [], .vs 4, [(4, .vec 14 (List.map e_Tapi_Span r))], [4]⟩ := by
  refine acall_of Try.func84 Try.results84 rfl Try.ntmps84 rfl rfl rfl ?_
  intro E Q hP hN hro hret
  obtain ⟨P', nt', w0, F0, p0, S0, β0, ro0⟩ := E
  simp only at hP hN
  subst hP hN
  dsimp only [argT]
  unfold F84 at h
  refine AWp.seq ?_
  refine AWp.region ?_
  refine AOps.cons rfl (st_assign (v := (.sl 14 [] false)) rfl rfl) rfl ?_
  refine AOps.nil ?_
  refine At.next ?_
  refine AWp.seq ?_
  refine AWp.region ?_
  refine AOps.cons rfl (st_move (v := (.clo 104 [(.ip [(.sl 14 (a000.map e_Tapi_Span) false)])])) rfl rfl) rfl ?_
  have ⟨v2, hv2, h⟩ := of_bind h
  refine AOps.cons rfl (st_callO (sz := 14) (es := (List.map e_Tapi_Span v2)) (ar := [(.clo 104 [(.ip [(.sl 14 (a000.map e_Tapi_Span) false)])])]) (caps := []) Try.call102 ((F102_ok K a000 v2 hv2).sw 2 7) rfl rfl ⟨rfl, trivial⟩ rfl) rfl ?_
  refine AOps.cons rfl (st_assign (v := (.vs 7)) rfl rfl) rfl ?_
  refine AOps.nil ?_
  refine At.next ?_
  refine AWp.seq ?_
  refine AWp.region ?_
  refine AOps.cons rfl (st_move (v := (.vs 7)) rfl rfl) rfl ?_
  refine AOps.cons rfl (st_move (v := (.clo 86 [])) rfl rfl) rfl ?_
  have ⟨v4, hv4, h⟩ := of_bind h
  refine AOps.cons rfl (st_call (d := some 10) (c := ⟨[(.vs 7), (.clo 86 [])], [(7, (.vec 14 (List.map e_Tapi_Span v2)))], .tup [], [(7, .vec 14 (List.map e_Tapi_Span v4))], []⟩) (ar := [(.vs 7), (.clo 86 [])]) (caps := []) (news := []) (forg := []) Try.call103 (sort_ok (n := 7) (enc := e_Tapi_Span) (l := v2) (caps := []) (c := (fun a b => F86 K a b)) sortC103 Try.call86 els_Tapi_Span (fun _ => rfl) (fun a b m hm => F86_ok K a b m hm) hv4) rfl rfl ⟨rfl, rfl, trivial⟩ rfl ⟨rfl, trivial⟩ rfl) rfl ?_
  refine AOps.nil ?_
  refine At.next ?_
  refine AWp.seq ?_
  refine AWp.region ?_
  refine AOps.cons rfl (st_move (v := (.vs 7)) rfl rfl) rfl ?_
  refine AOps.cons rfl (st_assign (v := (.vs 7)) rfl rfl) rfl ?_
  refine AOps.nil ?_
  refine At.next ?_
  refine AWp.ret ?_
  refine At.ghost (st' := ⟨[(4, (.vs 4))], [(4, (.vec 14 (List.map e_Tapi_Span v4)))]⟩) (fun a w h => (SatL.wk ⟨[(4, (.vs 4))], [(4, (.vec 14 (List.map e_Tapi_Span v4)))]⟩ (ghost_sw (a := 7) (b := 4) rfl rfl a w (SatL.wk ⟨[(4, (.vs 7))], [(7, (.vec 14 (List.map e_Tapi_Span v4)))]⟩ h ⟨rfl, trivial⟩ ⟨rfl, trivial⟩)) ⟨rfl, trivial⟩ ⟨rfl, trivial⟩)) ?_
  have h := Option.some.inj h
  subst h
  refine (hret _ ?_).1
  exact ⟨[(.vs 4)], ⟨rfl, trivial⟩, rfl, ⟨rfl, trivial⟩⟩

/-! 87: sleuth/span.Equal -/
def F87 (K : Nat) (a0 : Tapi_Span) (a1 : Tapi_Span) : Option (Bool) :=
  (F86 K a0 a1).bind fun v2 =>
    some (v2 == 0)
theorem F87_ok (K : Nat) (a0 : Tapi_Span) (a1 : Tapi_Span) (r : Bool) (h : F87 K a0 a1 = some r) : ACall P 87 ⟨[(e_Tapi_Span a0), (e_Tapi_Span a1)], [], (.bool r), [], []⟩ := by
  refine acall_of Try.func87 Try.results87 rfl Try.ntmps87 rfl rfl rfl ?_
  intro E Q hP hN hro hret
  obtain ⟨P', nt', w0, F0, p0, S0, β0, ro0⟩ := E
  simp only at hP hN
  subst hP hN
  dsimp only [argT]
  unfold F87 at h
  refine AWp.seq ?_
  refine AWp.region ?_
  refine AOps.cons rfl (st_box (v := (e_Tapi_Span a0)) (cs := (e_Tapi_Span a0).cells) rfl rfl rfl rfl rfl) rfl ?_
  refine AOps.cons rfl (st_box (v := (e_Tapi_Span a1)) (cs := (e_Tapi_Span a1).cells) rfl rfl rfl rfl rfl) rfl ?_
  refine AOps.cons rfl (st_assign (v := (.bool false)) rfl rfl) rfl ?_
  refine AOps.nil ?_
  refine At.next ?_
  refine AWp.seq ?_
  refine AWp.region ?_
  refine AOps.cons rfl (st_loadPA (cs := (e_Tapi_Span a0).cells) (vs := (e_Tapi_Span a0).cells) rfl a38 rfl rfl rfl rfl) rfl ?_
  refine AOps.cons rfl (st_loadPA (cs := (e_Tapi_Span a1).cells) (vs := (e_Tapi_Span a1).cells) rfl a38 rfl rfl rfl rfl) rfl ?_
  have ⟨v2, hv2, h⟩ := of_bind h
  refine AOps.cons rfl (st_call0 (ar := [(e_Tapi_Span a0), (e_Tapi_Span a1)]) (caps := []) Try.call86 (F86_ok K a0 a1 v2 hv2) rfl rfl ⟨rfl, rfl, trivial⟩ rfl) rfl ?_
  refine AOps.cons rfl (st_cmp (k := .i64) (a := v2) (b := 0) (c := (v2 == 0)) rfl rfl rfl rfl) rfl ?_
  refine AOps.cons rfl (st_assign (v := (.bool (v2 == 0))) rfl rfl) rfl ?_
  refine AOps.nil ?_
  refine At.next ?_
  refine AWp.ret ?_
  have h := Option.some.inj h
  subst h
  refine (hret _ ?_).1
  exact ⟨[(.bool (v2 == 0))], ⟨rfl, trivial⟩, rfl, trivial⟩

/-! 83: slices.CompactFunc[[]sleuth/api.Span,sleuth/api.Span] -/
def F83_c3 (K : Nat) (a0 : (List Tapi_Span)) : Option ((List Tapi_Span)) :=
  some a0
def F83_c20 (K : Nat) (v18 : Int) (v19 : (List Tapi_Span)) : Option ((List Tapi_Span)) :=
  if (0 : Int) ≤ v18 ∧ v18 ≤ (v19.length : Int) ∧ (v19.length : Int) ≤ (v19.length : Nat) then
    if (0 + v18.toNat) + ((v19.length : Int).toNat - v18.toNat) ≤ v19.length then
      if (0 + v18.toNat) + ((v19.length : Int).toNat - v18.toNat) ≤ v19.length then
        if (0 : Int) ≤ 0 ∧ 0 ≤ v18 ∧ v18 ≤ ((v19.take (0 + v18.toNat) ++ List.replicate ((v19.length : Int).toNat - v18.toNat) z_Tapi_Span ++ v19.drop ((0 + v18.toNat) + ((v19.length : Int).toNat - v18.toNat))).length : Nat) then
          if (0 + (0 : Int).toNat) + (v18.toNat - (0 : Int).toNat) ≤ (v19.take (0 + v18.toNat) ++ List.replicate ((v19.length : Int).toNat - v18.toNat) z_Tapi_Span ++ v19.drop ((0 + v18.toNat) + ((v19.length : Int).toNat - v18.toNat))).length then
            some (((v19.take (0 + v18.toNat) ++ List.replicate ((v19.length : Int).toNat - v18.toNat) z_Tapi_Span ++ v19.drop ((0 + v18.toNat) + ((v19.length : Int).toNat - v18.toNat))).drop (0 + (0 : Int).toNat)).take (v18.toNat - (0 : Int).toNat))
          else none
        else none
      else none
    else none
  else none
def F83_j39 (K : Nat) (b27 : Int → Int → (List Tapi_Span) → Option ((List Tapi_Span))) (v15 : Int) (v37 : Int) (v38 : (List Tapi_Span)) : Option ((List Tapi_Span)) :=
  b27 v37 (IntKind.i64.wrap (v15 + 1)) v38
def F83_l17 (K : Nat) (v1 : Int) (a0 : (List Tapi_Span)) (c21 : Int → (List Tapi_Span) → Option ((List Tapi_Span))) : Nat → Int → Int → (List Tapi_Span) → Option ((List Tapi_Span))
  | 0, _, _, _ => none
  | k17 + 1, v14, v15, v16 =>
    if (0 + v1.toNat) + ((a0.length : Int).toNat - v1.toNat) ≤ v16.length then
      if (decide (v15 < ((((a0.length : Int).toNat - v1.toNat) : Nat) : Int))) = true then
        if (0 + v1.toNat) + ((a0.length : Int).toNat - v1.toNat) ≤ v16.length then
          if (0 : Int) ≤ v15 ∧ v15 < (((a0.length : Int).toNat - v1.toNat) : Nat) then
            if ((0 + v1.toNat) + v15.toNat) < v16.length then
              if (0 + v1.toNat) + ((a0.length : Int).toNat - v1.toNat) ≤ v16.length then
                if (0 : Int) ≤ (IntKind.i64.wrap (v15 - 1)) ∧ (IntKind.i64.wrap (v15 - 1)) < (((a0.length : Int).toNat - v1.toNat) : Nat) then
                  if ((0 + v1.toNat) + (IntKind.i64.wrap (v15 - 1)).toNat) < v16.length then
                    (F87 K (v16.getD ((0 + v1.toNat) + v15.toNat) z_Tapi_Span) (v16.getD ((0 + v1.toNat) + (IntKind.i64.wrap (v15 - 1)).toNat) z_Tapi_Span)).bind fun v36 =>
                      if (!v36) = true then
                        if (0 + v1.toNat) + ((a0.length : Int).toNat - v1.toNat) ≤ v16.length then
                          if (0 : Int) ≤ v15 ∧ v15 < (((a0.length : Int).toNat - v1.toNat) : Nat) then
                            if ((0 + v1.toNat) + v15.toNat) < v16.length then
                              if (0 : Int) ≤ v14 ∧ v14 < (v16.length : Nat) then
                                if v14.toNat < v16.length then
                                  F83_j39 K (F83_l17 K v1 a0 c21 k17) v15 (IntKind.i64.wrap (v14 + 1)) (v16.set v14.toNat (v16.getD ((0 + v1.toNat) + v15.toNat) z_Tapi_Span))
                                else none
                              else none
                            else none
                          else none
                        else none
                      else
                        F83_j39 K (F83_l17 K v1 a0 c21 k17) v15 v14 v16
                  else none
                else none
              else none
            else none
          else none
        else none
      else
        c21 v14 v16
    else none
def F83_l2 (K : Nat) (a0 : (List Tapi_Span)) (c4 : Option ((List Tapi_Span))) : Nat → Int → Option ((List Tapi_Span))
  | 0, _ => none
  | k2 + 1, v1 =>
    if (decide (v1 < (a0.length : Int))) = true then
      if (0 : Int) ≤ v1 ∧ v1 < (a0.length : Nat) then
        if v1.toNat < a0.length then
          if (0 : Int) ≤ (IntKind.i64.wrap (v1 - 1)) ∧ (IntKind.i64.wrap (v1 - 1)) < (a0.length : Nat) then
            if (IntKind.i64.wrap (v1 - 1)).toNat < a0.length then
              (F87 K (a0.getD v1.toNat z_Tapi_Span) (a0.getD (IntKind.i64.wrap (v1 - 1)).toNat z_Tapi_Span)).bind fun v11 =>
                if v11 = true then
                  if (0 : Int) ≤ v1 ∧ v1 ≤ (a0.length : Int) ∧ (a0.length : Int) ≤ (a0.length : Nat) then
                    if (0 + v1.toNat) + ((a0.length : Int).toNat - v1.toNat) ≤ a0.length then
                      F83_l17 K v1 a0 (F83_c20 K) K v1 1 a0
                    else none
                  else none
                else
                  (F83_l2 K a0 c4 k2) (IntKind.i64.wrap (v1 + 1))
            else none
          else none
        else none
      else none
    else
      c4
def F83 (K : Nat) (a0 : (List Tapi_Span)) : Option ((List Tapi_Span)) :=
  if (decide ((a0.length : Int) < 2)) = true then
    some a0
  else
    F83_l2 K a0 (F83_c3 K a0) K 1
theorem F83_ok (K : Nat) (a0 : (List Tapi_Span)) (r : (List Tapi_Span)) (h : F83 K a0 = some r) : ACall P 83 ⟨[(.vs 0), (.clo 87 [])], [(0, .vec 14 (List.map e_Tapi_Span a0))], .vs 0, [(0, .vec 14 (List.map e_Tapi_Span r))], [0]⟩ := by
  refine acall_of Try.func83 Try.results83 rfl Try.ntmps83 rfl rfl rfl ?_
  intro E Q hP hN hro hret
  obtain ⟨P', nt', w0, F0, p0, S0, β0, ro0⟩ := E
  simp only at hP hN
  subst hP hN
  dsimp only [argT]
  unfold F83 at h
  refine AWp.seq ?_
  refine AWp.region ?_
  refine AOps.cons rfl (st_assign (v := (.sl 14 [] false)) rfl rfl) rfl ?_
  refine AOps.nil ?_
  refine At.next ?_
  refine AWp.seq ?_
  refine AWp.seq ?_
  refine AWp.region ?_
  refine AOps.cons rfl (st_move (v := (.vs 0)) rfl rfl) rfl ?_
  refine AOps.cons rfl (stx_lenV (l := a0) (enc := e_Tapi_Span) rfl u33 rfl rfl) rfl ?_
  refine AOps.cons rfl (st_cmp (k := .i64) (a := (a0.length : Int)) (b := 2) (c := (decide ((a0.length : Int) < 2))) rfl rfl rfl rfl) rfl ?_
  refine AOps.nil ?_
  refine At.next ?_
  have hif := of_if h
  refine AWp.cond rfl (fun hc => ?_) (fun hc => ?_)
  · have h := hif.1 hc
    refine AWp.seq ?_
    refine AWp.region ?_
    refine AOps.cons rfl (st_move (v := (.vs 0)) rfl rfl) rfl ?_
    refine AOps.cons rfl (st_assign (v := (.vs 0)) rfl rfl) rfl ?_
    refine AOps.nil ?_
    refine At.next ?_
    refine AWp.ret ?_
    refine At.thruR ?_
    have h := Option.some.inj h
    subst h
    refine (hret _ ?_).1
    exact ⟨[(.vs 0)], ⟨rfl, trivial⟩, rfl, ⟨rfl, trivial⟩⟩
  · have h := hif.2 hc
    refine AWp.skip ?_
    refine At.next ?_
    refine AWp.seq ?_
    refine AWp.seq ?_
    refine AWp.region ?_
    refine AOps.cons rfl (st_assign (v := (.int .i64 1)) rfl rfl) rfl ?_
    refine AOps.nil ?_
    refine At.next ?_
    refine AWp.weaken (st' := ⟨[(0, (.vs 0)), (1, (.clo 87 [])), (5, (.int .i64 1))], [(0, (.vec 14 (List.map e_Tapi_Span a0)))]⟩) ⟨rfl, rfl, rfl, trivial⟩ ⟨rfl, trivial⟩ ?_
    refine AWp.loopBlock (V := Int) (X := Unit) (lp := fun k v => F83_l2 K a0 (F83_c3 K a0) k v = some r) (sh := fun v => ⟨[(0, (.vs 0)), (1, (.clo 87 [])), (5, (.int .i64 v))], [(0, (.vec 14 (List.map e_Tapi_Span a0)))]⟩) (x := fun v => F83_c3 K a0 = some r) (shx := fun v => ⟨[(0, (.vs 0))], [(0, (.vec 14 (List.map e_Tapi_Span a0)))]⟩) (k := K) (v := 1) h ?_ ?_
    · intro v h
      try dsimp only at h ⊢
      unfold F83_c3 at h
      refine At.next ?_
      refine AWp.seq ?_
      refine AWp.region ?_
      refine AOps.cons rfl (st_move (v := (.vs 0)) rfl rfl) rfl ?_
      refine AOps.cons rfl (st_assign (v := (.vs 0)) rfl rfl) rfl ?_
      refine AOps.nil ?_
      refine At.next ?_
      refine AWp.ret ?_
      have h := Option.some.inj h
      subst h
      refine (hret _ ?_).1
      exact ⟨[(.vs 0)], ⟨rfl, trivial⟩, rfl, ⟨rfl, trivial⟩⟩
    · intro N k2 v h IH2 J2
      revert h
      revert v
      intro v1 h
      try dsimp only at h IH2 J2 ⊢
      cases k2 with
      | zero => cases h
      | succ k2 =>
        rw [F83_l2] at h
        refine AWp.seq ?_
        refine AWp.seq ?_
        refine AWp.region ?_
        refine AOps.cons rfl (st_move (v := (.int .i64 v1)) rfl rfl) rfl ?_
        refine AOps.cons rfl (st_move (v := (.vs 0)) rfl rfl) rfl ?_
        refine AOps.cons rfl (stx_lenV (l := a0) (enc := e_Tapi_Span) rfl u33 rfl rfl) rfl ?_
        refine AOps.cons rfl (st_cmp (k := .i64) (a := v1) (b := (a0.length : Int)) (c := (decide (v1 < (a0.length : Int)))) rfl rfl rfl rfl) rfl ?_
        refine AOps.nil ?_
        refine At.next ?_
        have hif := of_if h
        refine AWp.cond rfl (fun hc => ?_) (fun hc => ?_)
        · have h := hif.1 hc
          refine AWp.skip ?_
          refine At.next ?_
          refine AWp.seq ?_
          refine AWp.block ?_
          refine AWp.seq ?_
          refine AWp.regionD mixed ?_
          refine AOpsD.cons 0 rfl (st_move (v := (.clo 87 [])) rfl rfl) ?_
          refine AOpsD.cons 1 rfl (st_move (v := (.vs 0)) rfl rfl) ?_
          refine AOpsD.cons 2 rfl (st_move (v := (.int .i64 v1)) rfl rfl) ?_
          have ⟨hg6, h⟩ := of_guard h
          refine AOpsD.cons 3 rfl (st_indexV (k := .i64) (v := (.vs 0)) (n := 0) (off := 0) (len := a0.length) (es := (List.map e_Tapi_Span a0)) (j := v1) (m := v1.toNat) rfl s33 rfl rfl (vecR_map _ _ _) rfl hg6 (Nat.zero_add _)) ?_
          have ⟨hg7, h⟩ := of_guard h
          refine AOpsD.cons 4 rfl (st_loadVA (l := a0) (enc := e_Tapi_Span) (z := z_Tapi_Span) (vs := (e_Tapi_Span (a0.getD v1.toNat z_Tapi_Span)).cells) rfl a38 rfl rfl hg7 rfl rfl) ?_
          refine AOpsD.cons 5 rfl (st_move (v := (.vs 0)) rfl rfl) ?_
          refine AOpsD.cons 6 rfl (st_move (v := (.int .i64 v1)) rfl rfl) ?_
          refine AOpsD.cons 7 rfl (st_arith (k := .i64) (a := v1) (b := 1) (c := (IntKind.i64.wrap (v1 - 1))) rfl rfl rfl rfl) ?_
          have ⟨hg8, h⟩ := of_guard h
          refine AOpsD.cons 8 rfl (st_indexV (k := .i64) (v := (.vs 0)) (n := 0) (off := 0) (len := a0.length) (es := (List.map e_Tapi_Span a0)) (j := (IntKind.i64.wrap (v1 - 1))) (m := (IntKind.i64.wrap (v1 - 1)).toNat) rfl s33 rfl rfl (vecR_map _ _ _) rfl hg8 (Nat.zero_add _)) ?_
          have ⟨hg9, h⟩ := of_guard h
          refine AOpsD.cons 9 rfl (st_loadVA (l := a0) (enc := e_Tapi_Span) (z := z_Tapi_Span) (vs := (e_Tapi_Span (a0.getD (IntKind.i64.wrap (v1 - 1)).toNat z_Tapi_Span)).cells) rfl a38 rfl rfl hg9 rfl rfl) ?_
          have ⟨v11, hv11, h⟩ := of_bind h
          refine AOpsD.cons 10 rfl (st_call0 (ar := [(e_Tapi_Span (a0.getD v1.toNat z_Tapi_Span)), (e_Tapi_Span (a0.getD (IntKind.i64.wrap (v1 - 1)).toNat z_Tapi_Span))]) (caps := []) Try.call87 (F87_ok K (a0.getD v1.toNat z_Tapi_Span) (a0.getD (IntKind.i64.wrap (v1 - 1)).toNat z_Tapi_Span) v11 hv11) rfl rfl ⟨rfl, rfl, trivial⟩ rfl) ?_
          refine AOpsD.nil (by kernel_rfl) rfl ?_
          refine At.next ?_
          have hif := of_if h
          refine AWp.cond rfl (fun hc => ?_) (fun hc => ?_)
          · have h := hif.1 hc
            refine AWp.seq ?_
            refine AWp.region ?_
            refine AOps.cons rfl (st_move (v := (.vs 0)) rfl rfl) rfl ?_
            refine AOps.cons rfl (st_move (v := (.int .i64 v1)) rfl rfl) rfl ?_
            have ⟨hg12, h⟩ := of_guard h
            have ⟨hg13, h⟩ := of_guard h
            refine AOps.cons rfl (stx_sliceVL (v := (.vs 0)) (n := 0) (off := 0) (len := a0.length) (l := a0) (enc := e_Tapi_Span) (kl := .i64) (lo := v1) rfl s33 rfl rfl (vecR_map _ _ _) rfl hg12 rfl) rfl ?_
            refine AOps.cons rfl (st_assign (v := (.vsub 0 (0 + v1.toNat) ((a0.length : Int).toNat - v1.toNat) false)) rfl rfl) rfl ?_
            refine AOps.nil ?_
            refine At.next ?_
            refine AWp.seq ?_
            refine AWp.seq ?_
            refine AWp.region ?_
            refine AOps.cons rfl (st_assign (v := (.int .i64 1)) rfl rfl) rfl ?_
            refine AOps.nil ?_
            refine At.next ?_
            refine AWp.weaken (st' := ⟨[(0, (.vs 0)), (1, (.clo 87 [])), (5, (.int .i64 v1)), (6, (.vsub 0 (0 + v1.toNat) ((a0.length : Int).toNat - v1.toNat) false)), (7, (.int .i64 1))], [(0, (.vec 14 (List.map e_Tapi_Span a0)))]⟩) ⟨rfl, rfl, rfl, rfl, rfl, trivial⟩ ⟨rfl, trivial⟩ ?_
            refine AWp.loopBlock (V := Int × Int × (List Tapi_Span)) (X := Int × (List Tapi_Span)) (lp := fun k v => F83_l17 K v1 a0 (F83_c20 K) k v.1 v.2.1 v.2.2 = some r) (sh := fun v => ⟨[(0, (.vs 0)), (1, (.clo 87 [])), (5, (.int .i64 v.1)), (6, (.vsub 0 (0 + v1.toNat) ((a0.length : Int).toNat - v1.toNat) false)), (7, (.int .i64 v.2.1))], [(0, (.vec 14 (List.map e_Tapi_Span v.2.2)))]⟩) (x := fun v => F83_c20 K v.1 v.2 = some r) (shx := fun v => ⟨[(0, (.vs 0)), (5, (.int .i64 v.1))], [(0, (.vec 14 (List.map e_Tapi_Span v.2)))]⟩) (k := K) (v := (v1, 1, a0)) h ?_ ?_
            · intro v h
              obtain ⟨v18, v19⟩ := v
              try dsimp only at h ⊢
              unfold F83_c20 at h
              refine At.next ?_
              refine AWp.seq ?_
              refine AWp.region ?_
              refine AOps.cons rfl (st_move (v := (.vs 0)) rfl rfl) rfl ?_
              refine AOps.cons rfl (st_move (v := (.int .i64 v18)) rfl rfl) rfl ?_
              have ⟨hg22, h⟩ := of_guard h
              have ⟨hg23, h⟩ := of_guard h
              refine AOps.cons rfl (stx_sliceVL (v := (.vs 0)) (n := 0) (off := 0) (len := v19.length) (l := v19) (enc := e_Tapi_Span) (kl := .i64) (lo := v18) rfl s33 rfl rfl (vecR_map _ _ _) rfl hg22 rfl) rfl ?_
              have ⟨hg24, h⟩ := of_guard h
              refine AOps.cons rfl (st_clear (v := (.vsub 0 (0 + v18.toNat) ((v19.length : Int).toNat - v18.toNat) false)) (n := 0) (off := (0 + v18.toNat)) (len := ((v19.length : Int).toNat - v18.toNat)) (l := v19) (enc := e_Tapi_Span) el33 ze38 rfl rfl rfl (vecR_sub hg24) els_Tapi_Span) rfl ?_
              refine AOps.nil ?_
              refine At.next ?_
              refine AWp.seq ?_
              refine AWp.region ?_
              refine AOps.cons rfl (st_move (v := (.vs 0)) rfl rfl) rfl ?_
              refine AOps.cons rfl (st_move (v := (.int .i64 v18)) rfl rfl) rfl ?_
              have ⟨hg25, h⟩ := of_guard h
              have ⟨hg26, h⟩ := of_guard h
              refine AOps.cons rfl (stx_sliceVH (v := (.vs 0)) (n := 0) (off := 0) (len := (v19.take (0 + v18.toNat) ++ List.replicate ((v19.length : Int).toNat - v18.toNat) z_Tapi_Span ++ v19.drop ((0 + v18.toNat) + ((v19.length : Int).toNat - v18.toNat))).length) (l := (v19.take (0 + v18.toNat) ++ List.replicate ((v19.length : Int).toNat - v18.toNat) z_Tapi_Span ++ v19.drop ((0 + v18.toNat) + ((v19.length : Int).toNat - v18.toNat)))) (enc := e_Tapi_Span) (kh := .i64) (hi := v18) rfl s33 rfl rfl (vecR_map _ _ _) rfl hg25 rfl) rfl ?_
              refine AOps.cons rfl (st_assign (v := (.vsub 0 (0 + (0 : Int).toNat) (v18.toNat - (0 : Int).toNat) false)) rfl rfl) rfl ?_
              refine AOps.nil ?_
              refine At.next ?_
              refine AWp.ret ?_
              refine At.overR ?_
              refine At.thruR ?_
              refine At.thruR (At.overR ?_)
              refine At.thruR ?_
              refine At.ghost (st' := ⟨[(4, (.vs 0))], [(0, (.vec 14 (List.map e_Tapi_Span (((v19.take (0 + v18.toNat) ++ List.replicate ((v19.length : Int).toNat - v18.toNat) z_Tapi_Span ++ v19.drop ((0 + v18.toNat) + ((v19.length : Int).toNat - v18.toNat))).drop (0 + (0 : Int).toNat)).take (v18.toNat - (0 : Int).toNat)))))]⟩) (fun a w h => (SatL.wk ⟨[(4, (.vs 0))], [(0, (.vec 14 (List.map e_Tapi_Span (((v19.take (0 + v18.toNat) ++ List.replicate ((v19.length : Int).toNat - v18.toNat) z_Tapi_Span ++ v19.drop ((0 + v18.toNat) + ((v19.length : Int).toNat - v18.toNat))).drop (0 + (0 : Int).toNat)).take (v18.toNat - (0 : Int).toNat)))))]⟩ (ghost_trunc (k := 4) (m := 0) (sz := 14) (off := (0 + (0 : Int).toNat)) (len := (v18.toNat - (0 : Int).toNat)) (enc := e_Tapi_Span) (l := (v19.take (0 + v18.toNat) ++ List.replicate ((v19.length : Int).toNat - v18.toNat) z_Tapi_Span ++ v19.drop ((0 + v18.toNat) + ((v19.length : Int).toNat - v18.toNat)))) rfl hg26 a w (SatL.wk ⟨[(4, (.vsub 0 (0 + (0 : Int).toNat) (v18.toNat - (0 : Int).toNat) false))], [(0, (.vec 14 (List.map e_Tapi_Span (v19.take (0 + v18.toNat) ++ List.replicate ((v19.length : Int).toNat - v18.toNat) z_Tapi_Span ++ v19.drop ((0 + v18.toNat) + ((v19.length : Int).toNat - v18.toNat))))))]⟩ h ⟨rfl, trivial⟩ ⟨rfl, trivial⟩)) ⟨rfl, trivial⟩ ⟨rfl, trivial⟩)) ?_
              have h := Option.some.inj h
              subst h
              refine (hret _ ?_).1
              exact ⟨[(.vs 0)], ⟨rfl, trivial⟩, rfl, ⟨rfl, trivial⟩⟩
            · intro N k17 v h IH17 J17
              obtain ⟨v14, v15, v16⟩ := v
              try dsimp only at h IH17 J17 ⊢
              cases k17 with
              | zero => cases h
              | succ k17 =>
                rw [F83_l17] at h
                refine AWp.seq ?_
                refine AWp.seq ?_
                refine AWp.region ?_
                refine AOps.cons rfl (st_move (v := (.int .i64 v15)) rfl rfl) rfl ?_
                refine AOps.cons rfl (st_move (v := (.vsub 0 (0 + v1.toNat) ((a0.length : Int).toNat - v1.toNat) false)) rfl rfl) rfl ?_
                have ⟨hg28, h⟩ := of_guard h
                refine AOps.cons rfl (stx_lenVS (v := (.vsub 0 (0 + v1.toNat) ((a0.length : Int).toNat - v1.toNat) false)) (n := 0) (off := (0 + v1.toNat)) (len := ((a0.length : Int).toNat - v1.toNat)) (l := v16) (enc := e_Tapi_Span) rfl u33 rfl rfl (vecR_sub hg28)) rfl ?_
                refine AOps.cons rfl (st_cmp (k := .i64) (a := v15) (b := ((((a0.length : Int).toNat - v1.toNat) : Nat) : Int)) (c := (decide (v15 < ((((a0.length : Int).toNat - v1.toNat) : Nat) : Int)))) rfl rfl rfl rfl) rfl ?_
                refine AOps.nil ?_
                refine At.next ?_
                have hif := of_if h
                refine AWp.cond rfl (fun hc => ?_) (fun hc => ?_)
                · have h := hif.1 hc
                  refine AWp.skip ?_
                  refine At.next ?_
                  refine AWp.seq ?_
                  refine AWp.block ?_
                  refine AWp.seq ?_
                  refine AWp.regionD mixed ?_
                  refine AOpsD.cons 0 rfl (st_move (v := (.clo 87 [])) rfl rfl) ?_
                  refine AOpsD.cons 1 rfl (st_move (v := (.vsub 0 (0 + v1.toNat) ((a0.length : Int).toNat - v1.toNat) false)) rfl rfl) ?_
                  refine AOpsD.cons 2 rfl (st_move (v := (.int .i64 v15)) rfl rfl) ?_
                  have ⟨hg29, h⟩ := of_guard h
                  have ⟨hg30, h⟩ := of_guard h
                  refine AOpsD.cons 3 rfl (st_indexV (k := .i64) (v := (.vsub 0 (0 + v1.toNat) ((a0.length : Int).toNat - v1.toNat) false)) (n := 0) (off := (0 + v1.toNat)) (len := ((a0.length : Int).toNat - v1.toNat)) (es := (List.map e_Tapi_Span v16)) (j := v15) (m := ((0 + v1.toNat) + v15.toNat)) rfl s33 rfl rfl (vecR_sub hg29) rfl hg30 (rfl)) ?_
                  have ⟨hg31, h⟩ := of_guard h
                  refine AOpsD.cons 4 rfl (st_loadVA (l := v16) (enc := e_Tapi_Span) (z := z_Tapi_Span) (vs := (e_Tapi_Span (v16.getD ((0 + v1.toNat) + v15.toNat) z_Tapi_Span)).cells) rfl a38 rfl rfl hg31 rfl rfl) ?_
                  refine AOpsD.cons 5 rfl (st_move (v := (.vsub 0 (0 + v1.toNat) ((a0.length : Int).toNat - v1.toNat) false)) rfl rfl) ?_
                  refine AOpsD.cons 6 rfl (st_move (v := (.int .i64 v15)) rfl rfl) ?_
                  refine AOpsD.cons 7 rfl (st_arith (k := .i64) (a := v15) (b := 1) (c := (IntKind.i64.wrap (v15 - 1))) rfl rfl rfl rfl) ?_
                  have ⟨hg32, h⟩ := of_guard h
                  have ⟨hg33, h⟩ := of_guard h
                  refine AOpsD.cons 8 rfl (st_indexV (k := .i64) (v := (.vsub 0 (0 + v1.toNat) ((a0.length : Int).toNat - v1.toNat) false)) (n := 0) (off := (0 + v1.toNat)) (len := ((a0.length : Int).toNat - v1.toNat)) (es := (List.map e_Tapi_Span v16)) (j := (IntKind.i64.wrap (v15 - 1))) (m := ((0 + v1.toNat) + (IntKind.i64.wrap (v15 - 1)).toNat)) rfl s33 rfl rfl (vecR_sub hg32) rfl hg33 (rfl)) ?_
                  have ⟨hg34, h⟩ := of_guard h
                  refine AOpsD.cons 9 rfl (st_loadVA (l := v16) (enc := e_Tapi_Span) (z := z_Tapi_Span) (vs := (e_Tapi_Span (v16.getD ((0 + v1.toNat) + (IntKind.i64.wrap (v15 - 1)).toNat) z_Tapi_Span)).cells) rfl a38 rfl rfl hg34 rfl rfl) ?_
                  have ⟨v36, hv36, h⟩ := of_bind h
                  refine AOpsD.cons 10 rfl (st_call0 (ar := [(e_Tapi_Span (v16.getD ((0 + v1.toNat) + v15.toNat) z_Tapi_Span)), (e_Tapi_Span (v16.getD ((0 + v1.toNat) + (IntKind.i64.wrap (v15 - 1)).toNat) z_Tapi_Span))]) (caps := []) Try.call87 (F87_ok K (v16.getD ((0 + v1.toNat) + v15.toNat) z_Tapi_Span) (v16.getD ((0 + v1.toNat) + (IntKind.i64.wrap (v15 - 1)).toNat) z_Tapi_Span) v36 hv36) rfl rfl ⟨rfl, rfl, trivial⟩ rfl) ?_
                  refine AOpsD.cons 11 rfl (st_not (b := v36) rfl rfl) ?_
                  refine AOpsD.nil (by kernel_rfl) rfl ?_
                  refine At.next ?_
                  refine AWp.join (V := Int × (List Tapi_Span)) (lp := fun v => F83_j39 K (F83_l17 K v1 a0 (F83_c20 K) k17) v15 v.1 v.2 = some r) (sh := fun v => ⟨[(0, (.vs 0)), (1, (.clo 87 [])), (5, (.int .i64 v.1)), (6, (.vsub 0 (0 + v1.toNat) ((a0.length : Int).toNat - v1.toNat) false)), (7, (.int .i64 v15))], [(0, (.vec 14 (List.map e_Tapi_Span v.2)))]⟩) ?_ ?_
                  · intro v h
                    obtain ⟨v37, v38⟩ := v
                    try dsimp only at h ⊢
                    unfold F83_j39 at h
                    refine At.end ?_
                    refine At.next ?_
                    refine AWp.region ?_
                    refine AOps.cons rfl (st_move (v := (.int .i64 v15)) rfl rfl) rfl ?_
                    refine AOps.cons rfl (st_arith (k := .i64) (a := v15) (b := 1) (c := (IntKind.i64.wrap (v15 + 1))) rfl rfl rfl rfl) rfl ?_
                    refine AOps.cons rfl (st_assign (v := (.int .i64 (IntKind.i64.wrap (v15 + 1)))) rfl rfl) rfl ?_
                    refine AOps.nil ?_
                    exact At.weaken (st' := ⟨[(0, (.vs 0)), (1, (.clo 87 [])), (5, (.int .i64 v37)), (6, (.vsub 0 (0 + v1.toNat) ((a0.length : Int).toNat - v1.toNat) false)), (7, (.int .i64 (IntKind.i64.wrap (v15 + 1))))], [(0, (.vec 14 (List.map e_Tapi_Span v38)))]⟩) ⟨rfl, rfl, rfl, rfl, rfl, trivial⟩ ⟨rfl, trivial⟩ (IH17 _ (v37, (IntKind.i64.wrap (v15 + 1)), v38) (Nat.lt_succ_self _) h)
                  · intro J39
                    have hif := of_if h
                    refine AWp.cond rfl (fun hc => ?_) (fun hc => ?_)
                    · have h := hif.1 hc
                      refine AWp.seq ?_
                      refine AWp.region ?_
                      refine AOps.cons rfl (st_move (v := (.vs 0)) rfl rfl) rfl ?_
                      refine AOps.cons rfl (st_move (v := (.int .i64 v14)) rfl rfl) rfl ?_
                      refine AOps.cons rfl (st_move (v := (.vsub 0 (0 + v1.toNat) ((a0.length : Int).toNat - v1.toNat) false)) rfl rfl) rfl ?_
                      refine AOps.cons rfl (st_move (v := (.int .i64 v15)) rfl rfl) rfl ?_
                      have ⟨hg40, h⟩ := of_guard h
                      have ⟨hg41, h⟩ := of_guard h
                      refine AOps.cons rfl (st_indexV (k := .i64) (v := (.vsub 0 (0 + v1.toNat) ((a0.length : Int).toNat - v1.toNat) false)) (n := 0) (off := (0 + v1.toNat)) (len := ((a0.length : Int).toNat - v1.toNat)) (es := (List.map e_Tapi_Span v16)) (j := v15) (m := ((0 + v1.toNat) + v15.toNat)) rfl s33 rfl rfl (vecR_sub hg40) rfl hg41 (rfl)) rfl ?_
                      have ⟨hg42, h⟩ := of_guard h
                      refine AOps.cons rfl (st_loadVA (l := v16) (enc := e_Tapi_Span) (z := z_Tapi_Span) (vs := (e_Tapi_Span (v16.getD ((0 + v1.toNat) + v15.toNat) z_Tapi_Span)).cells) rfl a38 rfl rfl hg42 rfl rfl) rfl ?_
                      have ⟨hg43, h⟩ := of_guard h
                      refine AOps.cons rfl (st_indexV (k := .i64) (v := (.vs 0)) (n := 0) (off := 0) (len := v16.length) (es := (List.map e_Tapi_Span v16)) (j := v14) (m := v14.toNat) rfl s33 rfl rfl (vecR_map _ _ _) rfl hg43 (Nat.zero_add _)) rfl ?_
                      have ⟨hg44, h⟩ := of_guard h
                      refine AOps.cons rfl (st_storeV (l := v16) (enc := e_Tapi_Span) (z := z_Tapi_Span) (a := (v16.getD ((0 + v1.toNat) + v15.toNat) z_Tapi_Span)) (v := (e_Tapi_Span (v16.getD ((0 + v1.toNat) + v15.toNat) z_Tapi_Span))) sz38 rfl rfl hg44 rfl els_Tapi_Span rfl rfl rfl rfl) rfl ?_
                      refine AOps.nil ?_
                      refine At.next ?_
                      refine AWp.region ?_
                      refine AOps.cons rfl (st_move (v := (.int .i64 v14)) rfl rfl) rfl ?_
                      refine AOps.cons rfl (st_arith (k := .i64) (a := v14) (b := 1) (c := (IntKind.i64.wrap (v14 + 1))) rfl rfl rfl rfl) rfl ?_
                      refine AOps.cons rfl (st_assign (v := (.int .i64 (IntKind.i64.wrap (v14 + 1)))) rfl rfl) rfl ?_
                      refine AOps.nil ?_
                      exact At.weaken (st' := ⟨[(0, (.vs 0)), (1, (.clo 87 [])), (5, (.int .i64 (IntKind.i64.wrap (v14 + 1)))), (6, (.vsub 0 (0 + v1.toNat) ((a0.length : Int).toNat - v1.toNat) false)), (7, (.int .i64 v15))], [(0, (.vec 14 (List.map e_Tapi_Span (v16.set v14.toNat (v16.getD ((0 + v1.toNat) + v15.toNat) z_Tapi_Span)))))]⟩) ⟨rfl, rfl, rfl, rfl, rfl, trivial⟩ ⟨rfl, trivial⟩ (J39 ((IntKind.i64.wrap (v14 + 1)), (v16.set v14.toNat (v16.getD ((0 + v1.toNat) + v15.toNat) z_Tapi_Span))) h)
                    · have h := hif.2 hc
                      refine AWp.skip ?_
                      exact At.weaken (st' := ⟨[(0, (.vs 0)), (1, (.clo 87 [])), (5, (.int .i64 v14)), (6, (.vsub 0 (0 + v1.toNat) ((a0.length : Int).toNat - v1.toNat) false)), (7, (.int .i64 v15))], [(0, (.vec 14 (List.map e_Tapi_Span v16)))]⟩) ⟨rfl, rfl, rfl, rfl, rfl, trivial⟩ ⟨rfl, trivial⟩ (J39 (v14, v16) h)
                · have h := hif.2 hc
                  refine AWp.exit ?_
                  refine At.thru ?_
                  exact At.weaken (st' := ⟨[(0, (.vs 0)), (5, (.int .i64 v14))], [(0, (.vec 14 (List.map e_Tapi_Span v16)))]⟩) ⟨rfl, rfl, trivial⟩ ⟨rfl, trivial⟩ (J17 (v14, v16) h)
          · have h := hif.2 hc
            refine AWp.skip ?_
            refine At.end ?_
            refine At.next ?_
            refine AWp.region ?_
            refine AOps.cons rfl (st_move (v := (.int .i64 v1)) rfl rfl) rfl ?_
            refine AOps.cons rfl (st_arith (k := .i64) (a := v1) (b := 1) (c := (IntKind.i64.wrap (v1 + 1))) rfl rfl rfl rfl) rfl ?_
            refine AOps.cons rfl (st_assign (v := (.int .i64 (IntKind.i64.wrap (v1 + 1)))) rfl rfl) rfl ?_
            refine AOps.nil ?_
            exact At.weaken (st' := ⟨[(0, (.vs 0)), (1, (.clo 87 [])), (5, (.int .i64 (IntKind.i64.wrap (v1 + 1))))], [(0, (.vec 14 (List.map e_Tapi_Span a0)))]⟩) ⟨rfl, rfl, rfl, trivial⟩ ⟨rfl, trivial⟩ (IH2 _ (IntKind.i64.wrap (v1 + 1)) (Nat.lt_succ_self _) h)
        · have h := hif.2 hc
          refine AWp.exit ?_
          refine At.thru ?_
          exact At.weaken (st' := ⟨[(0, (.vs 0))], [(0, (.vec 14 (List.map e_Tapi_Span a0)))]⟩) ⟨rfl, trivial⟩ ⟨rfl, trivial⟩ (J2 () h)

/-! 72: sleuth/span.set -/
def F72 (K : Nat) (a0 : (List Tapi_Span)) : Option ((List Tapi_Span)) :=
  (F85 K a0).bind fun v2 =>
    (F84 K v2).bind fun v4 =>
      (F83 K v4).bind fun v6 =>
        some v6
theorem F72_ok (K : Nat) (a0 : (List Tapi_Span)) (r : (List Tapi_Span)) (h : F72 K a0 = some r) : ACall P 72 ⟨[(.sl 14 (a0.map e_Tapi_Span) false)], [], (.sl 14 (r.map e_Tapi_Span) false), [], []⟩ := by
  refine acall_of Try.func72 Try.results72 rfl Try.ntmps72 rfl rfl rfl ?_
  intro E Q hP hN hro hret
  obtain ⟨P', nt', w0, F0, p0, S0, β0, ro0⟩ := E
  simp only at hP hN
  subst hP hN
  dsimp only [argT]
  unfold F72 at h
  refine AWp.seq ?_
  refine AWp.region ?_
  refine AOps.cons rfl (st_assign (v := (.sl 14 [] false)) rfl rfl) rfl ?_
  refine AOps.nil ?_
  refine At.next ?_
  refine AWp.seq ?_
  refine AWp.region ?_
  refine AOps.cons rfl (st_move (v := (.sl 14 (a0.map e_Tapi_Span) false)) rfl rfl) rfl ?_
  have ⟨v2, hv2, h⟩ := of_bind h
  refine AOps.cons rfl (st_call0 (ar := [(.sl 14 (a0.map e_Tapi_Span) false)]) (caps := []) Try.call85 (F85_ok K a0 v2 hv2) rfl rfl ⟨rfl, trivial⟩ rfl) rfl ?_
  have ⟨v4, hv4, h⟩ := of_bind h
  refine AOps.cons rfl (st_callO (sz := 14) (es := (List.map e_Tapi_Span v4)) (ar := [(.clo 104 [(.ip [(.sl 14 (v2.map e_Tapi_Span) false)])]), (.clo 86 [])]) (caps := []) Try.call84 ((F84_ok K v2 v4 hv4).sw 4 5) rfl rfl ⟨rfl, rfl, trivial⟩ rfl) rfl ?_
  have ⟨v6, hv6, h⟩ := of_bind h
  refine AOps.cons rfl (st_call (d := some 6) (c := ⟨[(.vs 5), (.clo 87 [])] ++ [], [(5, (.vec 14 (List.map e_Tapi_Span v4)))], .vs 5, [(5, .vec 14 (List.map e_Tapi_Span v6))], [5]⟩) (ar := [(.vs 5), (.clo 87 [])]) (caps := []) (news := []) (forg := [5]) Try.call83 ((F83_ok K v4 v6 hv6).sw 0 5) rfl rfl ⟨rfl, rfl, trivial⟩ rfl ⟨rfl, trivial⟩ rfl) rfl ?_
  refine AOps.cons rfl (st_assign (v := (.vs 5)) rfl rfl) rfl ?_
  refine AOps.nil ?_
  refine At.next ?_
  refine AWp.ret ?_
  refine At.ghost (st' := ⟨[(2, (.sl 14 (v6.map e_Tapi_Span) false))], []⟩) (fun a w h => (SatL.wk ⟨[(2, (.sl 14 (v6.map e_Tapi_Span) false))], []⟩ (ghost_freeze (m := 5) (sz := 14) (es := (List.map e_Tapi_Span v6)) a w (SatL.wk ⟨[(2, (.vs 5))], [(5, (.vec 14 (List.map e_Tapi_Span v6)))]⟩ h ⟨rfl, trivial⟩ ⟨rfl, trivial⟩)) ⟨rfl, trivial⟩ trivial)) ?_
  have h := Option.some.inj h
  subst h
  refine (hret _ ?_).1
  exact ⟨[(.sl 14 (v6.map e_Tapi_Span) false)], ⟨rfl, trivial⟩, rfl, trivial⟩

/-! 58: sleuth/span.RefOf -/
def F58 (K : Nat) (a0 : Tapi_Span) : Option (Tapi_Ref) :=
  some (⟨a0.Trace, a0.Id⟩ : Tapi_Ref)
theorem F58_ok (K : Nat) (a0 : Tapi_Span) (r : Tapi_Ref) (h : F58 K a0 = some r) : ACall P 58 ⟨[(e_Tapi_Span a0)], [], (e_Tapi_Ref r), [], []⟩ := by
  refine acall_of Try.func58 Try.results58 rfl Try.ntmps58 rfl rfl rfl ?_
  intro E Q hP hN hro hret
  obtain ⟨P', nt', w0, F0, p0, S0, β0, ro0⟩ := E
  simp only at hP hN
  subst hP hN
  dsimp only [argT]
  unfold F58 at h
  refine AWp.seq ?_
  refine AWp.region ?_
  refine AOps.cons rfl (st_box (v := (e_Tapi_Span a0)) (cs := (e_Tapi_Span a0).cells) rfl rfl rfl rfl rfl) rfl ?_
  refine AOps.cons rfl (st_alloc (cs := [(.int .i64 0), (.int .i64 0)]) rfl z23 rfl rfl rfl) rfl ?_
  refine AOps.nil ?_
  refine At.next ?_
  refine AWp.seq ?_
  refine AWp.region ?_
  refine AOps.cons rfl (st_fieldP (m := 1) (o := 0) rfl f38_0 rfl rfl) rfl ?_
  refine AOps.cons rfl (st_loadP (cs := (e_Tapi_Span a0).cells) (v := (.int .i64 a0.Trace)) rfl o3 rfl rfl rfl) rfl ?_
  refine AOps.cons rfl (st_fieldP (m := 1) (o := 0) rfl f38_1 rfl rfl) rfl ?_
  refine AOps.cons rfl (st_loadP (cs := (e_Tapi_Span a0).cells) (v := (.int .i64 a0.Id)) rfl o3 rfl rfl rfl) rfl ?_
  refine AOps.cons rfl (stx_build (vs := [(0, (.int .i64 a0.Trace)), (1, (.int .i64 a0.Id))]) (cs := [(.int .i64 a0.Trace), (.int .i64 a0.Id)]) rfl st23 ⟨rfl, rfl, rfl, rfl, trivial⟩ rfl) rfl ?_
  refine AOps.cons rfl (st_storeP (cs := [(.int .i64 0), (.int .i64 0)]) (vs := [(.int .i64 a0.Trace), (.int .i64 a0.Id)]) (ds := [(.int .i64 a0.Trace), (.int .i64 a0.Id)]) (v := (.ag [(.int .i64 a0.Trace), (.int .i64 a0.Id)])) sz23 rfl rfl rfl rfl rfl rfl rfl rfl) rfl ?_
  refine AOps.nil ?_
  refine At.next ?_
  refine AWp.ret ?_
  have h := Option.some.inj h
  subst h
  refine (hret _ ?_).1
  exact ⟨[(.ag [(.int .i64 a0.Trace), (.int .i64 a0.Id)])], ⟨⟨2, _, rfl, rfl, .inr ⟨_, a23, rfl, rfl⟩⟩, trivial⟩, rfl, trivial⟩

/-! 74: sleuth/span.Winners$1 -/
def F74 (K : Nat) (a0 : Int) (a1 : (List Tapi_Span)) : Option (Bool) :=
  if ((IntKind.i64.wrap (a0 + 1)) == (a1.length : Int)) = true then
    some true
  else
    if (0 : Int) ≤ (IntKind.i64.wrap (a0 + 1)) ∧ (IntKind.i64.wrap (a0 + 1)) < a1.length then
      (F58 K (a1.getD (IntKind.i64.wrap (a0 + 1)).toNat z_Tapi_Span)).bind fun v3 =>
        if (0 : Int) ≤ a0 ∧ a0 < a1.length then
          (F58 K (a1.getD a0.toNat z_Tapi_Span)).bind fun v6 =>
            some (!((v3.Trace == v6.Trace) && ((v3.Id == v6.Id) && true)))
        else none
    else none
theorem F74_ok (K : Nat) (a0 : Int) (a1 : (List Tapi_Span)) (r : Bool) (h : F74 K a0 a1 = some r) : ACall P 74 ⟨[(.int .i64 a0), (.ip [(.sl 14 (a1.map e_Tapi_Span) false)])], [], (.bool r), [], []⟩ := by
  refine acall_of Try.func74 Try.results74 rfl Try.ntmps74 rfl rfl rfl ?_
  intro E Q hP hN hro hret
  obtain ⟨P', nt', w0, F0, p0, S0, β0, ro0⟩ := E
  simp only at hP hN
  subst hP hN
  dsimp only [argT]
  unfold F74 at h
  refine AWp.seq ?_
  refine AWp.region ?_
  refine AOps.cons rfl (st_assign (v := (.bool false)) rfl rfl) rfl ?_
  refine AOps.nil ?_
  refine At.next ?_
  refine AWp.seq ?_
  refine AWp.regionD mixed ?_
  refine AOpsD.cons 0 rfl (st_move (v := (.int .i64 a0)) rfl rfl) ?_
  refine AOpsD.cons 1 rfl (st_arith (k := .i64) (a := a0) (b := 1) (c := (IntKind.i64.wrap (a0 + 1))) rfl rfl rfl rfl) ?_
  refine AOpsD.cons 2 rfl (st_loadI (cs := [(.sl 14 (a1.map e_Tapi_Span) false)]) (v := (.sl 14 (a1.map e_Tapi_Span) false)) rfl o33 rfl rfl) ?_
  refine AOpsD.cons 3 rfl (stx_len (l := a1) (enc := e_Tapi_Span) rfl s33 rfl) ?_
  refine AOpsD.cons 4 rfl (st_cmp (k := .i64) (a := (IntKind.i64.wrap (a0 + 1))) (b := (a1.length : Int)) (c := ((IntKind.i64.wrap (a0 + 1)) == (a1.length : Int))) rfl rfl rfl rfl) ?_
  refine AOpsD.cons 5 rfl (st_move (v := (.bool ((IntKind.i64.wrap (a0 + 1)) == (a1.length : Int)))) rfl rfl) ?_
  have hif := of_if h
  refine AOpsD.split (fun hc => ?_) (fun hc => ?_)
  · have h := hif.1 hc
    refine AOpsD.consF 6 rfl rfl rfl rfl rfl rfl rfl ?_
    refine AOpsD.consF 7 rfl rfl rfl rfl rfl rfl rfl ?_
    refine AOpsD.consF 8 rfl rfl rfl rfl rfl rfl rfl ?_
    refine AOpsD.consF 9 rfl rfl rfl rfl rfl rfl rfl ?_
    refine AOpsD.consF 10 rfl rfl rfl rfl rfl rfl rfl ?_
    refine AOpsD.consF 11 rfl rfl rfl rfl rfl rfl rfl ?_
    refine AOpsD.consF 12 rfl rfl rfl rfl rfl rfl rfl ?_
    refine AOpsD.consF 13 rfl rfl rfl rfl rfl rfl rfl ?_
    refine AOpsD.consF 14 rfl rfl rfl rfl rfl rfl rfl ?_
    refine AOpsD.consF 15 rfl rfl rfl rfl rfl rfl rfl ?_
    refine AOpsD.consF 16 rfl rfl rfl rfl rfl rfl rfl ?_
    refine AOpsD.consF 17 rfl rfl rfl rfl rfl rfl rfl ?_
    refine AOpsD.cons 18 rfl (st_pickT (v := (.bool true)) rfl rfl rfl) ?_
    refine AOpsD.cons 19 rfl (st_assign (v := (.bool true)) rfl rfl) ?_
    refine AOpsD.nil (by kernel_rfl) rfl ?_
    refine At.next ?_
    refine AWp.ret ?_
    have h := Option.some.inj h
    subst h
    refine (hret _ ?_).1
    exact ⟨[(.bool true)], ⟨rfl, trivial⟩, rfl, trivial⟩
  · have h := hif.2 hc
    refine AOpsD.consT 6 rfl rfl rfl rfl (st_loadI (cs := [(.sl 14 (a1.map e_Tapi_Span) false)]) (v := (.sl 14 (a1.map e_Tapi_Span) false)) rfl o33 rfl rfl) ?_
    refine AOpsD.consT 7 rfl rfl rfl rfl (st_move (v := (.int .i64 a0)) rfl rfl) ?_
    refine AOpsD.consT 8 rfl rfl rfl rfl (st_arith (k := .i64) (a := a0) (b := 1) (c := (IntKind.i64.wrap (a0 + 1))) rfl rfl rfl rfl) ?_
    have ⟨hg1, h⟩ := of_guard h
    refine AOpsD.consT 9 rfl rfl rfl rfl (st_index (k := .i64) (l := a1) (enc := e_Tapi_Span) (z := z_Tapi_Span) (n := (IntKind.i64.wrap (a0 + 1))) (cs := (e_Tapi_Span (a1.getD (IntKind.i64.wrap (a0 + 1)).toNat z_Tapi_Span)).cells) (full := false) rfl s33 rfl rfl hg1 rfl) ?_
    refine AOpsD.consT 10 rfl rfl rfl rfl (st_loadIA (cs := (e_Tapi_Span (a1.getD (IntKind.i64.wrap (a0 + 1)).toNat z_Tapi_Span)).cells) (vs := (e_Tapi_Span (a1.getD (IntKind.i64.wrap (a0 + 1)).toNat z_Tapi_Span)).cells) rfl a38 rfl rfl rfl) ?_
    have ⟨v3, hv3, h⟩ := of_bind h
    refine AOpsD.consT 11 rfl rfl rfl rfl (st_call0 (ar := [(e_Tapi_Span (a1.getD (IntKind.i64.wrap (a0 + 1)).toNat z_Tapi_Span))]) (caps := []) Try.call58 (F58_ok K (a1.getD (IntKind.i64.wrap (a0 + 1)).toNat z_Tapi_Span) v3 hv3) rfl rfl ⟨rfl, trivial⟩ rfl) ?_
    refine AOpsD.consT 12 rfl rfl rfl rfl (st_loadI (cs := [(.sl 14 (a1.map e_Tapi_Span) false)]) (v := (.sl 14 (a1.map e_Tapi_Span) false)) rfl o33 rfl rfl) ?_
    refine AOpsD.consT 13 rfl rfl rfl rfl (st_move (v := (.int .i64 a0)) rfl rfl) ?_
    have ⟨hg4, h⟩ := of_guard h
    refine AOpsD.consT 14 rfl rfl rfl rfl (st_index (k := .i64) (l := a1) (enc := e_Tapi_Span) (z := z_Tapi_Span) (n := a0) (cs := (e_Tapi_Span (a1.getD a0.toNat z_Tapi_Span)).cells) (full := false) rfl s33 rfl rfl hg4 rfl) ?_
    refine AOpsD.consT 15 rfl rfl rfl rfl (st_loadIA (cs := (e_Tapi_Span (a1.getD a0.toNat z_Tapi_Span)).cells) (vs := (e_Tapi_Span (a1.getD a0.toNat z_Tapi_Span)).cells) rfl a38 rfl rfl rfl) ?_
    have ⟨v6, hv6, h⟩ := of_bind h
    refine AOpsD.consT 16 rfl rfl rfl rfl (st_call0 (ar := [(e_Tapi_Span (a1.getD a0.toNat z_Tapi_Span))]) (caps := []) Try.call58 (F58_ok K (a1.getD a0.toNat z_Tapi_Span) v6 hv6) rfl rfl ⟨rfl, trivial⟩ rfl) ?_
    refine AOpsD.consT 17 rfl rfl rfl rfl (st_cmpA (xs := (e_Tapi_Ref v3).cells) (ys := (e_Tapi_Ref v6).cells) (b := ((v3.Trace == v6.Trace) && ((v3.Id == v6.Id) && true))) (c := (!((v3.Trace == v6.Trace) && ((v3.Id == v6.Id) && true)))) rfl eq23 rfl rfl rfl rfl) ?_
    refine AOpsD.cons 18 rfl (st_pickF (v := (.bool (!((v3.Trace == v6.Trace) && ((v3.Id == v6.Id) && true))))) rfl rfl rfl) ?_
    refine AOpsD.cons 19 rfl (st_assign (v := (.bool (!((v3.Trace == v6.Trace) && ((v3.Id == v6.Id) && true))))) rfl rfl) ?_
    refine AOpsD.nil (by kernel_rfl) rfl ?_
    refine At.next ?_
    refine AWp.ret ?_
    have h := Option.some.inj h
    subst h
    refine (hret _ ?_).1
    exact ⟨[(.bool (!((v3.Trace == v6.Trace) && ((v3.Id == v6.Id) && true))))], ⟨rfl, trivial⟩, rfl, trivial⟩

/-! 110: slices.Clone[[]sleuth/api.Attr,sleuth/api.Attr] -/
def F110 (K : Nat) (a0 : (List Tapi_Attr)) : Option ((List Tapi_Attr)) :=
  if ([] : List Tapi_Attr).length + a0.length ≤ 1073741824 then
    some ([] ++ a0)
  else none
theorem F110_ok (K : Nat) (a0 : (List Tapi_Attr)) (r : (List Tapi_Attr)) (h : F110 K a0 = some r) : ACall P 110 ⟨[(.sl 4 (a0.map e_Tapi_Attr) false)], [], .vs 2, [(2, .vec 4 (List.map e_Tapi_Attr r))], [2]⟩ := by
  refine acall_of Try.func110 Try.results110 rfl Try.ntmps110 rfl rfl rfl ?_
  intro E Q hP hN hro hret
  obtain ⟨P', nt', w0, F0, p0, S0, β0, ro0⟩ := E
  simp only at hP hN
  subst hP hN
  dsimp only [argT]
  unfold F110 at h
  refine AWp.seq ?_
  refine AWp.region ?_
  refine AOps.cons rfl (st_assign (v := (.sl 4 [] true)) rfl rfl) rfl ?_
  refine AOps.nil ?_
  refine At.next ?_
  refine AWp.seq ?_
  refine AWp.seq ?_
  refine AWp.region ?_
  refine AOps.cons rfl (st_move (v := (.sl 4 (a0.map e_Tapi_Attr) false)) rfl rfl) rfl ?_
  refine AOps.consNil (enc := e_Tapi_Attr) (es := a0) (full := false) rfl u35 rfl (fun x1 hbx1 => ?_)
  refine AOps.nil ?_
  refine At.next ?_
  refine AWp.cond rfl (fun hc => ?_) (fun hc => ?_)
  · have hz := hbx1 hc
    have h : (some []) = some r := by simp only [hz] at h ⊢; simpa using h
    refine AWp.seq ?_
    refine AWp.region ?_
    refine AOps.cons rfl (st_assign (v := (.sl 4 [] true)) rfl rfl) rfl ?_
    refine AOps.nil ?_
    refine At.next ?_
    refine AWp.ret ?_
    refine At.thruR ?_
    refine At.ghost (st' := ⟨[(2, (.vs 2))], [(2, (.vec 4 (List.map e_Tapi_Attr ([] : List Tapi_Attr))))]⟩) (fun a w h => (SatL.wk ⟨[(2, (.vs 2))], [(2, (.vec 4 (List.map e_Tapi_Attr ([] : List Tapi_Attr))))]⟩ (ghost_own (k := 2) (m := 2) (sz := 4) rfl rfl a w (SatL.wk ⟨[(2, (.sl 4 [] true))], []⟩ h ⟨rfl, trivial⟩ trivial)) ⟨rfl, trivial⟩ ⟨rfl, trivial⟩)) ?_
    have h := Option.some.inj h
    subst h
    refine (hret _ ?_).1
    exact ⟨[(.vs 2)], ⟨rfl, trivial⟩, rfl, ⟨rfl, trivial⟩⟩
  · refine AWp.skip ?_
    refine At.next ?_
    refine AWp.seq ?_
    refine AWp.region ?_
    refine AOps.cons rfl (stx_buildSlice (vs := []) (enc := e_Tapi_Attr) (l := ([] : List Tapi_Attr)) rfl el35 rfl rfl trivial rfl els_Tapi_Attr rfl rfl rfl rfl) rfl ?_
    refine AOps.cons rfl (st_move (v := (.sl 4 (a0.map e_Tapi_Attr) false)) rfl rfl) rfl ?_
    have ⟨hg2, h⟩ := of_guard h
    refine AOps.cons rfl (st_append (m := 5) (enc := e_Tapi_Attr) (l := ([] : List Tapi_Attr)) (l' := a0) (src := (.sl 4 (a0.map e_Tapi_Attr) false)) (rd := []) rfl rfl el35 rfl u35 rfl rfl rfl ⟨rfl, rfl, rfl⟩ noReads els_Tapi_Attr hg2) rfl ?_
    refine AOps.cons rfl (st_assign (v := (.vs 5)) rfl rfl) rfl ?_
    refine AOps.nil ?_
    refine At.next ?_
    refine AWp.ret ?_
    refine At.ghost (st' := ⟨[(2, (.vs 2))], [(2, (.vec 4 (List.map e_Tapi_Attr ([] ++ a0))))]⟩) (fun a w h => (SatL.wk ⟨[(2, (.vs 2))], [(2, (.vec 4 (List.map e_Tapi_Attr ([] ++ a0))))]⟩ (ghost_sw (a := 5) (b := 2) rfl rfl a w (SatL.wk ⟨[(2, (.vs 5))], [(5, (.vec 4 (List.map e_Tapi_Attr ([] ++ a0))))]⟩ h ⟨rfl, trivial⟩ ⟨rfl, trivial⟩)) ⟨rfl, trivial⟩ ⟨rfl, trivial⟩)) ?_
    have h := Option.some.inj h
    subst h
    refine (hret _ ?_).1
    exact ⟨[(.vs 2)], ⟨rfl, trivial⟩, rfl, ⟨rfl, trivial⟩⟩

/-! 111: slices.Clone[[]sleuth/api.Ref,sleuth/api.Ref] -/
def F111 (K : Nat) (a0 : (List Tapi_Ref)) : Option ((List Tapi_Ref)) :=
  if ([] : List Tapi_Ref).length + a0.length ≤ 1073741824 then
    some ([] ++ a0)
  else none
theorem F111_ok (K : Nat) (a0 : (List Tapi_Ref)) (r : (List Tapi_Ref)) (h : F111 K a0 = some r) : ACall P 111 ⟨[(.sl 2 (a0.map e_Tapi_Ref) false)], [], .vs 2, [(2, .vec 2 (List.map e_Tapi_Ref r))], [2]⟩ := by
  refine acall_of Try.func111 Try.results111 rfl Try.ntmps111 rfl rfl rfl ?_
  intro E Q hP hN hro hret
  obtain ⟨P', nt', w0, F0, p0, S0, β0, ro0⟩ := E
  simp only at hP hN
  subst hP hN
  dsimp only [argT]
  unfold F111 at h
  refine AWp.seq ?_
  refine AWp.region ?_
  refine AOps.cons rfl (st_assign (v := (.sl 2 [] true)) rfl rfl) rfl ?_
  refine AOps.nil ?_
  refine At.next ?_
  refine AWp.seq ?_
  refine AWp.seq ?_
  refine AWp.region ?_
  refine AOps.cons rfl (st_move (v := (.sl 2 (a0.map e_Tapi_Ref) false)) rfl rfl) rfl ?_
  refine AOps.consNil (enc := e_Tapi_Ref) (es := a0) (full := false) rfl u36 rfl (fun x1 hbx1 => ?_)
  refine AOps.nil ?_
  refine At.next ?_
  refine AWp.cond rfl (fun hc => ?_) (fun hc => ?_)
  · have hz := hbx1 hc
    have h : (some []) = some r := by simp only [hz] at h ⊢; simpa using h
    refine AWp.seq ?_
    refine AWp.region ?_
    refine AOps.cons rfl (st_assign (v := (.sl 2 [] true)) rfl rfl) rfl ?_
    refine AOps.nil ?_
    refine At.next ?_
    refine AWp.ret ?_
    refine At.thruR ?_
    refine At.ghost (st' := ⟨[(2, (.vs 2))], [(2, (.vec 2 (List.map e_Tapi_Ref ([] : List Tapi_Ref))))]⟩) (fun a w h => (SatL.wk ⟨[(2, (.vs 2))], [(2, (.vec 2 (List.map e_Tapi_Ref ([] : List Tapi_Ref))))]⟩ (ghost_own (k := 2) (m := 2) (sz := 2) rfl rfl a w (SatL.wk ⟨[(2, (.sl 2 [] true))], []⟩ h ⟨rfl, trivial⟩ trivial)) ⟨rfl, trivial⟩ ⟨rfl, trivial⟩)) ?_
    have h := Option.some.inj h
    subst h
    refine (hret _ ?_).1
    exact ⟨[(.vs 2)], ⟨rfl, trivial⟩, rfl, ⟨rfl, trivial⟩⟩
  · refine AWp.skip ?_
    refine At.next ?_
    refine AWp.seq ?_
    refine AWp.region ?_
    refine AOps.cons rfl (stx_buildSlice (vs := []) (enc := e_Tapi_Ref) (l := ([] : List Tapi_Ref)) rfl el36 rfl rfl trivial rfl els_Tapi_Ref rfl rfl rfl rfl) rfl ?_
    refine AOps.cons rfl (st_move (v := (.sl 2 (a0.map e_Tapi_Ref) false)) rfl rfl) rfl ?_
    have ⟨hg2, h⟩ := of_guard h
    refine AOps.cons rfl (st_append (m := 5) (enc := e_Tapi_Ref) (l := ([] : List Tapi_Ref)) (l' := a0) (src := (.sl 2 (a0.map e_Tapi_Ref) false)) (rd := []) rfl rfl el36 rfl u36 rfl rfl rfl ⟨rfl, rfl, rfl⟩ noReads els_Tapi_Ref hg2) rfl ?_
    refine AOps.cons rfl (st_assign (v := (.vs 5)) rfl rfl) rfl ?_
    refine AOps.nil ?_
    refine At.next ?_
    refine AWp.ret ?_
    refine At.ghost (st' := ⟨[(2, (.vs 2))], [(2, (.vec 2 (List.map e_Tapi_Ref ([] ++ a0))))]⟩) (fun a w h => (SatL.wk ⟨[(2, (.vs 2))], [(2, (.vec 2 (List.map e_Tapi_Ref ([] ++ a0))))]⟩ (ghost_sw (a := 5) (b := 2) rfl rfl a w (SatL.wk ⟨[(2, (.vs 5))], [(5, (.vec 2 (List.map e_Tapi_Ref ([] ++ a0))))]⟩ h ⟨rfl, trivial⟩ ⟨rfl, trivial⟩)) ⟨rfl, trivial⟩ ⟨rfl, trivial⟩)) ?_
    have h := Option.some.inj h
    subst h
    refine (hret _ ?_).1
    exact ⟨[(.vs 2)], ⟨rfl, trivial⟩, rfl, ⟨rfl, trivial⟩⟩

/-! 88: sleuth/span.copied -/
def F88 (K : Nat) (a0 : Tapi_Span) : Option (Tapi_Span) :=
  (F110 K a0.Attrs).bind fun v2 =>
    (F111 K a0.Links).bind fun v4 =>
      some (⟨a0.Trace, a0.Id, a0.Parent, a0.Revision, a0.Clock, a0.Kind, a0.Service, a0.Version, a0.Operation, a0.Start, a0.End, a0.Error, v2, v4⟩ : Tapi_Span)
theorem F88_ok (K : Nat) (a0 : Tapi_Span) (r : Tapi_Span) (h : F88 K a0 = some r) : ACall P 88 ⟨[(e_Tapi_Span a0)], [], (e_Tapi_Span r), [], []⟩ := by
  refine acall_of Try.func88 Try.results88 rfl Try.ntmps88 rfl rfl rfl ?_
  intro E Q hP hN hro hret
  obtain ⟨P', nt', w0, F0, p0, S0, β0, ro0⟩ := E
  simp only at hP hN
  subst hP hN
  dsimp only [argT]
  unfold F88 at h
  refine AWp.seq ?_
  refine AWp.region ?_
  refine AOps.cons rfl (st_box (v := (e_Tapi_Span a0)) (cs := (e_Tapi_Span a0).cells) rfl rfl rfl rfl rfl) rfl ?_
  refine AOps.cons rfl (st_alloc (cs := [(.int .i64 0), (.int .i64 0), (.int .i64 0), (.int .i64 0), (.int .i64 0), (.int .i64 0), (.str []), (.str []), (.str []), (.int .i64 0), (.int .i64 0), (.bool false), (.sl 4 [] false), (.sl 2 [] false)]) rfl z38 rfl rfl rfl) rfl ?_
  refine AOps.nil ?_
  refine At.next ?_
  refine AWp.seq ?_
  refine AWp.regionD mixed ?_
  refine AOpsD.cons 0 rfl (st_fieldP (m := 1) (o := 0) rfl f38_12 rfl rfl) ?_
  refine AOpsD.cons 1 rfl (st_loadP (cs := (e_Tapi_Span a0).cells) (v := (.sl 4 (a0.Attrs.map e_Tapi_Attr) false)) rfl o35 rfl rfl rfl) ?_
  have ⟨v2, hv2, h⟩ := of_bind h
  refine AOpsD.cons 2 rfl (st_callO (sz := 4) (es := (List.map e_Tapi_Attr v2)) (ar := [(.sl 4 (a0.Attrs.map e_Tapi_Attr) false)]) (caps := []) Try.call110 ((F110_ok K a0.Attrs v2 hv2).sw 2 5) rfl rfl ⟨rfl, trivial⟩ rfl) ?_
  refine AOpsD.cons 3 rfl (st_fieldP (m := 1) (o := 0) rfl f38_13 rfl rfl) ?_
  refine AOpsD.cons 4 rfl (st_loadP (cs := (e_Tapi_Span a0).cells) (v := (.sl 2 (a0.Links.map e_Tapi_Ref) false)) rfl o36 rfl rfl rfl) ?_
  have ⟨v4, hv4, h⟩ := of_bind h
  refine AOpsD.cons 5 rfl (st_callO (sz := 2) (es := (List.map e_Tapi_Ref v4)) (ar := [(.sl 2 (a0.Links.map e_Tapi_Ref) false)]) (caps := []) Try.call111 ((F111_ok K a0.Links v4 hv4).sw 2 8) rfl rfl ⟨rfl, trivial⟩ rfl) ?_
  refine AOpsD.cons 6 rfl (st_fieldP (m := 1) (o := 0) rfl f38_12 rfl rfl) ?_
  refine AOpsD.cons 7 rfl (st_storeP (cs := (e_Tapi_Span a0).cells) (vs := [(.vs 5)]) (ds := [(.int .i64 a0.Trace), (.int .i64 a0.Id), (.int .i64 a0.Parent), (.int .i64 a0.Revision), (.int .i64 a0.Clock), (.int .i64 a0.Kind), (.str a0.Service), (.str a0.Version), (.str a0.Operation), (.int .i64 a0.Start), (.int .i64 a0.End), (.bool a0.Error), (.vs 5), (.sl 2 (a0.Links.map e_Tapi_Ref) false)]) (v := (.vs 5)) sz35 rfl rfl rfl rfl rfl rfl rfl rfl) ?_
  refine AOpsD.cons 8 rfl (st_fieldP (m := 1) (o := 0) rfl f38_13 rfl rfl) ?_
  refine AOpsD.cons 9 rfl (st_storeP (cs := [(.int .i64 a0.Trace), (.int .i64 a0.Id), (.int .i64 a0.Parent), (.int .i64 a0.Revision), (.int .i64 a0.Clock), (.int .i64 a0.Kind), (.str a0.Service), (.str a0.Version), (.str a0.Operation), (.int .i64 a0.Start), (.int .i64 a0.End), (.bool a0.Error), (.vs 5), (.sl 2 (a0.Links.map e_Tapi_Ref) false)]) (vs := [(.vs 8)]) (ds := [(.int .i64 a0.Trace), (.int .i64 a0.Id), (.int .i64 a0.Parent), (.int .i64 a0.Revision), (.int .i64 a0.Clock), (.int .i64 a0.Kind), (.str a0.Service), (.str a0.Version), (.str a0.Operation), (.int .i64 a0.Start), (.int .i64 a0.End), (.bool a0.Error), (.vs 5), (.vs 8)]) (v := (.vs 8)) sz36 rfl rfl rfl rfl rfl rfl rfl rfl) ?_
  refine AOpsD.nil (by kernel_rfl) rfl ?_
  refine At.next ?_
  refine AWp.seq ?_
  refine AWp.region ?_
  refine AOps.cons rfl (st_loadPA (cs := [(.int .i64 a0.Trace), (.int .i64 a0.Id), (.int .i64 a0.Parent), (.int .i64 a0.Revision), (.int .i64 a0.Clock), (.int .i64 a0.Kind), (.str a0.Service), (.str a0.Version), (.str a0.Operation), (.int .i64 a0.Start), (.int .i64 a0.End), (.bool a0.Error), (.vs 5), (.vs 8)]) (vs := [(.int .i64 a0.Trace), (.int .i64 a0.Id), (.int .i64 a0.Parent), (.int .i64 a0.Revision), (.int .i64 a0.Clock), (.int .i64 a0.Kind), (.str a0.Service), (.str a0.Version), (.str a0.Operation), (.int .i64 a0.Start), (.int .i64 a0.End), (.bool a0.Error), (.vs 5), (.vs 8)]) rfl a38 rfl rfl rfl rfl) rfl ?_
  refine AOps.cons rfl (st_storeP (cs := [(.int .i64 0), (.int .i64 0), (.int .i64 0), (.int .i64 0), (.int .i64 0), (.int .i64 0), (.str []), (.str []), (.str []), (.int .i64 0), (.int .i64 0), (.bool false), (.sl 4 [] false), (.sl 2 [] false)]) (vs := [(.int .i64 a0.Trace), (.int .i64 a0.Id), (.int .i64 a0.Parent), (.int .i64 a0.Revision), (.int .i64 a0.Clock), (.int .i64 a0.Kind), (.str a0.Service), (.str a0.Version), (.str a0.Operation), (.int .i64 a0.Start), (.int .i64 a0.End), (.bool a0.Error), (.vs 5), (.vs 8)]) (ds := [(.int .i64 a0.Trace), (.int .i64 a0.Id), (.int .i64 a0.Parent), (.int .i64 a0.Revision), (.int .i64 a0.Clock), (.int .i64 a0.Kind), (.str a0.Service), (.str a0.Version), (.str a0.Operation), (.int .i64 a0.Start), (.int .i64 a0.End), (.bool a0.Error), (.vs 5), (.vs 8)]) (v := (.ag [(.int .i64 a0.Trace), (.int .i64 a0.Id), (.int .i64 a0.Parent), (.int .i64 a0.Revision), (.int .i64 a0.Clock), (.int .i64 a0.Kind), (.str a0.Service), (.str a0.Version), (.str a0.Operation), (.int .i64 a0.Start), (.int .i64 a0.End), (.bool a0.Error), (.vs 5), (.vs 8)])) sz38 rfl rfl rfl rfl rfl rfl rfl rfl) rfl ?_
  refine AOps.nil ?_
  refine At.next ?_
  refine AWp.ret ?_
  refine At.ghost (st' := ⟨[(2, (.ptr 2 0))], [(2, (.box [(.int .i64 a0.Trace), (.int .i64 a0.Id), (.int .i64 a0.Parent), (.int .i64 a0.Revision), (.int .i64 a0.Clock), (.int .i64 a0.Kind), (.str a0.Service), (.str a0.Version), (.str a0.Operation), (.int .i64 a0.Start), (.int .i64 a0.End), (.bool a0.Error), (.sl 4 (v2.map e_Tapi_Attr) false), (.sl 2 (v4.map e_Tapi_Ref) false)]))]⟩) (fun a w h => (SatL.wk ⟨[(2, (.ptr 2 0))], [(2, (.box [(.int .i64 a0.Trace), (.int .i64 a0.Id), (.int .i64 a0.Parent), (.int .i64 a0.Revision), (.int .i64 a0.Clock), (.int .i64 a0.Kind), (.str a0.Service), (.str a0.Version), (.str a0.Operation), (.int .i64 a0.Start), (.int .i64 a0.End), (.bool a0.Error), (.sl 4 (v2.map e_Tapi_Attr) false), (.sl 2 (v4.map e_Tapi_Ref) false)]))]⟩ (ghost_freeze (m := 8) (sz := 2) (es := (List.map e_Tapi_Ref v4)) a w (SatL.wk ⟨[(2, (.ptr 2 0))], [(8, (.vec 2 (List.map e_Tapi_Ref v4))), (2, (.box [(.int .i64 a0.Trace), (.int .i64 a0.Id), (.int .i64 a0.Parent), (.int .i64 a0.Revision), (.int .i64 a0.Clock), (.int .i64 a0.Kind), (.str a0.Service), (.str a0.Version), (.str a0.Operation), (.int .i64 a0.Start), (.int .i64 a0.End), (.bool a0.Error), (.sl 4 (v2.map e_Tapi_Attr) false), (.vs 8)]))]⟩ (SatL.wk ⟨[(2, (.ptr 2 0))], [(2, (.box [(.int .i64 a0.Trace), (.int .i64 a0.Id), (.int .i64 a0.Parent), (.int .i64 a0.Revision), (.int .i64 a0.Clock), (.int .i64 a0.Kind), (.str a0.Service), (.str a0.Version), (.str a0.Operation), (.int .i64 a0.Start), (.int .i64 a0.End), (.bool a0.Error), (.sl 4 (v2.map e_Tapi_Attr) false), (.vs 8)])), (8, (.vec 2 (List.map e_Tapi_Ref v4)))]⟩ (ghost_freeze (m := 5) (sz := 4) (es := (List.map e_Tapi_Attr v2)) a w (SatL.wk ⟨[(2, (.ptr 2 0))], [(5, (.vec 4 (List.map e_Tapi_Attr v2))), (2, (.box [(.int .i64 a0.Trace), (.int .i64 a0.Id), (.int .i64 a0.Parent), (.int .i64 a0.Revision), (.int .i64 a0.Clock), (.int .i64 a0.Kind), (.str a0.Service), (.str a0.Version), (.str a0.Operation), (.int .i64 a0.Start), (.int .i64 a0.End), (.bool a0.Error), (.vs 5), (.vs 8)])), (8, (.vec 2 (List.map e_Tapi_Ref v4)))]⟩ h ⟨rfl, trivial⟩ ⟨rfl, rfl, rfl, trivial⟩)) ⟨rfl, trivial⟩ ⟨rfl, rfl, trivial⟩) ⟨rfl, trivial⟩ ⟨rfl, rfl, trivial⟩)) ⟨rfl, trivial⟩ ⟨rfl, trivial⟩)) ?_
  have h := Option.some.inj h
  subst h
  refine (hret _ ?_).1
  exact ⟨[(.ag [(.int .i64 a0.Trace), (.int .i64 a0.Id), (.int .i64 a0.Parent), (.int .i64 a0.Revision), (.int .i64 a0.Clock), (.int .i64 a0.Kind), (.str a0.Service), (.str a0.Version), (.str a0.Operation), (.int .i64 a0.Start), (.int .i64 a0.End), (.bool a0.Error), (.sl 4 (v2.map e_Tapi_Attr) false), (.sl 2 (v4.map e_Tapi_Ref) false)])], ⟨⟨2, _, rfl, rfl, .inr ⟨_, a38, rfl, rfl⟩⟩, trivial⟩, rfl, trivial⟩

/-! 73: sleuth/span.chosen -/
def F73_c5 (K : Nat) (v4 : (List Tapi_Span)) : Option ((List Tapi_Span)) :=
  some v4
def F73_j12 (K : Nat) (b7 : Int → (List Tapi_Span) → Option ((List Tapi_Span))) (v1 : Int) (v11 : (List Tapi_Span)) : Option ((List Tapi_Span)) :=
  b7 (IntKind.i64.wrap (v1 + 1)) v11
def F73_l3 (K : Nat) (a0 : (List Tapi_Span)) (a100 : (List Tapi_Span)) (c6 : (List Tapi_Span) → Option ((List Tapi_Span))) : Nat → Int → (List Tapi_Span) → Option ((List Tapi_Span))
  | 0, _, _ => none
  | k3 + 1, v1, v2 =>
    if (decide (v1 < (a0.length : Int))) = true then
      if (0 : Int) ≤ v1 ∧ v1 < a0.length then
        (F74 K v1 a100).bind fun v10 =>
          if v10 = true then
            (F88 K (a0.getD v1.toNat z_Tapi_Span)).bind fun v14 =>
              if v2.length + [v14].length ≤ 1073741824 then
                F73_j12 K (F73_l3 K a0 a100 c6 k3) v1 (v2 ++ [v14])
              else none
          else
            F73_j12 K (F73_l3 K a0 a100 c6 k3) v1 v2
      else none
    else
      c6 v2
def F73 (K : Nat) (a0 : (List Tapi_Span)) (a100 : (List Tapi_Span)) : Option ((List Tapi_Span)) :=
  F73_l3 K a0 a100 (F73_c5 K) K 0 []
theorem F73_ok (K : Nat) (a0 : (List Tapi_Span)) (a100 : (List Tapi_Span)) (r : (List Tapi_Span)) (h : F73 K a0 a100 = some r) : ACall P 73 ⟨[(.sl 14 (a0.map e_Tapi_Span) false), (.clo 74 [(.ip [(.sl 14 (a100.map e_Tapi_Span) false)])])], [], (.sl 14 (r.map e_Tapi_Span) false), [], []⟩ := by
  refine acall_of Try.func73 Try.results73 rfl Try.ntmps73 rfl rfl rfl ?_
  intro E Q hP hN hro hret
  obtain ⟨P', nt', w0, F0, p0, S0, β0, ro0⟩ := E
  simp only at hP hN
  subst hP hN
  dsimp only [argT]
  unfold F73 at h
  refine AWp.seq ?_
  refine AWp.region ?_
  refine AOps.cons rfl (st_assign (v := (.sl 14 [] false)) rfl rfl) rfl ?_
  refine AOps.nil ?_
  refine At.next ?_
  refine AWp.seq ?_
  refine AWp.region ?_
  refine AOps.cons rfl (st_assign (v := (.sl 14 [] true)) rfl rfl) rfl ?_
  refine AOps.nil ?_
  refine At.next ?_
  refine AWp.seq ?_
  refine AWp.seq ?_
  refine AWp.region ?_
  refine AOps.cons rfl (st_move (v := (.sl 14 (a0.map e_Tapi_Span) false)) rfl rfl) rfl ?_
  refine AOps.cons rfl (stx_len (l := a0) (enc := e_Tapi_Span) rfl s33 rfl) rfl ?_
  refine AOps.cons rfl (st_move (v := (.int .i64 0)) rfl rfl) rfl ?_
  refine AOps.nil ?_
  refine At.next ?_
  refine AWp.ghost (st' := ⟨[(1, (.clo 74 [(.ip [(.sl 14 (a100.map e_Tapi_Span) false)])])), (5, (.vs 5)), (8, (.sl 14 (a0.map e_Tapi_Span) false)), (9, (.int .i64 (a0.length : Int))), (10, (.int .i64 0))], [(5, (.vec 14 (List.map e_Tapi_Span ([] : List Tapi_Span))))]⟩) (fun a w h => (SatL.wk ⟨[(1, (.clo 74 [(.ip [(.sl 14 (a100.map e_Tapi_Span) false)])])), (5, (.vs 5)), (8, (.sl 14 (a0.map e_Tapi_Span) false)), (9, (.int .i64 (a0.length : Int))), (10, (.int .i64 0))], [(5, (.vec 14 (List.map e_Tapi_Span ([] : List Tapi_Span))))]⟩ (ghost_own (k := 5) (m := 5) (sz := 14) rfl rfl a w (SatL.wk ⟨[(5, (.sl 14 [] true)), (1, (.clo 74 [(.ip [(.sl 14 (a100.map e_Tapi_Span) false)])])), (8, (.sl 14 (a0.map e_Tapi_Span) false)), (9, (.int .i64 (a0.length : Int))), (10, (.int .i64 0))], []⟩ h ⟨rfl, rfl, rfl, rfl, rfl, trivial⟩ trivial)) ⟨rfl, rfl, rfl, rfl, rfl, trivial⟩ ⟨rfl, trivial⟩)) ?_
  refine AWp.weaken (st' := ⟨[(1, (.clo 74 [(.ip [(.sl 14 (a100.map e_Tapi_Span) false)])])), (5, (.vs 5)), (8, (.sl 14 (a0.map e_Tapi_Span) false)), (9, (.int .i64 (a0.length : Int))), (10, (.int .i64 0))], [(5, (.vec 14 (List.map e_Tapi_Span [])))]⟩) ⟨rfl, rfl, rfl, rfl, rfl, trivial⟩ ⟨rfl, trivial⟩ ?_
  refine AWp.loopBlock (V := Int × (List Tapi_Span)) (X := (List Tapi_Span)) (lp := fun k v => F73_l3 K a0 a100 (F73_c5 K) k v.1 v.2 = some r) (sh := fun v => ⟨[(1, (.clo 74 [(.ip [(.sl 14 (a100.map e_Tapi_Span) false)])])), (5, (.vs 5)), (8, (.sl 14 (a0.map e_Tapi_Span) false)), (9, (.int .i64 (a0.length : Int))), (10, (.int .i64 v.1))], [(5, (.vec 14 (List.map e_Tapi_Span v.2)))]⟩) (x := fun v => F73_c5 K v = some r) (shx := fun v => ⟨[(5, (.vs 5))], [(5, (.vec 14 (List.map e_Tapi_Span v)))]⟩) (k := K) (v := (0, [])) h ?_ ?_
  · intro v h
    revert h
    revert v
    intro v4 h
    try dsimp only at h ⊢
    unfold F73_c5 at h
    refine At.next ?_
    refine AWp.seq ?_
    refine AWp.region ?_
    refine AOps.cons rfl (st_move (v := (.vs 5)) rfl rfl) rfl ?_
    refine AOps.cons rfl (st_assign (v := (.vs 5)) rfl rfl) rfl ?_
    refine AOps.nil ?_
    refine At.next ?_
    refine AWp.ret ?_
    refine At.ghost (st' := ⟨[(4, (.sl 14 (v4.map e_Tapi_Span) false))], []⟩) (fun a w h => (SatL.wk ⟨[(4, (.sl 14 (v4.map e_Tapi_Span) false))], []⟩ (ghost_freeze (m := 5) (sz := 14) (es := (List.map e_Tapi_Span v4)) a w (SatL.wk ⟨[(4, (.vs 5))], [(5, (.vec 14 (List.map e_Tapi_Span v4)))]⟩ h ⟨rfl, trivial⟩ ⟨rfl, trivial⟩)) ⟨rfl, trivial⟩ trivial)) ?_
    have h := Option.some.inj h
    subst h
    refine (hret _ ?_).1
    exact ⟨[(.sl 14 (v4.map e_Tapi_Span) false)], ⟨rfl, trivial⟩, rfl, trivial⟩
  · intro N k3 v h IH3 J3
    obtain ⟨v1, v2⟩ := v
    try dsimp only at h IH3 J3 ⊢
    cases k3 with
    | zero => cases h
    | succ k3 =>
      rw [F73_l3] at h
      refine AWp.seq ?_
      refine AWp.region ?_
      refine AOps.cons rfl (st_cmp (k := .i64) (a := v1) (b := (a0.length : Int)) (c := (decide (v1 < (a0.length : Int)))) rfl rfl rfl rfl) rfl ?_
      refine AOps.nil ?_
      refine At.next ?_
      refine AWp.seq ?_
      have hif := of_if h
      refine AWp.cond rfl (fun hc => ?_) (fun hc => ?_)
      · have h := hif.1 hc
        refine AWp.skip ?_
        refine At.next ?_
        refine AWp.seq ?_
        refine AWp.block ?_
        refine AWp.seq ?_
        refine AWp.region ?_
        refine AOps.cons rfl (st_move (v := (.int .i64 v1)) rfl rfl) rfl ?_
        have ⟨hg8, h⟩ := of_guard h
        refine AOps.cons rfl (st_index (k := .i64) (l := a0) (enc := e_Tapi_Span) (z := z_Tapi_Span) (n := v1) (cs := (e_Tapi_Span (a0.getD v1.toNat z_Tapi_Span)).cells) (full := false) rfl s33 rfl rfl hg8 rfl) rfl ?_
        refine AOps.cons rfl (st_loadIA (cs := (e_Tapi_Span (a0.getD v1.toNat z_Tapi_Span)).cells) (vs := (e_Tapi_Span (a0.getD v1.toNat z_Tapi_Span)).cells) rfl a38 rfl rfl rfl) rfl ?_
        refine AOps.cons rfl (st_alloc (cs := [(.int .i64 0), (.int .i64 0), (.int .i64 0), (.int .i64 0), (.int .i64 0), (.int .i64 0), (.str []), (.str []), (.str []), (.int .i64 0), (.int .i64 0), (.bool false), (.sl 4 [] false), (.sl 2 [] false)]) rfl z38 rfl rfl rfl) rfl ?_
        refine AOps.cons rfl (st_assign (v := (.int .i64 v1)) rfl rfl) rfl ?_
        refine AOps.cons rfl (st_storeP (cs := [(.int .i64 0), (.int .i64 0), (.int .i64 0), (.int .i64 0), (.int .i64 0), (.int .i64 0), (.str []), (.str []), (.str []), (.int .i64 0), (.int .i64 0), (.bool false), (.sl 4 [] false), (.sl 2 [] false)]) (vs := (e_Tapi_Span (a0.getD v1.toNat z_Tapi_Span)).cells) (ds := (e_Tapi_Span (a0.getD v1.toNat z_Tapi_Span)).cells) (v := (e_Tapi_Span (a0.getD v1.toNat z_Tapi_Span))) sz38 rfl rfl rfl rfl rfl rfl rfl rfl) rfl ?_
        refine AOps.nil ?_
        refine At.next ?_
        refine AWp.seq ?_
        refine AWp.region ?_
        refine AOps.cons rfl (st_move (v := (.clo 74 [(.ip [(.sl 14 (a100.map e_Tapi_Span) false)])])) rfl rfl) rfl ?_
        refine AOps.cons rfl (st_move (v := (.int .i64 v1)) rfl rfl) rfl ?_
        have ⟨v10, hv10, h⟩ := of_bind h
        refine AOps.cons rfl (st_call0 (ar := [(.int .i64 v1)]) (caps := [(.ip [(.sl 14 (a100.map e_Tapi_Span) false)])]) Try.call74 (F74_ok K v1 a100 v10 hv10) rfl rfl ⟨rfl, trivial⟩ rfl) rfl ?_
        refine AOps.nil ?_
        refine At.next ?_
        refine AWp.join (V := (List Tapi_Span)) (lp := fun v => F73_j12 K (F73_l3 K a0 a100 (F73_c5 K) k3) v1 v = some r) (sh := fun v => ⟨[(1, (.clo 74 [(.ip [(.sl 14 (a100.map e_Tapi_Span) false)])])), (5, (.vs 5)), (8, (.sl 14 (a0.map e_Tapi_Span) false)), (9, (.int .i64 (a0.length : Int))), (10, (.int .i64 v1))], [(5, (.vec 14 (List.map e_Tapi_Span v)))]⟩) ?_ ?_
        · intro v h
          revert h
          revert v
          intro v11 h
          try dsimp only at h ⊢
          unfold F73_j12 at h
          refine At.end ?_
          refine At.next ?_
          refine AWp.region ?_
          refine AOps.cons rfl (st_arith (k := .i64) (a := v1) (b := 1) (c := (IntKind.i64.wrap (v1 + 1))) rfl rfl rfl rfl) rfl ?_
          refine AOps.cons rfl (st_move (v := (.int .i64 (IntKind.i64.wrap (v1 + 1)))) rfl rfl) rfl ?_
          refine AOps.nil ?_
          exact At.weaken (st' := ⟨[(1, (.clo 74 [(.ip [(.sl 14 (a100.map e_Tapi_Span) false)])])), (5, (.vs 5)), (8, (.sl 14 (a0.map e_Tapi_Span) false)), (9, (.int .i64 (a0.length : Int))), (10, (.int .i64 (IntKind.i64.wrap (v1 + 1))))], [(5, (.vec 14 (List.map e_Tapi_Span v11)))]⟩) ⟨rfl, rfl, rfl, rfl, rfl, trivial⟩ ⟨rfl, trivial⟩ (IH3 _ ((IntKind.i64.wrap (v1 + 1)), v11) (Nat.lt_succ_self _) h)
        · intro J12
          have hif := of_if h
          refine AWp.cond rfl (fun hc => ?_) (fun hc => ?_)
          · have h := hif.1 hc
            refine AWp.region ?_
            refine AOps.cons rfl (st_move (v := (.vs 5)) rfl rfl) rfl ?_
            refine AOps.cons rfl (st_loadPA (cs := (e_Tapi_Span (a0.getD v1.toNat z_Tapi_Span)).cells) (vs := (e_Tapi_Span (a0.getD v1.toNat z_Tapi_Span)).cells) rfl a38 rfl rfl rfl rfl) rfl ?_
            have ⟨v14, hv14, h⟩ := of_bind h
            refine AOps.cons rfl (st_call0 (ar := [(e_Tapi_Span (a0.getD v1.toNat z_Tapi_Span))]) (caps := []) Try.call88 (F88_ok K (a0.getD v1.toNat z_Tapi_Span) v14 hv14) rfl rfl ⟨rfl, trivial⟩ rfl) rfl ?_
            refine AOps.cons rfl (stx_buildSlice (vs := [(e_Tapi_Span v14)]) (enc := e_Tapi_Span) (l := [v14]) rfl el33 rfl rfl ⟨rfl, trivial⟩ rfl els_Tapi_Span rfl rfl rfl rfl) rfl ?_
            have ⟨hg15, h⟩ := of_guard h
            refine AOps.cons rfl (st_append (m := 5) (enc := e_Tapi_Span) (l := v2) (l' := [v14]) (src := (.vs 21)) (rd := [(21, (.vec 14 (List.map e_Tapi_Span [v14])))]) rfl rfl el33 rfl u33 rfl rfl rfl rfl (oneRead rfl) els_Tapi_Span hg15) rfl ?_
            refine AOps.cons rfl (st_assign (v := (.vs 5)) rfl rfl) rfl ?_
            refine AOps.nil ?_
            exact At.weaken (st' := ⟨[(1, (.clo 74 [(.ip [(.sl 14 (a100.map e_Tapi_Span) false)])])), (5, (.vs 5)), (8, (.sl 14 (a0.map e_Tapi_Span) false)), (9, (.int .i64 (a0.length : Int))), (10, (.int .i64 v1))], [(5, (.vec 14 (List.map e_Tapi_Span (v2 ++ [v14]))))]⟩) ⟨rfl, rfl, rfl, rfl, rfl, trivial⟩ ⟨rfl, trivial⟩ (J12 (v2 ++ [v14]) h)
          · have h := hif.2 hc
            refine AWp.skip ?_
            exact At.weaken (st' := ⟨[(1, (.clo 74 [(.ip [(.sl 14 (a100.map e_Tapi_Span) false)])])), (5, (.vs 5)), (8, (.sl 14 (a0.map e_Tapi_Span) false)), (9, (.int .i64 (a0.length : Int))), (10, (.int .i64 v1))], [(5, (.vec 14 (List.map e_Tapi_Span v2)))]⟩) ⟨rfl, rfl, rfl, rfl, rfl, trivial⟩ ⟨rfl, trivial⟩ (J12 v2 h)
      · have h := hif.2 hc
        refine AWp.exit ?_
        refine At.thru ?_
        exact At.weaken (st' := ⟨[(5, (.vs 5))], [(5, (.vec 14 (List.map e_Tapi_Span v2)))]⟩) ⟨rfl, trivial⟩ ⟨rfl, trivial⟩ (J3 v2 h)

/-! 44: sleuth/span.Winners -/
def F44 (K : Nat) (a0 : (List Tapi_Span)) : Option ((List Tapi_Span)) :=
  (F72 K a0).bind fun v2 =>
    (F73 K v2 v2).bind fun v4 =>
      some v4
theorem F44_ok (K : Nat) (a0 : (List Tapi_Span)) (r : (List Tapi_Span)) (h : F44 K a0 = some r) : ACall P 44 ⟨[(.sl 14 (a0.map e_Tapi_Span) false)], [], (.sl 14 (r.map e_Tapi_Span) false), [], []⟩ := by
  refine acall_of Try.func44 Try.results44 rfl Try.ntmps44 rfl rfl rfl ?_
  intro E Q hP hN hro hret
  obtain ⟨P', nt', w0, F0, p0, S0, β0, ro0⟩ := E
  simp only at hP hN
  subst hP hN
  dsimp only [argT]
  unfold F44 at h
  refine AWp.seq ?_
  refine AWp.region ?_
  refine AOps.cons rfl (st_assign (v := (.sl 14 [] false)) rfl rfl) rfl ?_
  refine AOps.nil ?_
  refine At.next ?_
  refine AWp.seq ?_
  refine AWp.region ?_
  refine AOps.cons rfl (st_move (v := (.sl 14 (a0.map e_Tapi_Span) false)) rfl rfl) rfl ?_
  have ⟨v2, hv2, h⟩ := of_bind h
  refine AOps.cons rfl (st_call0 (ar := [(.sl 14 (a0.map e_Tapi_Span) false)]) (caps := []) Try.call72 (F72_ok K a0 v2 hv2) rfl rfl ⟨rfl, trivial⟩ rfl) rfl ?_
  refine AOps.cons rfl (st_alloc (cs := [(.sl 14 [] true)]) rfl z33f rfl rfl rfl) rfl ?_
  refine AOps.cons rfl (st_storeP (cs := [(.sl 14 [] true)]) (vs := [(.sl 14 (v2.map e_Tapi_Span) false)]) (ds := [(.sl 14 (v2.map e_Tapi_Span) false)]) (v := (.sl 14 (v2.map e_Tapi_Span) false)) sz33 rfl rfl rfl rfl rfl rfl rfl rfl) rfl ?_
  refine AOps.nil ?_
  refine At.next ?_
  refine AWp.seq ?_
  refine AWp.region ?_
  refine AOps.cons rfl (st_loadP (cs := [(.sl 14 (v2.map e_Tapi_Span) false)]) (v := (.sl 14 (v2.map e_Tapi_Span) false)) rfl o33 rfl rfl rfl) rfl ?_
  refine AOps.cons rfl (stx_makeFunc (vs := [(.ptr 3 0)]) rfl ⟨rfl, trivial⟩) rfl ?_
  refine AOps.ghost (st' := ⟨[(0, (.sl 14 (a0.map e_Tapi_Span) false)), (2, (.sl 14 [] false)), (3, (.ip [(.sl 14 (v2.map e_Tapi_Span) false)])), (4, (.sl 14 (a0.map e_Tapi_Span) false)), (5, (.sl 14 (v2.map e_Tapi_Span) false)), (6, (.sl 14 (v2.map e_Tapi_Span) false)), (7, (.clo 74 [(.ip [(.sl 14 (v2.map e_Tapi_Span) false)])]))], []⟩) (fun a w h => (SatL.wk ⟨[(0, (.sl 14 (a0.map e_Tapi_Span) false)), (2, (.sl 14 [] false)), (3, (.ip [(.sl 14 (v2.map e_Tapi_Span) false)])), (4, (.sl 14 (a0.map e_Tapi_Span) false)), (5, (.sl 14 (v2.map e_Tapi_Span) false)), (6, (.sl 14 (v2.map e_Tapi_Span) false)), (7, (.clo 74 [(.ip [(.sl 14 (v2.map e_Tapi_Span) false)])]))], []⟩ (ghost_freezeB (m := 3) (cs := [(.sl 14 (v2.map e_Tapi_Span) false)]) rfl a w (SatL.wk ⟨[(0, (.sl 14 (a0.map e_Tapi_Span) false)), (2, (.sl 14 [] false)), (3, (.ptr 3 0)), (4, (.sl 14 (a0.map e_Tapi_Span) false)), (5, (.sl 14 (v2.map e_Tapi_Span) false)), (6, (.sl 14 (v2.map e_Tapi_Span) false)), (7, (.clo 74 [(.ptr 3 0)]))], [(3, (.box [(.sl 14 (v2.map e_Tapi_Span) false)]))]⟩ h ⟨rfl, rfl, rfl, rfl, rfl, rfl, rfl, trivial⟩ ⟨rfl, trivial⟩)) ⟨rfl, rfl, rfl, rfl, rfl, rfl, rfl, trivial⟩ trivial)) ?_
  have ⟨v4, hv4, h⟩ := of_bind h
  refine AOps.cons rfl (st_call0 (ar := [(.sl 14 (v2.map e_Tapi_Span) false), (.clo 74 [(.ip [(.sl 14 (v2.map e_Tapi_Span) false)])])]) (caps := []) Try.call73 (F73_ok K v2 v2 v4 hv4) rfl rfl ⟨rfl, rfl, trivial⟩ rfl) rfl ?_
  refine AOps.cons rfl (st_assign (v := (.sl 14 (v4.map e_Tapi_Span) false)) rfl rfl) rfl ?_
  refine AOps.nil ?_
  refine At.next ?_
  refine AWp.ret ?_
  have h := Option.some.inj h
  subst h
  refine (hret _ ?_).1
  exact ⟨[(.sl 14 (v4.map e_Tapi_Span) false)], ⟨rfl, trivial⟩, rfl, trivial⟩

/-! 55: slices.Clone[[]sleuth/api.Message,sleuth/api.Message] -/
def F55 (K : Nat) (a0 : (List Tapi_Message)) : Option ((List Tapi_Message)) :=
  if ([] : List Tapi_Message).length + a0.length ≤ 1073741824 then
    some ([] ++ a0)
  else none
theorem F55_ok (K : Nat) (a0 : (List Tapi_Message)) (r : (List Tapi_Message)) (h : F55 K a0 = some r) : ACall P 55 ⟨[(.sl 10 (a0.map e_Tapi_Message) false)], [], .vs 2, [(2, .vec 10 (List.map e_Tapi_Message r))], [2]⟩ := by
  refine acall_of Try.func55 Try.results55 rfl Try.ntmps55 rfl rfl rfl ?_
  intro E Q hP hN hro hret
  obtain ⟨P', nt', w0, F0, p0, S0, β0, ro0⟩ := E
  simp only at hP hN
  subst hP hN
  dsimp only [argT]
  unfold F55 at h
  refine AWp.seq ?_
  refine AWp.region ?_
  refine AOps.cons rfl (st_assign (v := (.sl 10 [] true)) rfl rfl) rfl ?_
  refine AOps.nil ?_
  refine At.next ?_
  refine AWp.seq ?_
  refine AWp.seq ?_
  refine AWp.region ?_
  refine AOps.cons rfl (st_move (v := (.sl 10 (a0.map e_Tapi_Message) false)) rfl rfl) rfl ?_
  refine AOps.consNil (enc := e_Tapi_Message) (es := a0) (full := false) rfl u29 rfl (fun x1 hbx1 => ?_)
  refine AOps.nil ?_
  refine At.next ?_
  refine AWp.cond rfl (fun hc => ?_) (fun hc => ?_)
  · have hz := hbx1 hc
    have h : (some []) = some r := by simp only [hz] at h ⊢; simpa using h
    refine AWp.seq ?_
    refine AWp.region ?_
    refine AOps.cons rfl (st_assign (v := (.sl 10 [] true)) rfl rfl) rfl ?_
    refine AOps.nil ?_
    refine At.next ?_
    refine AWp.ret ?_
    refine At.thruR ?_
    refine At.ghost (st' := ⟨[(2, (.vs 2))], [(2, (.vec 10 (List.map e_Tapi_Message ([] : List Tapi_Message))))]⟩) (fun a w h => (SatL.wk ⟨[(2, (.vs 2))], [(2, (.vec 10 (List.map e_Tapi_Message ([] : List Tapi_Message))))]⟩ (ghost_own (k := 2) (m := 2) (sz := 10) rfl rfl a w (SatL.wk ⟨[(2, (.sl 10 [] true))], []⟩ h ⟨rfl, trivial⟩ trivial)) ⟨rfl, trivial⟩ ⟨rfl, trivial⟩)) ?_
    have h := Option.some.inj h
    subst h
    refine (hret _ ?_).1
    exact ⟨[(.vs 2)], ⟨rfl, trivial⟩, rfl, ⟨rfl, trivial⟩⟩
  · refine AWp.skip ?_
    refine At.next ?_
    refine AWp.seq ?_
    refine AWp.region ?_
    refine AOps.cons rfl (stx_buildSlice (vs := []) (enc := e_Tapi_Message) (l := ([] : List Tapi_Message)) rfl el29 rfl rfl trivial rfl els_Tapi_Message rfl rfl rfl rfl) rfl ?_
    refine AOps.cons rfl (st_move (v := (.sl 10 (a0.map e_Tapi_Message) false)) rfl rfl) rfl ?_
    have ⟨hg2, h⟩ := of_guard h
    refine AOps.cons rfl (st_append (m := 5) (enc := e_Tapi_Message) (l := ([] : List Tapi_Message)) (l' := a0) (src := (.sl 10 (a0.map e_Tapi_Message) false)) (rd := []) rfl rfl el29 rfl u29 rfl rfl rfl ⟨rfl, rfl, rfl⟩ noReads els_Tapi_Message hg2) rfl ?_
    refine AOps.cons rfl (st_assign (v := (.vs 5)) rfl rfl) rfl ?_
    refine AOps.nil ?_
    refine At.next ?_
    refine AWp.ret ?_
    refine At.ghost (st' := ⟨[(2, (.vs 2))], [(2, (.vec 10 (List.map e_Tapi_Message ([] ++ a0))))]⟩) (fun a w h => (SatL.wk ⟨[(2, (.vs 2))], [(2, (.vec 10 (List.map e_Tapi_Message ([] ++ a0))))]⟩ (ghost_sw (a := 5) (b := 2) rfl rfl a w (SatL.wk ⟨[(2, (.vs 5))], [(5, (.vec 10 (List.map e_Tapi_Message ([] ++ a0))))]⟩ h ⟨rfl, trivial⟩ ⟨rfl, trivial⟩)) ⟨rfl, trivial⟩ ⟨rfl, trivial⟩)) ?_
    have h := Option.some.inj h
    subst h
    refine (hret _ ?_).1
    exact ⟨[(.vs 2)], ⟨rfl, trivial⟩, rfl, ⟨rfl, trivial⟩⟩

/-! 57: slices.Compact[[]sleuth/api.Message,sleuth/api.Message] -/
def F57_c3 (K : Nat) (a0 : (List Tapi_Message)) : Option ((List Tapi_Message)) :=
  some a0
def F57_c18 (K : Nat) (v16 : Int) (v17 : (List Tapi_Message)) : Option ((List Tapi_Message)) :=
  if (0 : Int) ≤ v16 ∧ v16 ≤ (v17.length : Int) ∧ (v17.length : Int) ≤ (v17.length : Nat) then
    if (0 + v16.toNat) + ((v17.length : Int).toNat - v16.toNat) ≤ v17.length then
      if (0 + v16.toNat) + ((v17.length : Int).toNat - v16.toNat) ≤ v17.length then
        if (0 : Int) ≤ 0 ∧ 0 ≤ v16 ∧ v16 ≤ ((v17.take (0 + v16.toNat) ++ List.replicate ((v17.length : Int).toNat - v16.toNat) z_Tapi_Message ++ v17.drop ((0 + v16.toNat) + ((v17.length : Int).toNat - v16.toNat))).length : Nat) then
          if (0 + (0 : Int).toNat) + (v16.toNat - (0 : Int).toNat) ≤ (v17.take (0 + v16.toNat) ++ List.replicate ((v17.length : Int).toNat - v16.toNat) z_Tapi_Message ++ v17.drop ((0 + v16.toNat) + ((v17.length : Int).toNat - v16.toNat))).length then
            some (((v17.take (0 + v16.toNat) ++ List.replicate ((v17.length : Int).toNat - v16.toNat) z_Tapi_Message ++ v17.drop ((0 + v16.toNat) + ((v17.length : Int).toNat - v16.toNat))).drop (0 + (0 : Int).toNat)).take (v16.toNat - (0 : Int).toNat))
          else none
        else none
      else none
    else none
  else none
def F57_j35 (K : Nat) (b25 : Int → Int → (List Tapi_Message) → Option ((List Tapi_Message))) (v13 : Int) (v33 : Int) (v34 : (List Tapi_Message)) : Option ((List Tapi_Message)) :=
  b25 v33 (IntKind.i64.wrap (v13 + 1)) v34
def F57_l15 (K : Nat) (v1 : Int) (a0 : (List Tapi_Message)) (c19 : Int → (List Tapi_Message) → Option ((List Tapi_Message))) : Nat → Int → Int → (List Tapi_Message) → Option ((List Tapi_Message))
  | 0, _, _, _ => none
  | k15 + 1, v12, v13, v14 =>
    if (0 + v1.toNat) + ((a0.length : Int).toNat - v1.toNat) ≤ v14.length then
      if (decide (v13 < ((((a0.length : Int).toNat - v1.toNat) : Nat) : Int))) = true then
        if (0 + v1.toNat) + ((a0.length : Int).toNat - v1.toNat) ≤ v14.length then
          if (0 : Int) ≤ v13 ∧ v13 < (((a0.length : Int).toNat - v1.toNat) : Nat) then
            if ((0 + v1.toNat) + v13.toNat) < v14.length then
              if (0 + v1.toNat) + ((a0.length : Int).toNat - v1.toNat) ≤ v14.length then
                if (0 : Int) ≤ (IntKind.i64.wrap (v13 - 1)) ∧ (IntKind.i64.wrap (v13 - 1)) < (((a0.length : Int).toNat - v1.toNat) : Nat) then
                  if ((0 + v1.toNat) + (IntKind.i64.wrap (v13 - 1)).toNat) < v14.length then
                    if (!(((v14.getD ((0 + v1.toNat) + v13.toNat) z_Tapi_Message).Kind == (v14.getD ((0 + v1.toNat) + (IntKind.i64.wrap (v13 - 1)).toNat) z_Tapi_Message).Kind) && (((v14.getD ((0 + v1.toNat) + v13.toNat) z_Tapi_Message).A.Trace == (v14.getD ((0 + v1.toNat) + (IntKind.i64.wrap (v13 - 1)).toNat) z_Tapi_Message).A.Trace) && (((v14.getD ((0 + v1.toNat) + v13.toNat) z_Tapi_Message).A.Id == (v14.getD ((0 + v1.toNat) + (IntKind.i64.wrap (v13 - 1)).toNat) z_Tapi_Message).A.Id) && (((v14.getD ((0 + v1.toNat) + v13.toNat) z_Tapi_Message).B.Trace == (v14.getD ((0 + v1.toNat) + (IntKind.i64.wrap (v13 - 1)).toNat) z_Tapi_Message).B.Trace) && (((v14.getD ((0 + v1.toNat) + v13.toNat) z_Tapi_Message).B.Id == (v14.getD ((0 + v1.toNat) + (IntKind.i64.wrap (v13 - 1)).toNat) z_Tapi_Message).B.Id) && (((v14.getD ((0 + v1.toNat) + v13.toNat) z_Tapi_Message).From == (v14.getD ((0 + v1.toNat) + (IntKind.i64.wrap (v13 - 1)).toNat) z_Tapi_Message).From) && (((v14.getD ((0 + v1.toNat) + v13.toNat) z_Tapi_Message).To == (v14.getD ((0 + v1.toNat) + (IntKind.i64.wrap (v13 - 1)).toNat) z_Tapi_Message).To) && (((v14.getD ((0 + v1.toNat) + v13.toNat) z_Tapi_Message).Sent == (v14.getD ((0 + v1.toNat) + (IntKind.i64.wrap (v13 - 1)).toNat) z_Tapi_Message).Sent) && (((v14.getD ((0 + v1.toNat) + v13.toNat) z_Tapi_Message).Received == (v14.getD ((0 + v1.toNat) + (IntKind.i64.wrap (v13 - 1)).toNat) z_Tapi_Message).Received) && (((v14.getD ((0 + v1.toNat) + v13.toNat) z_Tapi_Message).Least == (v14.getD ((0 + v1.toNat) + (IntKind.i64.wrap (v13 - 1)).toNat) z_Tapi_Message).Least) && true))))))))))) = true then
                      if (0 + v1.toNat) + ((a0.length : Int).toNat - v1.toNat) ≤ v14.length then
                        if (0 : Int) ≤ v13 ∧ v13 < (((a0.length : Int).toNat - v1.toNat) : Nat) then
                          if ((0 + v1.toNat) + v13.toNat) < v14.length then
                            if (0 : Int) ≤ v12 ∧ v12 < (v14.length : Nat) then
                              if v12.toNat < v14.length then
                                F57_j35 K (F57_l15 K v1 a0 c19 k15) v13 (IntKind.i64.wrap (v12 + 1)) (v14.set v12.toNat (v14.getD ((0 + v1.toNat) + v13.toNat) z_Tapi_Message))
                              else none
                            else none
                          else none
                        else none
                      else none
                    else
                      F57_j35 K (F57_l15 K v1 a0 c19 k15) v13 v12 v14
                  else none
                else none
              else none
            else none
          else none
        else none
      else
        c19 v12 v14
    else none
def F57_l2 (K : Nat) (a0 : (List Tapi_Message)) (c4 : Option ((List Tapi_Message))) : Nat → Int → Option ((List Tapi_Message))
  | 0, _ => none
  | k2 + 1, v1 =>
    if (decide (v1 < (a0.length : Int))) = true then
      if (0 : Int) ≤ v1 ∧ v1 < (a0.length : Nat) then
        if v1.toNat < a0.length then
          if (0 : Int) ≤ (IntKind.i64.wrap (v1 - 1)) ∧ (IntKind.i64.wrap (v1 - 1)) < (a0.length : Nat) then
            if (IntKind.i64.wrap (v1 - 1)).toNat < a0.length then
              if (((a0.getD v1.toNat z_Tapi_Message).Kind == (a0.getD (IntKind.i64.wrap (v1 - 1)).toNat z_Tapi_Message).Kind) && (((a0.getD v1.toNat z_Tapi_Message).A.Trace == (a0.getD (IntKind.i64.wrap (v1 - 1)).toNat z_Tapi_Message).A.Trace) && (((a0.getD v1.toNat z_Tapi_Message).A.Id == (a0.getD (IntKind.i64.wrap (v1 - 1)).toNat z_Tapi_Message).A.Id) && (((a0.getD v1.toNat z_Tapi_Message).B.Trace == (a0.getD (IntKind.i64.wrap (v1 - 1)).toNat z_Tapi_Message).B.Trace) && (((a0.getD v1.toNat z_Tapi_Message).B.Id == (a0.getD (IntKind.i64.wrap (v1 - 1)).toNat z_Tapi_Message).B.Id) && (((a0.getD v1.toNat z_Tapi_Message).From == (a0.getD (IntKind.i64.wrap (v1 - 1)).toNat z_Tapi_Message).From) && (((a0.getD v1.toNat z_Tapi_Message).To == (a0.getD (IntKind.i64.wrap (v1 - 1)).toNat z_Tapi_Message).To) && (((a0.getD v1.toNat z_Tapi_Message).Sent == (a0.getD (IntKind.i64.wrap (v1 - 1)).toNat z_Tapi_Message).Sent) && (((a0.getD v1.toNat z_Tapi_Message).Received == (a0.getD (IntKind.i64.wrap (v1 - 1)).toNat z_Tapi_Message).Received) && (((a0.getD v1.toNat z_Tapi_Message).Least == (a0.getD (IntKind.i64.wrap (v1 - 1)).toNat z_Tapi_Message).Least) && true)))))))))) = true then
                if (0 : Int) ≤ v1 ∧ v1 ≤ (a0.length : Int) ∧ (a0.length : Int) ≤ (a0.length : Nat) then
                  if (0 + v1.toNat) + ((a0.length : Int).toNat - v1.toNat) ≤ a0.length then
                    F57_l15 K v1 a0 (F57_c18 K) K v1 1 a0
                  else none
                else none
              else
                (F57_l2 K a0 c4 k2) (IntKind.i64.wrap (v1 + 1))
            else none
          else none
        else none
      else none
    else
      c4
def F57 (K : Nat) (a0 : (List Tapi_Message)) : Option ((List Tapi_Message)) :=
  if (decide ((a0.length : Int) < 2)) = true then
    some a0
  else
    F57_l2 K a0 (F57_c3 K a0) K 1
theorem F57_ok (K : Nat) (a0 : (List Tapi_Message)) (r : (List Tapi_Message)) (h : F57 K a0 = some r) : ACall P 57 ⟨[(.vs 0)], [(0, .vec 10 (List.map e_Tapi_Message a0))], .vs 0, [(0, .vec 10 (List.map e_Tapi_Message r))], [0]⟩ := by
  refine acall_of Try.func57 Try.results57 rfl Try.ntmps57 rfl rfl rfl ?_
  intro E Q hP hN hro hret
  obtain ⟨P', nt', w0, F0, p0, S0, β0, ro0⟩ := E
  simp only at hP hN
  subst hP hN
  dsimp only [argT]
  unfold F57 at h
  refine AWp.seq ?_
  refine AWp.region ?_
  refine AOps.cons rfl (st_assign (v := (.sl 10 [] false)) rfl rfl) rfl ?_
  refine AOps.nil ?_
  refine At.next ?_
  refine AWp.seq ?_
  refine AWp.seq ?_
  refine AWp.region ?_
  refine AOps.cons rfl (st_move (v := (.vs 0)) rfl rfl) rfl ?_
  refine AOps.cons rfl (stx_lenV (l := a0) (enc := e_Tapi_Message) rfl u29 rfl rfl) rfl ?_
  refine AOps.cons rfl (st_cmp (k := .i64) (a := (a0.length : Int)) (b := 2) (c := (decide ((a0.length : Int) < 2))) rfl rfl rfl rfl) rfl ?_
  refine AOps.nil ?_
  refine At.next ?_
  have hif := of_if h
  refine AWp.cond rfl (fun hc => ?_) (fun hc => ?_)
  · have h := hif.1 hc
    refine AWp.seq ?_
    refine AWp.region ?_
    refine AOps.cons rfl (st_move (v := (.vs 0)) rfl rfl) rfl ?_
    refine AOps.cons rfl (st_assign (v := (.vs 0)) rfl rfl) rfl ?_
    refine AOps.nil ?_
    refine At.next ?_
    refine AWp.ret ?_
    refine At.thruR ?_
    have h := Option.some.inj h
    subst h
    refine (hret _ ?_).1
    exact ⟨[(.vs 0)], ⟨rfl, trivial⟩, rfl, ⟨rfl, trivial⟩⟩
  · have h := hif.2 hc
    refine AWp.skip ?_
    refine At.next ?_
    refine AWp.seq ?_
    refine AWp.seq ?_
    refine AWp.region ?_
    refine AOps.cons rfl (st_assign (v := (.int .i64 1)) rfl rfl) rfl ?_
    refine AOps.nil ?_
    refine At.next ?_
    refine AWp.weaken (st' := ⟨[(0, (.vs 0)), (3, (.int .i64 1))], [(0, (.vec 10 (List.map e_Tapi_Message a0)))]⟩) ⟨rfl, rfl, trivial⟩ ⟨rfl, trivial⟩ ?_
    refine AWp.loopBlock (V := Int) (X := Unit) (lp := fun k v => F57_l2 K a0 (F57_c3 K a0) k v = some r) (sh := fun v => ⟨[(0, (.vs 0)), (3, (.int .i64 v))], [(0, (.vec 10 (List.map e_Tapi_Message a0)))]⟩) (x := fun v => F57_c3 K a0 = some r) (shx := fun v => ⟨[(0, (.vs 0))], [(0, (.vec 10 (List.map e_Tapi_Message a0)))]⟩) (k := K) (v := 1) h ?_ ?_
    · intro v h
      try dsimp only at h ⊢
      unfold F57_c3 at h
      refine At.next ?_
      refine AWp.seq ?_
      refine AWp.region ?_
      refine AOps.cons rfl (st_move (v := (.vs 0)) rfl rfl) rfl ?_
      refine AOps.cons rfl (st_assign (v := (.vs 0)) rfl rfl) rfl ?_
      refine AOps.nil ?_
      refine At.next ?_
      refine AWp.ret ?_
      have h := Option.some.inj h
      subst h
      refine (hret _ ?_).1
      exact ⟨[(.vs 0)], ⟨rfl, trivial⟩, rfl, ⟨rfl, trivial⟩⟩
    · intro N k2 v h IH2 J2
      revert h
      revert v
      intro v1 h
      try dsimp only at h IH2 J2 ⊢
      cases k2 with
      | zero => cases h
      | succ k2 =>
        rw [F57_l2] at h
        refine AWp.seq ?_
        refine AWp.seq ?_
        refine AWp.region ?_
        refine AOps.cons rfl (st_move (v := (.int .i64 v1)) rfl rfl) rfl ?_
        refine AOps.cons rfl (st_move (v := (.vs 0)) rfl rfl) rfl ?_
        refine AOps.cons rfl (stx_lenV (l := a0) (enc := e_Tapi_Message) rfl u29 rfl rfl) rfl ?_
        refine AOps.cons rfl (st_cmp (k := .i64) (a := v1) (b := (a0.length : Int)) (c := (decide (v1 < (a0.length : Int)))) rfl rfl rfl rfl) rfl ?_
        refine AOps.nil ?_
        refine At.next ?_
        have hif := of_if h
        refine AWp.cond rfl (fun hc => ?_) (fun hc => ?_)
        · have h := hif.1 hc
          refine AWp.skip ?_
          refine At.next ?_
          refine AWp.seq ?_
          refine AWp.block ?_
          refine AWp.seq ?_
          refine AWp.regionD mixed ?_
          refine AOpsD.cons 0 rfl (st_move (v := (.vs 0)) rfl rfl) ?_
          refine AOpsD.cons 1 rfl (st_move (v := (.int .i64 v1)) rfl rfl) ?_
          have ⟨hg6, h⟩ := of_guard h
          refine AOpsD.cons 2 rfl (st_indexV (k := .i64) (v := (.vs 0)) (n := 0) (off := 0) (len := a0.length) (es := (List.map e_Tapi_Message a0)) (j := v1) (m := v1.toNat) rfl s29 rfl rfl (vecR_map _ _ _) rfl hg6 (Nat.zero_add _)) ?_
          have ⟨hg7, h⟩ := of_guard h
          refine AOpsD.cons 3 rfl (st_loadVA (l := a0) (enc := e_Tapi_Message) (z := z_Tapi_Message) (vs := (e_Tapi_Message (a0.getD v1.toNat z_Tapi_Message)).cells) rfl a25 rfl rfl hg7 rfl rfl) ?_
          refine AOpsD.cons 4 rfl (st_move (v := (.vs 0)) rfl rfl) ?_
          refine AOpsD.cons 5 rfl (st_move (v := (.int .i64 v1)) rfl rfl) ?_
          refine AOpsD.cons 6 rfl (st_arith (k := .i64) (a := v1) (b := 1) (c := (IntKind.i64.wrap (v1 - 1))) rfl rfl rfl rfl) ?_
          have ⟨hg8, h⟩ := of_guard h
          refine AOpsD.cons 7 rfl (st_indexV (k := .i64) (v := (.vs 0)) (n := 0) (off := 0) (len := a0.length) (es := (List.map e_Tapi_Message a0)) (j := (IntKind.i64.wrap (v1 - 1))) (m := (IntKind.i64.wrap (v1 - 1)).toNat) rfl s29 rfl rfl (vecR_map _ _ _) rfl hg8 (Nat.zero_add _)) ?_
          have ⟨hg9, h⟩ := of_guard h
          refine AOpsD.cons 8 rfl (st_loadVA (l := a0) (enc := e_Tapi_Message) (z := z_Tapi_Message) (vs := (e_Tapi_Message (a0.getD (IntKind.i64.wrap (v1 - 1)).toNat z_Tapi_Message)).cells) rfl a25 rfl rfl hg9 rfl rfl) ?_
          refine AOpsD.cons 9 rfl (st_cmpA (xs := (e_Tapi_Message (a0.getD v1.toNat z_Tapi_Message)).cells) (ys := (e_Tapi_Message (a0.getD (IntKind.i64.wrap (v1 - 1)).toNat z_Tapi_Message)).cells) (b := (((a0.getD v1.toNat z_Tapi_Message).Kind == (a0.getD (IntKind.i64.wrap (v1 - 1)).toNat z_Tapi_Message).Kind) && (((a0.getD v1.toNat z_Tapi_Message).A.Trace == (a0.getD (IntKind.i64.wrap (v1 - 1)).toNat z_Tapi_Message).A.Trace) && (((a0.getD v1.toNat z_Tapi_Message).A.Id == (a0.getD (IntKind.i64.wrap (v1 - 1)).toNat z_Tapi_Message).A.Id) && (((a0.getD v1.toNat z_Tapi_Message).B.Trace == (a0.getD (IntKind.i64.wrap (v1 - 1)).toNat z_Tapi_Message).B.Trace) && (((a0.getD v1.toNat z_Tapi_Message).B.Id == (a0.getD (IntKind.i64.wrap (v1 - 1)).toNat z_Tapi_Message).B.Id) && (((a0.getD v1.toNat z_Tapi_Message).From == (a0.getD (IntKind.i64.wrap (v1 - 1)).toNat z_Tapi_Message).From) && (((a0.getD v1.toNat z_Tapi_Message).To == (a0.getD (IntKind.i64.wrap (v1 - 1)).toNat z_Tapi_Message).To) && (((a0.getD v1.toNat z_Tapi_Message).Sent == (a0.getD (IntKind.i64.wrap (v1 - 1)).toNat z_Tapi_Message).Sent) && (((a0.getD v1.toNat z_Tapi_Message).Received == (a0.getD (IntKind.i64.wrap (v1 - 1)).toNat z_Tapi_Message).Received) && (((a0.getD v1.toNat z_Tapi_Message).Least == (a0.getD (IntKind.i64.wrap (v1 - 1)).toNat z_Tapi_Message).Least) && true))))))))))) (c := (((a0.getD v1.toNat z_Tapi_Message).Kind == (a0.getD (IntKind.i64.wrap (v1 - 1)).toNat z_Tapi_Message).Kind) && (((a0.getD v1.toNat z_Tapi_Message).A.Trace == (a0.getD (IntKind.i64.wrap (v1 - 1)).toNat z_Tapi_Message).A.Trace) && (((a0.getD v1.toNat z_Tapi_Message).A.Id == (a0.getD (IntKind.i64.wrap (v1 - 1)).toNat z_Tapi_Message).A.Id) && (((a0.getD v1.toNat z_Tapi_Message).B.Trace == (a0.getD (IntKind.i64.wrap (v1 - 1)).toNat z_Tapi_Message).B.Trace) && (((a0.getD v1.toNat z_Tapi_Message).B.Id == (a0.getD (IntKind.i64.wrap (v1 - 1)).toNat z_Tapi_Message).B.Id) && (((a0.getD v1.toNat z_Tapi_Message).From == (a0.getD (IntKind.i64.wrap (v1 - 1)).toNat z_Tapi_Message).From) && (((a0.getD v1.toNat z_Tapi_Message).To == (a0.getD (IntKind.i64.wrap (v1 - 1)).toNat z_Tapi_Message).To) && (((a0.getD v1.toNat z_Tapi_Message).Sent == (a0.getD (IntKind.i64.wrap (v1 - 1)).toNat z_Tapi_Message).Sent) && (((a0.getD v1.toNat z_Tapi_Message).Received == (a0.getD (IntKind.i64.wrap (v1 - 1)).toNat z_Tapi_Message).Received) && (((a0.getD v1.toNat z_Tapi_Message).Least == (a0.getD (IntKind.i64.wrap (v1 - 1)).toNat z_Tapi_Message).Least) && true))))))))))) rfl eq25 rfl rfl rfl rfl) ?_
          refine AOpsD.nil (by kernel_rfl) rfl ?_
          refine At.next ?_
          have hif := of_if h
          refine AWp.cond rfl (fun hc => ?_) (fun hc => ?_)
          · have h := hif.1 hc
            refine AWp.seq ?_
            refine AWp.region ?_
            refine AOps.cons rfl (st_move (v := (.vs 0)) rfl rfl) rfl ?_
            refine AOps.cons rfl (st_move (v := (.int .i64 v1)) rfl rfl) rfl ?_
            have ⟨hg10, h⟩ := of_guard h
            have ⟨hg11, h⟩ := of_guard h
            refine AOps.cons rfl (stx_sliceVL (v := (.vs 0)) (n := 0) (off := 0) (len := a0.length) (l := a0) (enc := e_Tapi_Message) (kl := .i64) (lo := v1) rfl s29 rfl rfl (vecR_map _ _ _) rfl hg10 rfl) rfl ?_
            refine AOps.cons rfl (st_assign (v := (.vsub 0 (0 + v1.toNat) ((a0.length : Int).toNat - v1.toNat) false)) rfl rfl) rfl ?_
            refine AOps.nil ?_
            refine At.next ?_
            refine AWp.seq ?_
            refine AWp.seq ?_
            refine AWp.region ?_
            refine AOps.cons rfl (st_assign (v := (.int .i64 1)) rfl rfl) rfl ?_
            refine AOps.nil ?_
            refine At.next ?_
            refine AWp.weaken (st' := ⟨[(0, (.vs 0)), (3, (.int .i64 v1)), (4, (.vsub 0 (0 + v1.toNat) ((a0.length : Int).toNat - v1.toNat) false)), (5, (.int .i64 1))], [(0, (.vec 10 (List.map e_Tapi_Message a0)))]⟩) ⟨rfl, rfl, rfl, rfl, trivial⟩ ⟨rfl, trivial⟩ ?_
            refine AWp.loopBlock (V := Int × Int × (List Tapi_Message)) (X := Int × (List Tapi_Message)) (lp := fun k v => F57_l15 K v1 a0 (F57_c18 K) k v.1 v.2.1 v.2.2 = some r) (sh := fun v => ⟨[(0, (.vs 0)), (3, (.int .i64 v.1)), (4, (.vsub 0 (0 + v1.toNat) ((a0.length : Int).toNat - v1.toNat) false)), (5, (.int .i64 v.2.1))], [(0, (.vec 10 (List.map e_Tapi_Message v.2.2)))]⟩) (x := fun v => F57_c18 K v.1 v.2 = some r) (shx := fun v => ⟨[(0, (.vs 0)), (3, (.int .i64 v.1))], [(0, (.vec 10 (List.map e_Tapi_Message v.2)))]⟩) (k := K) (v := (v1, 1, a0)) h ?_ ?_
            · intro v h
              obtain ⟨v16, v17⟩ := v
              try dsimp only at h ⊢
              unfold F57_c18 at h
              refine At.next ?_
              refine AWp.seq ?_
              refine AWp.region ?_
              refine AOps.cons rfl (st_move (v := (.vs 0)) rfl rfl) rfl ?_
              refine AOps.cons rfl (st_move (v := (.int .i64 v16)) rfl rfl) rfl ?_
              have ⟨hg20, h⟩ := of_guard h
              have ⟨hg21, h⟩ := of_guard h
              refine AOps.cons rfl (stx_sliceVL (v := (.vs 0)) (n := 0) (off := 0) (len := v17.length) (l := v17) (enc := e_Tapi_Message) (kl := .i64) (lo := v16) rfl s29 rfl rfl (vecR_map _ _ _) rfl hg20 rfl) rfl ?_
              have ⟨hg22, h⟩ := of_guard h
              refine AOps.cons rfl (st_clear (v := (.vsub 0 (0 + v16.toNat) ((v17.length : Int).toNat - v16.toNat) false)) (n := 0) (off := (0 + v16.toNat)) (len := ((v17.length : Int).toNat - v16.toNat)) (l := v17) (enc := e_Tapi_Message) el29 ze25 rfl rfl rfl (vecR_sub hg22) els_Tapi_Message) rfl ?_
              refine AOps.nil ?_
              refine At.next ?_
              refine AWp.seq ?_
              refine AWp.region ?_
              refine AOps.cons rfl (st_move (v := (.vs 0)) rfl rfl) rfl ?_
              refine AOps.cons rfl (st_move (v := (.int .i64 v16)) rfl rfl) rfl ?_
              have ⟨hg23, h⟩ := of_guard h
              have ⟨hg24, h⟩ := of_guard h
              refine AOps.cons rfl (stx_sliceVH (v := (.vs 0)) (n := 0) (off := 0) (len := (v17.take (0 + v16.toNat) ++ List.replicate ((v17.length : Int).toNat - v16.toNat) z_Tapi_Message ++ v17.drop ((0 + v16.toNat) + ((v17.length : Int).toNat - v16.toNat))).length) (l := (v17.take (0 + v16.toNat) ++ List.replicate ((v17.length : Int).toNat - v16.toNat) z_Tapi_Message ++ v17.drop ((0 + v16.toNat) + ((v17.length : Int).toNat - v16.toNat)))) (enc := e_Tapi_Message) (kh := .i64) (hi := v16) rfl s29 rfl rfl (vecR_map _ _ _) rfl hg23 rfl) rfl ?_
              refine AOps.cons rfl (st_assign (v := (.vsub 0 (0 + (0 : Int).toNat) (v16.toNat - (0 : Int).toNat) false)) rfl rfl) rfl ?_
              refine AOps.nil ?_
              refine At.next ?_
              refine AWp.ret ?_
              refine At.overR ?_
              refine At.thruR ?_
              refine At.thruR (At.overR ?_)
              refine At.thruR ?_
              refine At.ghost (st' := ⟨[(2, (.vs 0))], [(0, (.vec 10 (List.map e_Tapi_Message (((v17.take (0 + v16.toNat) ++ List.replicate ((v17.length : Int).toNat - v16.toNat) z_Tapi_Message ++ v17.drop ((0 + v16.toNat) + ((v17.length : Int).toNat - v16.toNat))).drop (0 + (0 : Int).toNat)).take (v16.toNat - (0 : Int).toNat)))))]⟩) (fun a w h => (SatL.wk ⟨[(2, (.vs 0))], [(0, (.vec 10 (List.map e_Tapi_Message (((v17.take (0 + v16.toNat) ++ List.replicate ((v17.length : Int).toNat - v16.toNat) z_Tapi_Message ++ v17.drop ((0 + v16.toNat) + ((v17.length : Int).toNat - v16.toNat))).drop (0 + (0 : Int).toNat)).take (v16.toNat - (0 : Int).toNat)))))]⟩ (ghost_trunc (k := 2) (m := 0) (sz := 10) (off := (0 + (0 : Int).toNat)) (len := (v16.toNat - (0 : Int).toNat)) (enc := e_Tapi_Message) (l := (v17.take (0 + v16.toNat) ++ List.replicate ((v17.length : Int).toNat - v16.toNat) z_Tapi_Message ++ v17.drop ((0 + v16.toNat) + ((v17.length : Int).toNat - v16.toNat)))) rfl hg24 a w (SatL.wk ⟨[(2, (.vsub 0 (0 + (0 : Int).toNat) (v16.toNat - (0 : Int).toNat) false))], [(0, (.vec 10 (List.map e_Tapi_Message (v17.take (0 + v16.toNat) ++ List.replicate ((v17.length : Int).toNat - v16.toNat) z_Tapi_Message ++ v17.drop ((0 + v16.toNat) + ((v17.length : Int).toNat - v16.toNat))))))]⟩ h ⟨rfl, trivial⟩ ⟨rfl, trivial⟩)) ⟨rfl, trivial⟩ ⟨rfl, trivial⟩)) ?_
              have h := Option.some.inj h
              subst h
              refine (hret _ ?_).1
              exact ⟨[(.vs 0)], ⟨rfl, trivial⟩, rfl, ⟨rfl, trivial⟩⟩
            · intro N k15 v h IH15 J15
              obtain ⟨v12, v13, v14⟩ := v
              try dsimp only at h IH15 J15 ⊢
              cases k15 with
              | zero => cases h
              | succ k15 =>
                rw [F57_l15] at h
                refine AWp.seq ?_
                refine AWp.seq ?_
                refine AWp.region ?_
                refine AOps.cons rfl (st_move (v := (.int .i64 v13)) rfl rfl) rfl ?_
                refine AOps.cons rfl (st_move (v := (.vsub 0 (0 + v1.toNat) ((a0.length : Int).toNat - v1.toNat) false)) rfl rfl) rfl ?_
                have ⟨hg26, h⟩ := of_guard h
                refine AOps.cons rfl (stx_lenVS (v := (.vsub 0 (0 + v1.toNat) ((a0.length : Int).toNat - v1.toNat) false)) (n := 0) (off := (0 + v1.toNat)) (len := ((a0.length : Int).toNat - v1.toNat)) (l := v14) (enc := e_Tapi_Message) rfl u29 rfl rfl (vecR_sub hg26)) rfl ?_
                refine AOps.cons rfl (st_cmp (k := .i64) (a := v13) (b := ((((a0.length : Int).toNat - v1.toNat) : Nat) : Int)) (c := (decide (v13 < ((((a0.length : Int).toNat - v1.toNat) : Nat) : Int)))) rfl rfl rfl rfl) rfl ?_
                refine AOps.nil ?_
                refine At.next ?_
                have hif := of_if h
                refine AWp.cond rfl (fun hc => ?_) (fun hc => ?_)
                · have h := hif.1 hc
                  refine AWp.skip ?_
                  refine At.next ?_
                  refine AWp.seq ?_
                  refine AWp.block ?_
                  refine AWp.seq ?_
                  refine AWp.regionD mixed ?_
                  refine AOpsD.cons 0 rfl (st_move (v := (.vsub 0 (0 + v1.toNat) ((a0.length : Int).toNat - v1.toNat) false)) rfl rfl) ?_
                  refine AOpsD.cons 1 rfl (st_move (v := (.int .i64 v13)) rfl rfl) ?_
                  have ⟨hg27, h⟩ := of_guard h
                  have ⟨hg28, h⟩ := of_guard h
                  refine AOpsD.cons 2 rfl (st_indexV (k := .i64) (v := (.vsub 0 (0 + v1.toNat) ((a0.length : Int).toNat - v1.toNat) false)) (n := 0) (off := (0 + v1.toNat)) (len := ((a0.length : Int).toNat - v1.toNat)) (es := (List.map e_Tapi_Message v14)) (j := v13) (m := ((0 + v1.toNat) + v13.toNat)) rfl s29 rfl rfl (vecR_sub hg27) rfl hg28 (rfl)) ?_
                  have ⟨hg29, h⟩ := of_guard h
                  refine AOpsD.cons 3 rfl (st_loadVA (l := v14) (enc := e_Tapi_Message) (z := z_Tapi_Message) (vs := (e_Tapi_Message (v14.getD ((0 + v1.toNat) + v13.toNat) z_Tapi_Message)).cells) rfl a25 rfl rfl hg29 rfl rfl) ?_
                  refine AOpsD.cons 4 rfl (st_move (v := (.vsub 0 (0 + v1.toNat) ((a0.length : Int).toNat - v1.toNat) false)) rfl rfl) ?_
                  refine AOpsD.cons 5 rfl (st_move (v := (.int .i64 v13)) rfl rfl) ?_
                  refine AOpsD.cons 6 rfl (st_arith (k := .i64) (a := v13) (b := 1) (c := (IntKind.i64.wrap (v13 - 1))) rfl rfl rfl rfl) ?_
                  have ⟨hg30, h⟩ := of_guard h
                  have ⟨hg31, h⟩ := of_guard h
                  refine AOpsD.cons 7 rfl (st_indexV (k := .i64) (v := (.vsub 0 (0 + v1.toNat) ((a0.length : Int).toNat - v1.toNat) false)) (n := 0) (off := (0 + v1.toNat)) (len := ((a0.length : Int).toNat - v1.toNat)) (es := (List.map e_Tapi_Message v14)) (j := (IntKind.i64.wrap (v13 - 1))) (m := ((0 + v1.toNat) + (IntKind.i64.wrap (v13 - 1)).toNat)) rfl s29 rfl rfl (vecR_sub hg30) rfl hg31 (rfl)) ?_
                  have ⟨hg32, h⟩ := of_guard h
                  refine AOpsD.cons 8 rfl (st_loadVA (l := v14) (enc := e_Tapi_Message) (z := z_Tapi_Message) (vs := (e_Tapi_Message (v14.getD ((0 + v1.toNat) + (IntKind.i64.wrap (v13 - 1)).toNat) z_Tapi_Message)).cells) rfl a25 rfl rfl hg32 rfl rfl) ?_
                  refine AOpsD.cons 9 rfl (st_cmpA (xs := (e_Tapi_Message (v14.getD ((0 + v1.toNat) + v13.toNat) z_Tapi_Message)).cells) (ys := (e_Tapi_Message (v14.getD ((0 + v1.toNat) + (IntKind.i64.wrap (v13 - 1)).toNat) z_Tapi_Message)).cells) (b := (((v14.getD ((0 + v1.toNat) + v13.toNat) z_Tapi_Message).Kind == (v14.getD ((0 + v1.toNat) + (IntKind.i64.wrap (v13 - 1)).toNat) z_Tapi_Message).Kind) && (((v14.getD ((0 + v1.toNat) + v13.toNat) z_Tapi_Message).A.Trace == (v14.getD ((0 + v1.toNat) + (IntKind.i64.wrap (v13 - 1)).toNat) z_Tapi_Message).A.Trace) && (((v14.getD ((0 + v1.toNat) + v13.toNat) z_Tapi_Message).A.Id == (v14.getD ((0 + v1.toNat) + (IntKind.i64.wrap (v13 - 1)).toNat) z_Tapi_Message).A.Id) && (((v14.getD ((0 + v1.toNat) + v13.toNat) z_Tapi_Message).B.Trace == (v14.getD ((0 + v1.toNat) + (IntKind.i64.wrap (v13 - 1)).toNat) z_Tapi_Message).B.Trace) && (((v14.getD ((0 + v1.toNat) + v13.toNat) z_Tapi_Message).B.Id == (v14.getD ((0 + v1.toNat) + (IntKind.i64.wrap (v13 - 1)).toNat) z_Tapi_Message).B.Id) && (((v14.getD ((0 + v1.toNat) + v13.toNat) z_Tapi_Message).From == (v14.getD ((0 + v1.toNat) + (IntKind.i64.wrap (v13 - 1)).toNat) z_Tapi_Message).From) && (((v14.getD ((0 + v1.toNat) + v13.toNat) z_Tapi_Message).To == (v14.getD ((0 + v1.toNat) + (IntKind.i64.wrap (v13 - 1)).toNat) z_Tapi_Message).To) && (((v14.getD ((0 + v1.toNat) + v13.toNat) z_Tapi_Message).Sent == (v14.getD ((0 + v1.toNat) + (IntKind.i64.wrap (v13 - 1)).toNat) z_Tapi_Message).Sent) && (((v14.getD ((0 + v1.toNat) + v13.toNat) z_Tapi_Message).Received == (v14.getD ((0 + v1.toNat) + (IntKind.i64.wrap (v13 - 1)).toNat) z_Tapi_Message).Received) && (((v14.getD ((0 + v1.toNat) + v13.toNat) z_Tapi_Message).Least == (v14.getD ((0 + v1.toNat) + (IntKind.i64.wrap (v13 - 1)).toNat) z_Tapi_Message).Least) && true))))))))))) (c := (!(((v14.getD ((0 + v1.toNat) + v13.toNat) z_Tapi_Message).Kind == (v14.getD ((0 + v1.toNat) + (IntKind.i64.wrap (v13 - 1)).toNat) z_Tapi_Message).Kind) && (((v14.getD ((0 + v1.toNat) + v13.toNat) z_Tapi_Message).A.Trace == (v14.getD ((0 + v1.toNat) + (IntKind.i64.wrap (v13 - 1)).toNat) z_Tapi_Message).A.Trace) && (((v14.getD ((0 + v1.toNat) + v13.toNat) z_Tapi_Message).A.Id == (v14.getD ((0 + v1.toNat) + (IntKind.i64.wrap (v13 - 1)).toNat) z_Tapi_Message).A.Id) && (((v14.getD ((0 + v1.toNat) + v13.toNat) z_Tapi_Message).B.Trace == (v14.getD ((0 + v1.toNat) + (IntKind.i64.wrap (v13 - 1)).toNat) z_Tapi_Message).B.Trace) && (((v14.getD ((0 + v1.toNat) + v13.toNat) z_Tapi_Message).B.Id == (v14.getD ((0 + v1.toNat) + (IntKind.i64.wrap (v13 - 1)).toNat) z_Tapi_Message).B.Id) && (((v14.getD ((0 + v1.toNat) + v13.toNat) z_Tapi_Message).From == (v14.getD ((0 + v1.toNat) + (IntKind.i64.wrap (v13 - 1)).toNat) z_Tapi_Message).From) && (((v14.getD ((0 + v1.toNat) + v13.toNat) z_Tapi_Message).To == (v14.getD ((0 + v1.toNat) + (IntKind.i64.wrap (v13 - 1)).toNat) z_Tapi_Message).To) && (((v14.getD ((0 + v1.toNat) + v13.toNat) z_Tapi_Message).Sent == (v14.getD ((0 + v1.toNat) + (IntKind.i64.wrap (v13 - 1)).toNat) z_Tapi_Message).Sent) && (((v14.getD ((0 + v1.toNat) + v13.toNat) z_Tapi_Message).Received == (v14.getD ((0 + v1.toNat) + (IntKind.i64.wrap (v13 - 1)).toNat) z_Tapi_Message).Received) && (((v14.getD ((0 + v1.toNat) + v13.toNat) z_Tapi_Message).Least == (v14.getD ((0 + v1.toNat) + (IntKind.i64.wrap (v13 - 1)).toNat) z_Tapi_Message).Least) && true)))))))))))) rfl eq25 rfl rfl rfl rfl) ?_
                  refine AOpsD.nil (by kernel_rfl) rfl ?_
                  refine At.next ?_
                  refine AWp.join (V := Int × (List Tapi_Message)) (lp := fun v => F57_j35 K (F57_l15 K v1 a0 (F57_c18 K) k15) v13 v.1 v.2 = some r) (sh := fun v => ⟨[(0, (.vs 0)), (3, (.int .i64 v.1)), (4, (.vsub 0 (0 + v1.toNat) ((a0.length : Int).toNat - v1.toNat) false)), (5, (.int .i64 v13))], [(0, (.vec 10 (List.map e_Tapi_Message v.2)))]⟩) ?_ ?_
                  · intro v h
                    obtain ⟨v33, v34⟩ := v
                    try dsimp only at h ⊢
                    unfold F57_j35 at h
                    refine At.end ?_
                    refine At.next ?_
                    refine AWp.region ?_
                    refine AOps.cons rfl (st_move (v := (.int .i64 v13)) rfl rfl) rfl ?_
                    refine AOps.cons rfl (st_arith (k := .i64) (a := v13) (b := 1) (c := (IntKind.i64.wrap (v13 + 1))) rfl rfl rfl rfl) rfl ?_
                    refine AOps.cons rfl (st_assign (v := (.int .i64 (IntKind.i64.wrap (v13 + 1)))) rfl rfl) rfl ?_
                    refine AOps.nil ?_
                    exact At.weaken (st' := ⟨[(0, (.vs 0)), (3, (.int .i64 v33)), (4, (.vsub 0 (0 + v1.toNat) ((a0.length : Int).toNat - v1.toNat) false)), (5, (.int .i64 (IntKind.i64.wrap (v13 + 1))))], [(0, (.vec 10 (List.map e_Tapi_Message v34)))]⟩) ⟨rfl, rfl, rfl, rfl, trivial⟩ ⟨rfl, trivial⟩ (IH15 _ (v33, (IntKind.i64.wrap (v13 + 1)), v34) (Nat.lt_succ_self _) h)
                  · intro J35
                    have hif := of_if h
                    refine AWp.cond rfl (fun hc => ?_) (fun hc => ?_)
                    · have h := hif.1 hc
                      refine AWp.seq ?_
                      refine AWp.region ?_
                      refine AOps.cons rfl (st_move (v := (.vs 0)) rfl rfl) rfl ?_
                      refine AOps.cons rfl (st_move (v := (.int .i64 v12)) rfl rfl) rfl ?_
                      refine AOps.cons rfl (st_move (v := (.vsub 0 (0 + v1.toNat) ((a0.length : Int).toNat - v1.toNat) false)) rfl rfl) rfl ?_
                      refine AOps.cons rfl (st_move (v := (.int .i64 v13)) rfl rfl) rfl ?_
                      have ⟨hg36, h⟩ := of_guard h
                      have ⟨hg37, h⟩ := of_guard h
                      refine AOps.cons rfl (st_indexV (k := .i64) (v := (.vsub 0 (0 + v1.toNat) ((a0.length : Int).toNat - v1.toNat) false)) (n := 0) (off := (0 + v1.toNat)) (len := ((a0.length : Int).toNat - v1.toNat)) (es := (List.map e_Tapi_Message v14)) (j := v13) (m := ((0 + v1.toNat) + v13.toNat)) rfl s29 rfl rfl (vecR_sub hg36) rfl hg37 (rfl)) rfl ?_
                      have ⟨hg38, h⟩ := of_guard h
                      refine AOps.cons rfl (st_loadVA (l := v14) (enc := e_Tapi_Message) (z := z_Tapi_Message) (vs := (e_Tapi_Message (v14.getD ((0 + v1.toNat) + v13.toNat) z_Tapi_Message)).cells) rfl a25 rfl rfl hg38 rfl rfl) rfl ?_
                      have ⟨hg39, h⟩ := of_guard h
                      refine AOps.cons rfl (st_indexV (k := .i64) (v := (.vs 0)) (n := 0) (off := 0) (len := v14.length) (es := (List.map e_Tapi_Message v14)) (j := v12) (m := v12.toNat) rfl s29 rfl rfl (vecR_map _ _ _) rfl hg39 (Nat.zero_add _)) rfl ?_
                      have ⟨hg40, h⟩ := of_guard h
                      refine AOps.cons rfl (st_storeV (l := v14) (enc := e_Tapi_Message) (z := z_Tapi_Message) (a := (v14.getD ((0 + v1.toNat) + v13.toNat) z_Tapi_Message)) (v := (e_Tapi_Message (v14.getD ((0 + v1.toNat) + v13.toNat) z_Tapi_Message))) sz25 rfl rfl hg40 rfl els_Tapi_Message rfl rfl rfl rfl) rfl ?_
                      refine AOps.nil ?_
                      refine At.next ?_
                      refine AWp.region ?_
                      refine AOps.cons rfl (st_move (v := (.int .i64 v12)) rfl rfl) rfl ?_
                      refine AOps.cons rfl (st_arith (k := .i64) (a := v12) (b := 1) (c := (IntKind.i64.wrap (v12 + 1))) rfl rfl rfl rfl) rfl ?_
                      refine AOps.cons rfl (st_assign (v := (.int .i64 (IntKind.i64.wrap (v12 + 1)))) rfl rfl) rfl ?_
                      refine AOps.nil ?_
                      exact At.weaken (st' := ⟨[(0, (.vs 0)), (3, (.int .i64 (IntKind.i64.wrap (v12 + 1)))), (4, (.vsub 0 (0 + v1.toNat) ((a0.length : Int).toNat - v1.toNat) false)), (5, (.int .i64 v13))], [(0, (.vec 10 (List.map e_Tapi_Message (v14.set v12.toNat (v14.getD ((0 + v1.toNat) + v13.toNat) z_Tapi_Message)))))]⟩) ⟨rfl, rfl, rfl, rfl, trivial⟩ ⟨rfl, trivial⟩ (J35 ((IntKind.i64.wrap (v12 + 1)), (v14.set v12.toNat (v14.getD ((0 + v1.toNat) + v13.toNat) z_Tapi_Message))) h)
                    · have h := hif.2 hc
                      refine AWp.skip ?_
                      exact At.weaken (st' := ⟨[(0, (.vs 0)), (3, (.int .i64 v12)), (4, (.vsub 0 (0 + v1.toNat) ((a0.length : Int).toNat - v1.toNat) false)), (5, (.int .i64 v13))], [(0, (.vec 10 (List.map e_Tapi_Message v14)))]⟩) ⟨rfl, rfl, rfl, rfl, trivial⟩ ⟨rfl, trivial⟩ (J35 (v12, v14) h)
                · have h := hif.2 hc
                  refine AWp.exit ?_
                  refine At.thru ?_
                  exact At.weaken (st' := ⟨[(0, (.vs 0)), (3, (.int .i64 v12))], [(0, (.vec 10 (List.map e_Tapi_Message v14)))]⟩) ⟨rfl, rfl, trivial⟩ ⟨rfl, trivial⟩ (J15 (v12, v14) h)
          · have h := hif.2 hc
            refine AWp.skip ?_
            refine At.end ?_
            refine At.next ?_
            refine AWp.region ?_
            refine AOps.cons rfl (st_move (v := (.int .i64 v1)) rfl rfl) rfl ?_
            refine AOps.cons rfl (st_arith (k := .i64) (a := v1) (b := 1) (c := (IntKind.i64.wrap (v1 + 1))) rfl rfl rfl rfl) rfl ?_
            refine AOps.cons rfl (st_assign (v := (.int .i64 (IntKind.i64.wrap (v1 + 1)))) rfl rfl) rfl ?_
            refine AOps.nil ?_
            exact At.weaken (st' := ⟨[(0, (.vs 0)), (3, (.int .i64 (IntKind.i64.wrap (v1 + 1))))], [(0, (.vec 10 (List.map e_Tapi_Message a0)))]⟩) ⟨rfl, rfl, trivial⟩ ⟨rfl, trivial⟩ (IH2 _ (IntKind.i64.wrap (v1 + 1)) (Nat.lt_succ_self _) h)
        · have h := hif.2 hc
          refine AWp.exit ?_
          refine At.thru ?_
          exact At.weaken (st' := ⟨[(0, (.vs 0))], [(0, (.vec 10 (List.map e_Tapi_Message a0)))]⟩) ⟨rfl, trivial⟩ ⟨rfl, trivial⟩ (J2 () h)

/-! 19: sleuth/message.Set -/
def F19 (K : Nat) (a0 : (List Tapi_Message)) : Option ((List Tapi_Message)) :=
  (F55 K a0).bind fun v2 =>
    (sortF (fun a b => F15 K a b) v2).bind fun v4 =>
      (F57 K v4).bind fun v6 =>
        some v6
theorem F19_ok (K : Nat) (a0 : (List Tapi_Message)) (r : (List Tapi_Message)) (h : F19 K a0 = some r) : ACall P 19 ⟨[(.sl 10 (a0.map e_Tapi_Message) false)], [], (.sl 10 (r.map e_Tapi_Message) false), [], []⟩ := by
  refine acall_of Try.func19 Try.results19 rfl Try.ntmps19 rfl rfl rfl ?_
  intro E Q hP hN hro hret
  obtain ⟨P', nt', w0, F0, p0, S0, β0, ro0⟩ := E
  simp only at hP hN
  subst hP hN
  dsimp only [argT]
  unfold F19 at h
  refine AWp.seq ?_
  refine AWp.region ?_
  refine AOps.cons rfl (st_assign (v := (.sl 10 [] false)) rfl rfl) rfl ?_
  refine AOps.nil ?_
  refine At.next ?_
  refine AWp.seq ?_
  refine AWp.region ?_
  refine AOps.cons rfl (st_move (v := (.sl 10 (a0.map e_Tapi_Message) false)) rfl rfl) rfl ?_
  have ⟨v2, hv2, h⟩ := of_bind h
  refine AOps.cons rfl (st_callO (sz := 10) (es := (List.map e_Tapi_Message v2)) (ar := [(.sl 10 (a0.map e_Tapi_Message) false)]) (caps := []) Try.call55 ((F55_ok K a0 v2 hv2).sw 2 5) rfl rfl ⟨rfl, trivial⟩ rfl) rfl ?_
  refine AOps.cons rfl (st_assign (v := (.vs 5)) rfl rfl) rfl ?_
  refine AOps.nil ?_
  refine At.next ?_
  refine AWp.seq ?_
  refine AWp.region ?_
  refine AOps.cons rfl (st_move (v := (.vs 5)) rfl rfl) rfl ?_
  have ⟨v4, hv4, h⟩ := of_bind h
  refine AOps.cons rfl (st_call (d := some 7) (c := ⟨[(.vs 5), (.clo 15 [])], [(5, (.vec 10 (List.map e_Tapi_Message v2)))], .tup [], [(5, .vec 10 (List.map e_Tapi_Message v4))], []⟩) (ar := [(.vs 5), (.clo 15 [])]) (caps := []) (news := []) (forg := []) Try.call56 (sort_ok (n := 5) (enc := e_Tapi_Message) (l := v2) (caps := []) (c := (fun a b => F15 K a b)) sortC56 Try.call15 els_Tapi_Message (fun _ => rfl) (fun a b m hm => F15_ok K a b m hm) hv4) rfl rfl ⟨rfl, rfl, trivial⟩ rfl ⟨rfl, trivial⟩ rfl) rfl ?_
  refine AOps.nil ?_
  refine At.next ?_
  refine AWp.seq ?_
  refine AWp.region ?_
  refine AOps.cons rfl (st_move (v := (.vs 5)) rfl rfl) rfl ?_
  have ⟨v6, hv6, h⟩ := of_bind h
  refine AOps.cons rfl (st_call (d := some 9) (c := ⟨[(.vs 5)] ++ [], [(5, (.vec 10 (List.map e_Tapi_Message v4)))], .vs 5, [(5, .vec 10 (List.map e_Tapi_Message v6))], [5]⟩) (ar := [(.vs 5)]) (caps := []) (news := []) (forg := [5]) Try.call57 ((F57_ok K v4 v6 hv6).sw 0 5) rfl rfl ⟨rfl, trivial⟩ rfl ⟨rfl, trivial⟩ rfl) rfl ?_
  refine AOps.cons rfl (st_assign (v := (.vs 5)) rfl rfl) rfl ?_
  refine AOps.nil ?_
  refine At.next ?_
  refine AWp.ret ?_
  refine At.ghost (st' := ⟨[(2, (.sl 10 (v6.map e_Tapi_Message) false))], []⟩) (fun a w h => (SatL.wk ⟨[(2, (.sl 10 (v6.map e_Tapi_Message) false))], []⟩ (ghost_freeze (m := 5) (sz := 10) (es := (List.map e_Tapi_Message v6)) a w (SatL.wk ⟨[(2, (.vs 5))], [(5, (.vec 10 (List.map e_Tapi_Message v6)))]⟩ h ⟨rfl, trivial⟩ ⟨rfl, trivial⟩)) ⟨rfl, trivial⟩ trivial)) ?_
  have h := Option.some.inj h
  subst h
  refine (hret _ ?_).1
  exact ⟨[(.sl 10 (v6.map e_Tapi_Message) false)], ⟨rfl, trivial⟩, rfl, trivial⟩

end Go.AM.Msg
