/- What these functions compute, each with its walk: F54, F17. -/
import Derived.Test.YtgikdjgdjogdmaaMsgT
import Derived.Test.YtgikdjgdjogdmaaMsgG0
namespace Go.AM.Msg
open Go Go.AM Go.Proofs
set_option maxRecDepth 100000
set_option maxHeartbeats 2000000
/-! 54: sleuth/sleuthlaw14.ints -/
def F54 (K : Nat) (a0 : Int) (a1 : Int) : Option (Int) :=
  if (decide (a0 < a1)) = true then
    some (Int.negSucc 0)
  else
    if (decide (a0 > a1)) = true then
      some 1
    else
      some 0
theorem F54_ok (K : Nat) (a0 : Int) (a1 : Int) (r : Int) (h : F54 K a0 a1 = some r) : ACall P 54 ⟨[(.int .i64 a0), (.int .i64 a1)], [], (.int .i64 r), [], []⟩ := by
  refine acall_of Try.func54 Try.results54 rfl Try.ntmps54 rfl rfl rfl ?_
  intro E Q hP hN hro hret
  obtain ⟨P', nt', w0, F0, p0, S0, β0, ro0⟩ := E
  simp only at hP hN
  subst hP hN
  dsimp only [argT]
  unfold F54 at h
  refine AWp.seq ?_
  refine AWp.region ?_
  refine AOps.cons rfl (st_assign (v := (.int .i64 0)) rfl rfl) rfl ?_
  refine AOps.nil ?_
  refine At.next ?_
  refine AWp.seq ?_
  refine AWp.block ?_
  refine AWp.seq ?_
  refine AWp.region ?_
  refine AOps.cons rfl (st_move (v := (.int .i64 a0)) rfl rfl) rfl ?_
  refine AOps.cons rfl (st_move (v := (.int .i64 a1)) rfl rfl) rfl ?_
  refine AOps.cons rfl (st_cmp (k := .i64) (a := a0) (b := a1) (c := (decide (a0 < a1))) rfl rfl rfl rfl) rfl ?_
  refine AOps.cons rfl (st_assign (v := (.bool (decide (a0 < a1)))) rfl rfl) rfl ?_
  refine AOps.nil ?_
  refine At.next ?_
  have hif := of_if h
  refine AWp.cond rfl (fun hc => ?_) (fun hc => ?_)
  · have h := hif.1 hc
    refine AWp.seq ?_
    refine AWp.region ?_
    refine AOps.cons rfl (st_assign (v := (.int .i64 (Int.negSucc 0))) rfl rfl) rfl ?_
    refine AOps.nil ?_
    refine At.next ?_
    refine AWp.ret ?_
    refine At.overR ?_
    refine At.thruR ?_
    have h := Option.some.inj h
    subst h
    refine (hret _ ?_).1
    exact ⟨[(.int .i64 (Int.negSucc 0))], ⟨rfl, trivial⟩, rfl, trivial⟩
  · have h := hif.2 hc
    refine AWp.seq ?_
    refine AWp.region ?_
    refine AOps.cons rfl (st_move (v := (.int .i64 a0)) rfl rfl) rfl ?_
    refine AOps.cons rfl (st_move (v := (.int .i64 a1)) rfl rfl) rfl ?_
    refine AOps.cons rfl (st_cmp (k := .i64) (a := a0) (b := a1) (c := (decide (a0 > a1))) rfl rfl rfl rfl) rfl ?_
    refine AOps.cons rfl (st_assign (v := (.bool (decide (a0 > a1)))) rfl rfl) rfl ?_
    refine AOps.nil ?_
    refine At.next ?_
    have hif := of_if h
    refine AWp.cond rfl (fun hc => ?_) (fun hc => ?_)
    · have h := hif.1 hc
      refine AWp.seq ?_
      refine AWp.region ?_
      refine AOps.cons rfl (st_assign (v := (.int .i64 1)) rfl rfl) rfl ?_
      refine AOps.nil ?_
      refine At.next ?_
      refine AWp.ret ?_
      refine At.overR ?_
      refine At.thruR ?_
      have h := Option.some.inj h
      subst h
      refine (hret _ ?_).1
      exact ⟨[(.int .i64 1)], ⟨rfl, trivial⟩, rfl, trivial⟩
    · have h := hif.2 hc
      refine AWp.skip ?_
      refine At.end ?_
      refine At.next ?_
      refine AWp.seq ?_
      refine AWp.region ?_
      refine AOps.cons rfl (st_assign (v := (.int .i64 0)) rfl rfl) rfl ?_
      refine AOps.nil ?_
      refine At.next ?_
      refine AWp.ret ?_
      have h := Option.some.inj h
      subst h
      refine (hret _ ?_).1
      exact ⟨[(.int .i64 0)], ⟨rfl, trivial⟩, rfl, trivial⟩

/-! 17: sleuth/sleuthlaw14.compare -/
def F17_c19 (K : Nat) : Option (Int) :=
  some 0
def F17_l18 (K : Nat) (v2 : Int) (v4 : Int) (v6 : Int) (v8 : Int) (v10 : Int) (v12 : Int) (v14 : Int) (v16 : Int) (c20 : Option (Int)) : Nat → Int → Option (Int)
  | 0, _ => none
  | k18 + 1, v17 =>
    if (decide (v17 < ([v2, v4, v6, v8, v10, v12, v14, v16].length : Int))) = true then
      if (0 : Int) ≤ v17 ∧ v17 < ([v2, v4, v6, v8, v10, v12, v14, v16].length : Nat) then
        if v17.toNat < [v2, v4, v6, v8, v10, v12, v14, v16].length then
          if (([v2, v4, v6, v8, v10, v12, v14, v16].getD v17.toNat 0) != 0) = true then
            if (0 : Int) ≤ v17 ∧ v17 < ([v2, v4, v6, v8, v10, v12, v14, v16].length : Nat) then
              if v17.toNat < [v2, v4, v6, v8, v10, v12, v14, v16].length then
                some ([v2, v4, v6, v8, v10, v12, v14, v16].getD v17.toNat 0)
              else none
            else none
          else
            (F17_l18 K v2 v4 v6 v8 v10 v12 v14 v16 c20 k18) (IntKind.i64.wrap (v17 + 1))
        else none
      else none
    else
      c20
def F17 (K : Nat) (a0 : Tapi_Message) (a1 : Tapi_Message) : Option (Int) :=
  (F54 K a0.Kind a1.Kind).bind fun v2 =>
    (F52 K a0.A a1.A).bind fun v4 =>
      (F52 K a0.B a1.B).bind fun v6 =>
        (F54 K a0.From a1.From).bind fun v8 =>
          (F54 K a0.To a1.To).bind fun v10 =>
            (F54 K a0.Sent a1.Sent).bind fun v12 =>
              (F54 K a0.Received a1.Received).bind fun v14 =>
                (F54 K a0.Least a1.Least).bind fun v16 =>
                  F17_l18 K v2 v4 v6 v8 v10 v12 v14 v16 (F17_c19 K) K 0
theorem F17_ok (K : Nat) (a0 : Tapi_Message) (a1 : Tapi_Message) (r : Int) (h : F17 K a0 a1 = some r) : ACall P 17 ⟨[(e_Tapi_Message a0), (e_Tapi_Message a1)], [], (.int .i64 r), [], []⟩ := by
  refine acall_of Try.func17 Try.results17 rfl Try.ntmps17 rfl rfl rfl ?_
  intro E Q hP hN hro hret
  obtain ⟨P', nt', w0, F0, p0, S0, β0, ro0⟩ := E
  simp only at hP hN
  subst hP hN
  dsimp only [argT]
  unfold F17 at h
  refine AWp.seq ?_
  refine AWp.region ?_
  refine AOps.cons rfl (st_box (v := (e_Tapi_Message a0)) (cs := (e_Tapi_Message a0).cells) rfl rfl rfl rfl rfl) rfl ?_
  refine AOps.cons rfl (st_box (v := (e_Tapi_Message a1)) (cs := (e_Tapi_Message a1).cells) rfl rfl rfl rfl rfl) rfl ?_
  refine AOps.cons rfl (st_assign (v := (.int .i64 0)) rfl rfl) rfl ?_
  refine AOps.nil ?_
  refine At.next ?_
  refine AWp.seq ?_
  refine AWp.regionD mixed ?_
  refine AOpsD.cons 0 rfl (st_fieldP (m := 2) (o := 0) rfl f25_0 rfl rfl) ?_
  refine AOpsD.cons 1 rfl (st_loadP (cs := (e_Tapi_Message a0).cells) (v := (.int .i64 a0.Kind)) rfl o3 rfl rfl rfl) ?_
  refine AOpsD.cons 2 rfl (st_fieldP (m := 3) (o := 0) rfl f25_0 rfl rfl) ?_
  refine AOpsD.cons 3 rfl (st_loadP (cs := (e_Tapi_Message a1).cells) (v := (.int .i64 a1.Kind)) rfl o3 rfl rfl rfl) ?_
  have ⟨v2, hv2, h⟩ := of_bind h
  refine AOpsD.cons 4 rfl (st_call0 (ar := [(.int .i64 a0.Kind), (.int .i64 a1.Kind)]) (caps := []) Try.call54 (F54_ok K a0.Kind a1.Kind v2 hv2) rfl rfl ⟨rfl, rfl, trivial⟩ rfl) ?_
  refine AOpsD.cons 5 rfl (st_fieldP (m := 2) (o := 0) rfl f25_1 rfl rfl) ?_
  refine AOpsD.cons 6 rfl (st_loadPA (cs := (e_Tapi_Message a0).cells) (vs := (e_Tapi_Ref a0.A).cells) rfl a23 rfl rfl rfl rfl) ?_
  refine AOpsD.cons 7 rfl (st_fieldP (m := 3) (o := 0) rfl f25_1 rfl rfl) ?_
  refine AOpsD.cons 8 rfl (st_loadPA (cs := (e_Tapi_Message a1).cells) (vs := (e_Tapi_Ref a1.A).cells) rfl a23 rfl rfl rfl rfl) ?_
  have ⟨v4, hv4, h⟩ := of_bind h
  refine AOpsD.cons 9 rfl (st_call0 (ar := [(e_Tapi_Ref a0.A), (e_Tapi_Ref a1.A)]) (caps := []) Try.call52 (F52_ok K a0.A a1.A v4 hv4) rfl rfl ⟨rfl, rfl, trivial⟩ rfl) ?_
  refine AOpsD.cons 10 rfl (st_fieldP (m := 2) (o := 0) rfl f25_2 rfl rfl) ?_
  refine AOpsD.cons 11 rfl (st_loadPA (cs := (e_Tapi_Message a0).cells) (vs := (e_Tapi_Ref a0.B).cells) rfl a23 rfl rfl rfl rfl) ?_
  refine AOpsD.cons 12 rfl (st_fieldP (m := 3) (o := 0) rfl f25_2 rfl rfl) ?_
  refine AOpsD.cons 13 rfl (st_loadPA (cs := (e_Tapi_Message a1).cells) (vs := (e_Tapi_Ref a1.B).cells) rfl a23 rfl rfl rfl rfl) ?_
  have ⟨v6, hv6, h⟩ := of_bind h
  refine AOpsD.cons 14 rfl (st_call0 (ar := [(e_Tapi_Ref a0.B), (e_Tapi_Ref a1.B)]) (caps := []) Try.call52 (F52_ok K a0.B a1.B v6 hv6) rfl rfl ⟨rfl, rfl, trivial⟩ rfl) ?_
  refine AOpsD.cons 15 rfl (st_fieldP (m := 2) (o := 0) rfl f25_3 rfl rfl) ?_
  refine AOpsD.cons 16 rfl (st_loadP (cs := (e_Tapi_Message a0).cells) (v := (.int .i64 a0.From)) rfl o3 rfl rfl rfl) ?_
  refine AOpsD.cons 17 rfl (st_fieldP (m := 3) (o := 0) rfl f25_3 rfl rfl) ?_
  refine AOpsD.cons 18 rfl (st_loadP (cs := (e_Tapi_Message a1).cells) (v := (.int .i64 a1.From)) rfl o3 rfl rfl rfl) ?_
  have ⟨v8, hv8, h⟩ := of_bind h
  refine AOpsD.cons 19 rfl (st_call0 (ar := [(.int .i64 a0.From), (.int .i64 a1.From)]) (caps := []) Try.call54 (F54_ok K a0.From a1.From v8 hv8) rfl rfl ⟨rfl, rfl, trivial⟩ rfl) ?_
  refine AOpsD.cons 20 rfl (st_fieldP (m := 2) (o := 0) rfl f25_4 rfl rfl) ?_
  refine AOpsD.cons 21 rfl (st_loadP (cs := (e_Tapi_Message a0).cells) (v := (.int .i64 a0.To)) rfl o3 rfl rfl rfl) ?_
  refine AOpsD.cons 22 rfl (st_fieldP (m := 3) (o := 0) rfl f25_4 rfl rfl) ?_
  refine AOpsD.cons 23 rfl (st_loadP (cs := (e_Tapi_Message a1).cells) (v := (.int .i64 a1.To)) rfl o3 rfl rfl rfl) ?_
  have ⟨v10, hv10, h⟩ := of_bind h
  refine AOpsD.cons 24 rfl (st_call0 (ar := [(.int .i64 a0.To), (.int .i64 a1.To)]) (caps := []) Try.call54 (F54_ok K a0.To a1.To v10 hv10) rfl rfl ⟨rfl, rfl, trivial⟩ rfl) ?_
  refine AOpsD.cons 25 rfl (st_fieldP (m := 2) (o := 0) rfl f25_5 rfl rfl) ?_
  refine AOpsD.cons 26 rfl (st_loadP (cs := (e_Tapi_Message a0).cells) (v := (.int .i64 a0.Sent)) rfl o3 rfl rfl rfl) ?_
  refine AOpsD.cons 27 rfl (st_fieldP (m := 3) (o := 0) rfl f25_5 rfl rfl) ?_
  refine AOpsD.cons 28 rfl (st_loadP (cs := (e_Tapi_Message a1).cells) (v := (.int .i64 a1.Sent)) rfl o3 rfl rfl rfl) ?_
  have ⟨v12, hv12, h⟩ := of_bind h
  refine AOpsD.cons 29 rfl (st_call0 (ar := [(.int .i64 a0.Sent), (.int .i64 a1.Sent)]) (caps := []) Try.call54 (F54_ok K a0.Sent a1.Sent v12 hv12) rfl rfl ⟨rfl, rfl, trivial⟩ rfl) ?_
  refine AOpsD.cons 30 rfl (st_fieldP (m := 2) (o := 0) rfl f25_6 rfl rfl) ?_
  refine AOpsD.cons 31 rfl (st_loadP (cs := (e_Tapi_Message a0).cells) (v := (.int .i64 a0.Received)) rfl o3 rfl rfl rfl) ?_
  refine AOpsD.cons 32 rfl (st_fieldP (m := 3) (o := 0) rfl f25_6 rfl rfl) ?_
  refine AOpsD.cons 33 rfl (st_loadP (cs := (e_Tapi_Message a1).cells) (v := (.int .i64 a1.Received)) rfl o3 rfl rfl rfl) ?_
  have ⟨v14, hv14, h⟩ := of_bind h
  refine AOpsD.cons 34 rfl (st_call0 (ar := [(.int .i64 a0.Received), (.int .i64 a1.Received)]) (caps := []) Try.call54 (F54_ok K a0.Received a1.Received v14 hv14) rfl rfl ⟨rfl, rfl, trivial⟩ rfl) ?_
  refine AOpsD.cons 35 rfl (st_fieldP (m := 2) (o := 0) rfl f25_7 rfl rfl) ?_
  refine AOpsD.cons 36 rfl (st_loadP (cs := (e_Tapi_Message a0).cells) (v := (.int .i64 a0.Least)) rfl o3 rfl rfl rfl) ?_
  refine AOpsD.cons 37 rfl (st_fieldP (m := 3) (o := 0) rfl f25_7 rfl rfl) ?_
  refine AOpsD.cons 38 rfl (st_loadP (cs := (e_Tapi_Message a1).cells) (v := (.int .i64 a1.Least)) rfl o3 rfl rfl rfl) ?_
  have ⟨v16, hv16, h⟩ := of_bind h
  refine AOpsD.cons 39 rfl (st_call0 (ar := [(.int .i64 a0.Least), (.int .i64 a1.Least)]) (caps := []) Try.call54 (F54_ok K a0.Least a1.Least v16 hv16) rfl rfl ⟨rfl, rfl, trivial⟩ rfl) ?_
  refine AOpsD.cons 40 rfl (stx_buildSlice (vs := [(.int .i64 v2), (.int .i64 v4), (.int .i64 v6), (.int .i64 v8), (.int .i64 v10), (.int .i64 v12), (.int .i64 v14), (.int .i64 v16)]) (enc := e_i64) (l := [v2, v4, v6, v8, v10, v12, v14, v16]) rfl el87 rfl rfl ⟨rfl, rfl, rfl, rfl, rfl, rfl, rfl, rfl, trivial⟩ rfl els_i64 rfl rfl rfl rfl) ?_
  refine AOpsD.cons 41 rfl (st_assign (v := (.vs 47)) rfl rfl) ?_
  refine AOpsD.nil (by kernel_rfl) rfl ?_
  refine At.next ?_
  refine AWp.seq ?_
  refine AWp.seq ?_
  refine AWp.region ?_
  refine AOps.cons rfl (st_assign (v := (.int .i64 0)) rfl rfl) rfl ?_
  refine AOps.nil ?_
  refine At.next ?_
  refine AWp.ghost (st' := ⟨[(5, (.vs 5)), (6, (.int .i64 0))], [(5, (.vec 1 (List.map e_i64 [v2, v4, v6, v8, v10, v12, v14, v16])))]⟩) (fun a w h => (SatL.wk ⟨[(5, (.vs 5)), (6, (.int .i64 0))], [(5, (.vec 1 (List.map e_i64 [v2, v4, v6, v8, v10, v12, v14, v16])))]⟩ (ghost_sw (a := 47) (b := 5) rfl rfl a w (SatL.wk ⟨[(5, (.vs 47)), (6, (.int .i64 0))], [(47, (.vec 1 (List.map e_i64 [v2, v4, v6, v8, v10, v12, v14, v16])))]⟩ h ⟨rfl, rfl, trivial⟩ ⟨rfl, trivial⟩)) ⟨rfl, rfl, trivial⟩ ⟨rfl, trivial⟩)) ?_
  refine AWp.weaken (st' := ⟨[(5, (.vs 5)), (6, (.int .i64 0))], [(5, (.vec 1 (List.map e_i64 [v2, v4, v6, v8, v10, v12, v14, v16])))]⟩) ⟨rfl, rfl, trivial⟩ ⟨rfl, trivial⟩ ?_
  refine AWp.loopBlock (V := Int) (X := Unit) (lp := fun k v => F17_l18 K v2 v4 v6 v8 v10 v12 v14 v16 (F17_c19 K) k v = some r) (sh := fun v => ⟨[(5, (.vs 5)), (6, (.int .i64 v))], [(5, (.vec 1 (List.map e_i64 [v2, v4, v6, v8, v10, v12, v14, v16])))]⟩) (x := fun v => F17_c19 K = some r) (shx := fun v => ⟨[], []⟩) (k := K) (v := 0) h ?_ ?_
  · intro v h
    try dsimp only at h ⊢
    unfold F17_c19 at h
    refine At.next ?_
    refine AWp.seq ?_
    refine AWp.region ?_
    refine AOps.cons rfl (st_assign (v := (.int .i64 0)) rfl rfl) rfl ?_
    refine AOps.nil ?_
    refine At.next ?_
    refine AWp.ret ?_
    have h := Option.some.inj h
    subst h
    refine (hret _ ?_).1
    exact ⟨[(.int .i64 0)], ⟨rfl, trivial⟩, rfl, trivial⟩
  · intro N k18 v h IH18 J18
    revert h
    revert v
    intro v17 h
    try dsimp only at h IH18 J18 ⊢
    cases k18 with
    | zero => cases h
    | succ k18 =>
      rw [F17_l18] at h
      refine AWp.seq ?_
      refine AWp.seq ?_
      refine AWp.region ?_
      refine AOps.cons rfl (st_move (v := (.int .i64 v17)) rfl rfl) rfl ?_
      refine AOps.cons rfl (st_move (v := (.vs 5)) rfl rfl) rfl ?_
      refine AOps.cons rfl (stx_lenV (l := [v2, v4, v6, v8, v10, v12, v14, v16]) (enc := e_i64) rfl u87 rfl rfl) rfl ?_
      refine AOps.cons rfl (st_cmp (k := .i64) (a := v17) (b := ([v2, v4, v6, v8, v10, v12, v14, v16].length : Int)) (c := (decide (v17 < ([v2, v4, v6, v8, v10, v12, v14, v16].length : Int)))) rfl rfl rfl rfl) rfl ?_
      refine AOps.nil ?_
      refine At.next ?_
      have hif := of_if h
      refine AWp.cond rfl (fun hc => ?_) (fun hc => ?_)
      · have h := hif.1 hc
        refine AWp.skip ?_
        refine At.next ?_
        refine AWp.seq ?_
        refine AWp.block ?_
        refine AWp.seq ?_
        refine AWp.region ?_
        refine AOps.cons rfl (st_move (v := (.vs 5)) rfl rfl) rfl ?_
        refine AOps.cons rfl (st_move (v := (.int .i64 v17)) rfl rfl) rfl ?_
        have ⟨hg22, h⟩ := of_guard h
        refine AOps.cons rfl (st_indexV (k := .i64) (v := (.vs 5)) (n := 5) (off := 0) (len := ([v2, v4, v6, v8, v10, v12, v14, v16].length)) (es := (List.map e_i64 [v2, v4, v6, v8, v10, v12, v14, v16])) (j := v17) (m := v17.toNat) rfl s87 rfl rfl (vecR_map _ _ _) rfl hg22 (Nat.zero_add _)) rfl ?_
        have ⟨hg23, h⟩ := of_guard h
        refine AOps.cons rfl (st_loadV (l := [v2, v4, v6, v8, v10, v12, v14, v16]) (enc := e_i64) (z := 0) (v := (.int .i64 ([v2, v4, v6, v8, v10, v12, v14, v16].getD v17.toNat 0))) rfl o3 rfl rfl hg23 rfl) rfl ?_
        refine AOps.cons rfl (st_cmp (k := .i64) (a := ([v2, v4, v6, v8, v10, v12, v14, v16].getD v17.toNat 0)) (b := 0) (c := (([v2, v4, v6, v8, v10, v12, v14, v16].getD v17.toNat 0) != 0)) rfl rfl rfl rfl) rfl ?_
        refine AOps.nil ?_
        refine At.next ?_
        have hif := of_if h
        refine AWp.cond rfl (fun hc => ?_) (fun hc => ?_)
        · have h := hif.1 hc
          refine AWp.seq ?_
          refine AWp.region ?_
          refine AOps.cons rfl (st_move (v := (.vs 5)) rfl rfl) rfl ?_
          refine AOps.cons rfl (st_move (v := (.int .i64 v17)) rfl rfl) rfl ?_
          have ⟨hg24, h⟩ := of_guard h
          refine AOps.cons rfl (st_indexV (k := .i64) (v := (.vs 5)) (n := 5) (off := 0) (len := ([v2, v4, v6, v8, v10, v12, v14, v16].length)) (es := (List.map e_i64 [v2, v4, v6, v8, v10, v12, v14, v16])) (j := v17) (m := v17.toNat) rfl s87 rfl rfl (vecR_map _ _ _) rfl hg24 (Nat.zero_add _)) rfl ?_
          have ⟨hg25, h⟩ := of_guard h
          refine AOps.cons rfl (st_loadV (l := [v2, v4, v6, v8, v10, v12, v14, v16]) (enc := e_i64) (z := 0) (v := (.int .i64 ([v2, v4, v6, v8, v10, v12, v14, v16].getD v17.toNat 0))) rfl o3 rfl rfl hg25 rfl) rfl ?_
          refine AOps.cons rfl (st_assign (v := (.int .i64 ([v2, v4, v6, v8, v10, v12, v14, v16].getD v17.toNat 0))) rfl rfl) rfl ?_
          refine AOps.nil ?_
          refine At.next ?_
          refine AWp.ret ?_
          refine At.overR ?_
          refine At.thruR ?_
          refine At.thruR (At.overR ?_)
          refine At.thruR ?_
          have h := Option.some.inj h
          subst h
          refine (hret _ ?_).1
          exact ⟨[(.int .i64 ([v2, v4, v6, v8, v10, v12, v14, v16].getD v17.toNat 0))], ⟨rfl, trivial⟩, rfl, trivial⟩
        · have h := hif.2 hc
          refine AWp.skip ?_
          refine At.end ?_
          refine At.next ?_
          refine AWp.region ?_
          refine AOps.cons rfl (st_move (v := (.int .i64 v17)) rfl rfl) rfl ?_
          refine AOps.cons rfl (st_arith (k := .i64) (a := v17) (b := 1) (c := (IntKind.i64.wrap (v17 + 1))) rfl rfl rfl rfl) rfl ?_
          refine AOps.cons rfl (st_assign (v := (.int .i64 (IntKind.i64.wrap (v17 + 1)))) rfl rfl) rfl ?_
          refine AOps.nil ?_
          exact At.weaken (st' := ⟨[(5, (.vs 5)), (6, (.int .i64 (IntKind.i64.wrap (v17 + 1))))], [(5, (.vec 1 (List.map e_i64 [v2, v4, v6, v8, v10, v12, v14, v16])))]⟩) ⟨rfl, rfl, trivial⟩ ⟨rfl, trivial⟩ (IH18 _ (IntKind.i64.wrap (v17 + 1)) (Nat.lt_succ_self _) h)
      · have h := hif.2 hc
        refine AWp.exit ?_
        refine At.thru ?_
        exact At.weaken (st' := ⟨[], []⟩) trivial trivial (J18 () h)

end Go.AM.Msg
