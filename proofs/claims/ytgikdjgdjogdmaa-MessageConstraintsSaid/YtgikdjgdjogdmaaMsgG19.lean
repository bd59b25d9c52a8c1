/- What these functions compute, each with its walk: F34, F32, F8. -/
import Derived.Test.YtgikdjgdjogdmaaMsgT
import Derived.Test.YtgikdjgdjogdmaaMsgG1
import Derived.Test.YtgikdjgdjogdmaaMsgG9
import Derived.Test.YtgikdjgdjogdmaaMsgG11
namespace Go.AM.Msg
open Go Go.AM Go.Proofs
set_option maxRecDepth 100000
set_option maxHeartbeats 2000000
/-! 34: sleuth/message.Constraint -/
def F34 (K : Nat) (a0 : Tapi_Message) : Option (Tapi_Constraint) :=
  (F27 K a0).bind fun v2 =>
    some (⟨a0.From, a0.To, v2⟩ : Tapi_Constraint)
theorem F34_ok (K : Nat) (a0 : Tapi_Message) (r : Tapi_Constraint) (h : F34 K a0 = some r) : ACall P 34 ⟨[(e_Tapi_Message a0)], [], (e_Tapi_Constraint r), [], []⟩ := by
  refine acall_of Try.func34 Try.results34 rfl Try.ntmps34 rfl rfl rfl ?_
  intro E Q hP hN hro hret
  obtain ⟨P', nt', w0, F0, p0, S0, β0, ro0⟩ := E
  simp only at hP hN
  subst hP hN
  dsimp only [argT]
  unfold F34 at h
  refine AWp.seq ?_
  refine AWp.region ?_
  refine AOps.cons rfl (st_box (v := (e_Tapi_Message a0)) (cs := (e_Tapi_Message a0).cells) rfl rfl rfl rfl rfl) rfl ?_
  refine AOps.cons rfl (st_alloc (cs := [(.int .i64 0), (.int .i64 0), (.int .i64 0)]) rfl z65 rfl rfl rfl) rfl ?_
  refine AOps.nil ?_
  refine At.next ?_
  refine AWp.seq ?_
  refine AWp.regionD mixed ?_
  refine AOpsD.cons 0 rfl (st_fieldP (m := 1) (o := 0) rfl f25_3 rfl rfl) ?_
  refine AOpsD.cons 1 rfl (st_loadP (cs := (e_Tapi_Message a0).cells) (v := (.int .i64 a0.From)) rfl o3 rfl rfl rfl) ?_
  refine AOpsD.cons 2 rfl (st_fieldP (m := 1) (o := 0) rfl f25_4 rfl rfl) ?_
  refine AOpsD.cons 3 rfl (st_loadP (cs := (e_Tapi_Message a0).cells) (v := (.int .i64 a0.To)) rfl o3 rfl rfl rfl) ?_
  refine AOpsD.cons 4 rfl (st_loadPA (cs := (e_Tapi_Message a0).cells) (vs := (e_Tapi_Message a0).cells) rfl a25 rfl rfl rfl rfl) ?_
  have ⟨v2, hv2, h⟩ := of_bind h
  refine AOpsD.cons 5 rfl (st_call0 (ar := [(e_Tapi_Message a0)]) (caps := []) Try.call27 (F27_ok K a0 v2 hv2) rfl rfl ⟨rfl, trivial⟩ rfl) ?_
  refine AOpsD.cons 6 rfl (stx_build (vs := [(0, (.int .i64 a0.From)), (1, (.int .i64 a0.To)), (2, (.int .i64 v2))]) (cs := [(.int .i64 a0.From), (.int .i64 a0.To), (.int .i64 v2)]) rfl st65 ⟨rfl, rfl, rfl, rfl, rfl, rfl, trivial⟩ rfl) ?_
  refine AOpsD.cons 7 rfl (st_storeP (cs := [(.int .i64 0), (.int .i64 0), (.int .i64 0)]) (vs := [(.int .i64 a0.From), (.int .i64 a0.To), (.int .i64 v2)]) (ds := [(.int .i64 a0.From), (.int .i64 a0.To), (.int .i64 v2)]) (v := (.ag [(.int .i64 a0.From), (.int .i64 a0.To), (.int .i64 v2)])) sz65 rfl rfl rfl rfl rfl rfl rfl rfl) ?_
  refine AOpsD.nil (by kernel_rfl) rfl ?_
  refine At.next ?_
  refine AWp.ret ?_
  have h := Option.some.inj h
  subst h
  refine (hret _ ?_).1
  exact ⟨[(.ag [(.int .i64 a0.From), (.int .i64 a0.To), (.int .i64 v2)])], ⟨⟨2, _, rfl, rfl, .inr ⟨_, a65, rfl, rfl⟩⟩, trivial⟩, rfl, trivial⟩

/-! 32: sleuth/message.Constraints -/
def F32_c5 (K : Nat) (v4 : (List Tapi_Constraint)) : Option ((List Tapi_Constraint)) :=
  some v4
def F32_l3 (K : Nat) (a0 : (List Tapi_Message)) (c6 : (List Tapi_Constraint) → Option ((List Tapi_Constraint))) : Nat → Int → (List Tapi_Constraint) → Option ((List Tapi_Constraint))
  | 0, _, _ => none
  | k3 + 1, v1, v2 =>
    if (decide (v1 < (a0.length : Int))) = true then
      if (0 : Int) ≤ v1 ∧ v1 < a0.length then
        (F34 K (a0.getD v1.toNat z_Tapi_Message)).bind fun v10 =>
          if v2.length + [v10].length ≤ 1073741824 then
            (F32_l3 K a0 c6 k3) (IntKind.i64.wrap (v1 + 1)) (v2 ++ [v10])
          else none
      else none
    else
      c6 v2
def F32 (K : Nat) (a0 : (List Tapi_Message)) : Option ((List Tapi_Constraint)) :=
  F32_l3 K a0 (F32_c5 K) K 0 []
theorem F32_ok (K : Nat) (a0 : (List Tapi_Message)) (r : (List Tapi_Constraint)) (h : F32 K a0 = some r) : ACall P 32 ⟨[(.sl 10 (a0.map e_Tapi_Message) false)], [], (.sl 3 (r.map e_Tapi_Constraint) false), [], []⟩ := by
  refine acall_of Try.func32 Try.results32 rfl Try.ntmps32 rfl rfl rfl ?_
  intro E Q hP hN hro hret
  obtain ⟨P', nt', w0, F0, p0, S0, β0, ro0⟩ := E
  simp only at hP hN
  subst hP hN
  dsimp only [argT]
  unfold F32 at h
  refine AWp.seq ?_
  refine AWp.region ?_
  refine AOps.cons rfl (st_assign (v := (.sl 3 [] false)) rfl rfl) rfl ?_
  refine AOps.nil ?_
  refine At.next ?_
  refine AWp.seq ?_
  refine AWp.region ?_
  refine AOps.cons rfl (st_assign (v := (.sl 3 [] true)) rfl rfl) rfl ?_
  refine AOps.nil ?_
  refine At.next ?_
  refine AWp.seq ?_
  refine AWp.seq ?_
  refine AWp.region ?_
  refine AOps.cons rfl (st_move (v := (.sl 10 (a0.map e_Tapi_Message) false)) rfl rfl) rfl ?_
  refine AOps.cons rfl (stx_len (l := a0) (enc := e_Tapi_Message) rfl s29 rfl) rfl ?_
  refine AOps.cons rfl (st_move (v := (.int .i64 0)) rfl rfl) rfl ?_
  refine AOps.nil ?_
  refine At.next ?_
  refine AWp.ghost (st' := ⟨[(3, (.vs 3)), (6, (.sl 10 (a0.map e_Tapi_Message) false)), (7, (.int .i64 (a0.length : Int))), (8, (.int .i64 0))], [(3, (.vec 3 (List.map e_Tapi_Constraint ([] : List Tapi_Constraint))))]⟩) (fun a w h => (SatL.wk ⟨[(3, (.vs 3)), (6, (.sl 10 (a0.map e_Tapi_Message) false)), (7, (.int .i64 (a0.length : Int))), (8, (.int .i64 0))], [(3, (.vec 3 (List.map e_Tapi_Constraint ([] : List Tapi_Constraint))))]⟩ (ghost_own (k := 3) (m := 3) (sz := 3) rfl rfl a w (SatL.wk ⟨[(3, (.sl 3 [] true)), (6, (.sl 10 (a0.map e_Tapi_Message) false)), (7, (.int .i64 (a0.length : Int))), (8, (.int .i64 0))], []⟩ h ⟨rfl, rfl, rfl, rfl, trivial⟩ trivial)) ⟨rfl, rfl, rfl, rfl, trivial⟩ ⟨rfl, trivial⟩)) ?_
  refine AWp.weaken (st' := ⟨[(3, (.vs 3)), (6, (.sl 10 (a0.map e_Tapi_Message) false)), (7, (.int .i64 (a0.length : Int))), (8, (.int .i64 0))], [(3, (.vec 3 (List.map e_Tapi_Constraint [])))]⟩) ⟨rfl, rfl, rfl, rfl, trivial⟩ ⟨rfl, trivial⟩ ?_
  refine AWp.loopBlock (V := Int × (List Tapi_Constraint)) (X := (List Tapi_Constraint)) (lp := fun k v => F32_l3 K a0 (F32_c5 K) k v.1 v.2 = some r) (sh := fun v => ⟨[(3, (.vs 3)), (6, (.sl 10 (a0.map e_Tapi_Message) false)), (7, (.int .i64 (a0.length : Int))), (8, (.int .i64 v.1))], [(3, (.vec 3 (List.map e_Tapi_Constraint v.2)))]⟩) (x := fun v => F32_c5 K v = some r) (shx := fun v => ⟨[(3, (.vs 3))], [(3, (.vec 3 (List.map e_Tapi_Constraint v)))]⟩) (k := K) (v := (0, [])) h ?_ ?_
  · intro v h
    revert h
    revert v
    intro v4 h
    try dsimp only at h ⊢
    unfold F32_c5 at h
    refine At.next ?_
    refine AWp.seq ?_
    refine AWp.region ?_
    refine AOps.cons rfl (st_move (v := (.vs 3)) rfl rfl) rfl ?_
    refine AOps.cons rfl (st_assign (v := (.vs 3)) rfl rfl) rfl ?_
    refine AOps.nil ?_
    refine At.next ?_
    refine AWp.ret ?_
    refine At.ghost (st' := ⟨[(2, (.sl 3 (v4.map e_Tapi_Constraint) false))], []⟩) (fun a w h => (SatL.wk ⟨[(2, (.sl 3 (v4.map e_Tapi_Constraint) false))], []⟩ (ghost_freeze (m := 3) (sz := 3) (es := (List.map e_Tapi_Constraint v4)) a w (SatL.wk ⟨[(2, (.vs 3))], [(3, (.vec 3 (List.map e_Tapi_Constraint v4)))]⟩ h ⟨rfl, trivial⟩ ⟨rfl, trivial⟩)) ⟨rfl, trivial⟩ trivial)) ?_
    have h := Option.some.inj h
    subst h
    refine (hret _ ?_).1
    exact ⟨[(.sl 3 (v4.map e_Tapi_Constraint) false)], ⟨rfl, trivial⟩, rfl, trivial⟩
  · intro N k3 v h IH3 J3
    obtain ⟨v1, v2⟩ := v
    try dsimp only at h IH3 J3 ⊢
    cases k3 with
    | zero => cases h
    | succ k3 =>
      rw [F32_l3] at h
      refine AWp.seq ?_
      refine AWp.region ?_
      refine AOps.cons rfl (st_cmp (k := .i64) (a := v1) (b := (a0.length : Int)) (c := (decide (v1 < (a0.length : Int)))) rfl rfl rfl rfl) rfl ?_
      refine AOps.nil ?_
      refine At.next ?_
      refine AWp.seq ?_
      have hif := of_if h
      refine AWp.cond rfl (fun hc => ?_) (fun hc => ?_)
      · have h := hif.1 hc
        refine AWp.skip ?_
        refine At.next ?_
        refine AWp.seq ?_
        refine AWp.block ?_
        refine AWp.seq ?_
        refine AWp.region ?_
        have ⟨hg8, h⟩ := of_guard h
        refine AOps.cons rfl (st_index (k := .i64) (l := a0) (enc := e_Tapi_Message) (z := z_Tapi_Message) (n := v1) (cs := (e_Tapi_Message (a0.getD v1.toNat z_Tapi_Message)).cells) (full := false) rfl s29 rfl rfl hg8 rfl) rfl ?_
        refine AOps.cons rfl (st_loadIA (cs := (e_Tapi_Message (a0.getD v1.toNat z_Tapi_Message)).cells) (vs := (e_Tapi_Message (a0.getD v1.toNat z_Tapi_Message)).cells) rfl a25 rfl rfl rfl) rfl ?_
        refine AOps.cons rfl (st_alloc (cs := [(.int .i64 0), (.int .i64 0), (.int .i64 0), (.int .i64 0), (.int .i64 0), (.int .i64 0), (.int .i64 0), (.int .i64 0), (.int .i64 0), (.int .i64 0)]) rfl z25 rfl rfl rfl) rfl ?_
        refine AOps.cons rfl (st_storeP (cs := [(.int .i64 0), (.int .i64 0), (.int .i64 0), (.int .i64 0), (.int .i64 0), (.int .i64 0), (.int .i64 0), (.int .i64 0), (.int .i64 0), (.int .i64 0)]) (vs := (e_Tapi_Message (a0.getD v1.toNat z_Tapi_Message)).cells) (ds := (e_Tapi_Message (a0.getD v1.toNat z_Tapi_Message)).cells) (v := (e_Tapi_Message (a0.getD v1.toNat z_Tapi_Message))) sz25 rfl rfl rfl rfl rfl rfl rfl rfl) rfl ?_
        refine AOps.nil ?_
        refine At.next ?_
        refine AWp.region ?_
        refine AOps.cons rfl (st_move (v := (.vs 3)) rfl rfl) rfl ?_
        refine AOps.cons rfl (st_loadPA (cs := (e_Tapi_Message (a0.getD v1.toNat z_Tapi_Message)).cells) (vs := (e_Tapi_Message (a0.getD v1.toNat z_Tapi_Message)).cells) rfl a25 rfl rfl rfl rfl) rfl ?_
        have ⟨v10, hv10, h⟩ := of_bind h
        refine AOps.cons rfl (st_call0 (ar := [(e_Tapi_Message (a0.getD v1.toNat z_Tapi_Message))]) (caps := []) Try.call34 (F34_ok K (a0.getD v1.toNat z_Tapi_Message) v10 hv10) rfl rfl ⟨rfl, trivial⟩ rfl) rfl ?_
        refine AOps.cons rfl (stx_buildSlice (vs := [(e_Tapi_Constraint v10)]) (enc := e_Tapi_Constraint) (l := [v10]) rfl el62 rfl rfl ⟨rfl, trivial⟩ rfl els_Tapi_Constraint rfl rfl rfl rfl) rfl ?_
        have ⟨hg11, h⟩ := of_guard h
        refine AOps.cons rfl (st_append (m := 3) (enc := e_Tapi_Constraint) (l := v2) (l' := [v10]) (src := (.vs 15)) (rd := [(15, (.vec 3 (List.map e_Tapi_Constraint [v10])))]) rfl rfl el62 rfl u62 rfl rfl rfl rfl (oneRead rfl) els_Tapi_Constraint hg11) rfl ?_
        refine AOps.cons rfl (st_assign (v := (.vs 3)) rfl rfl) rfl ?_
        refine AOps.nil ?_
        refine At.end ?_
        refine At.next ?_
        refine AWp.region ?_
        refine AOps.cons rfl (st_arith (k := .i64) (a := v1) (b := 1) (c := (IntKind.i64.wrap (v1 + 1))) rfl rfl rfl rfl) rfl ?_
        refine AOps.cons rfl (st_move (v := (.int .i64 (IntKind.i64.wrap (v1 + 1)))) rfl rfl) rfl ?_
        refine AOps.nil ?_
        exact At.weaken (st' := ⟨[(3, (.vs 3)), (6, (.sl 10 (a0.map e_Tapi_Message) false)), (7, (.int .i64 (a0.length : Int))), (8, (.int .i64 (IntKind.i64.wrap (v1 + 1))))], [(3, (.vec 3 (List.map e_Tapi_Constraint (v2 ++ [v10]))))]⟩) ⟨rfl, rfl, rfl, rfl, trivial⟩ ⟨rfl, trivial⟩ (IH3 _ ((IntKind.i64.wrap (v1 + 1)), (v2 ++ [v10])) (Nat.lt_succ_self _) h)
      · have h := hif.2 hc
        refine AWp.exit ?_
        refine At.thru ?_
        exact At.weaken (st' := ⟨[(3, (.vs 3))], [(3, (.vec 3 (List.map e_Tapi_Constraint v2)))]⟩) ⟨rfl, trivial⟩ ⟨rfl, trivial⟩ (J3 v2 h)

/-! 8: sleuth/sleuthlaw14.MessageConstraints -/
def F8_c17 (K : Nat) : Option (Bool) :=
  some true
def F8_j26 (K : Nat) (b19 : Int → Option (Bool)) (v15 : Int) (v25 : Bool) : Option (Bool) :=
  if v25 = true then
    some false
  else
    b19 (IntKind.i64.wrap (v15 + 1))
def F8_l16 (K : Nat) (v10 : (List Tapi_Message)) (v14 : (List Tapi_Constraint)) (c18 : Option (Bool)) : Nat → Int → Option (Bool)
  | 0, _ => none
  | k16 + 1, v15 =>
    if (decide (v15 < (v10.length : Int))) = true then
      if (0 : Int) ≤ v15 ∧ v15 < v10.length then
        if (0 : Int) ≤ v15 ∧ v15 < v10.length then
          if (0 : Int) ≤ v15 ∧ v15 < v10.length then
            (F33 K (v10.getD v15.toNat z_Tapi_Message)).bind fun v24 =>
              if (0 : Int) ≤ v15 ∧ v15 < v10.length then
                (F27 K (v10.getD v15.toNat z_Tapi_Message)).bind fun v29 =>
                  if (v29 != v24) = true then
                    F8_j26 K (F8_l16 K v10 v14 c18 k16) v15 true
                  else
                    if (0 : Int) ≤ v15 ∧ v15 < v10.length then
                      (F34 K (v10.getD v15.toNat z_Tapi_Message)).bind fun v32 =>
                        if (!((v32.From == (v10.getD v15.toNat z_Tapi_Message).From) && ((v32.To == (v10.getD v15.toNat z_Tapi_Message).To) && ((v32.Bound == v24) && true)))) = true then
                          F8_j26 K (F8_l16 K v10 v14 c18 k16) v15 true
                        else
                          if (0 : Int) ≤ v15 ∧ v15 < v14.length then
                            F8_j26 K (F8_l16 K v10 v14 c18 k16) v15 (!(((v14.getD v15.toNat z_Tapi_Constraint).From == (v10.getD v15.toNat z_Tapi_Message).From) && (((v14.getD v15.toNat z_Tapi_Constraint).To == (v10.getD v15.toNat z_Tapi_Message).To) && (((v14.getD v15.toNat z_Tapi_Constraint).Bound == v24) && true))))
                          else none
                    else none
              else none
          else none
        else none
      else none
    else
      c18
def F8_c11 (K : Nat) (v10 : (List Tapi_Message)) : Option (Bool) :=
  (F32 K v10).bind fun v14 =>
    if ((v14.length : Int) != (v10.length : Int)) = true then
      some false
    else
      F8_l16 K v10 v14 (F8_c17 K) K 0
def F8_j39 (K : Nat) (b34 : Int → (List Tapi_Message) → Option (Bool)) (v7 : Int) (v38 : (List Tapi_Message)) : Option (Bool) :=
  b34 (IntKind.i64.wrap (v7 + 1)) v38
def F8_l9 (K : Nat) (a0 : (List Tapi_Message)) (c12 : (List Tapi_Message) → Option (Bool)) : Nat → Int → (List Tapi_Message) → Option (Bool)
  | 0, _, _ => none
  | k9 + 1, v7, v8 =>
    if (decide (v7 < (a0.length : Int))) = true then
      if (0 : Int) ≤ v7 ∧ v7 < a0.length then
        (F31 K (a0.getD v7.toNat z_Tapi_Message)).bind fun v37 =>
          if (v37 == 0) = true then
            if (0 : Int) ≤ v7 ∧ v7 < a0.length then
              if v8.length + [(a0.getD v7.toNat z_Tapi_Message)].length ≤ 1073741824 then
                F8_j39 K (F8_l9 K a0 c12 k9) v7 (v8 ++ [(a0.getD v7.toNat z_Tapi_Message)])
              else none
            else none
          else
            F8_j39 K (F8_l9 K a0 c12 k9) v7 v8
      else none
    else
      c12 v8
def F8 (K : Nat) (a0 : (List Tapi_Message)) : Option (Bool) :=
  (F16 K).bind fun v2 =>
    if (!v2) = true then
      (F16 K).bind fun v4 =>
        some v4
    else
      if (decide ((a0.length : Int) > 20)) = true then
        (F16 K).bind fun v6 =>
          some v6
      else
        F8_l9 K a0 (F8_c11 K) K 0 []
theorem F8_ok (K : Nat) (a0 : (List Tapi_Message)) (r : Bool) (h : F8 K a0 = some r) : ACall P 8 ⟨[(.sl 10 (a0.map e_Tapi_Message) false)], [], (.bool r), [], []⟩ := by
  refine acall_of Try.func8 Try.results8 rfl Try.ntmps8 rfl rfl rfl ?_
  intro E Q hP hN hro hret
  obtain ⟨P', nt', w0, F0, p0, S0, β0, ro0⟩ := E
  simp only at hP hN
  subst hP hN
  dsimp only [argT]
  unfold F8 at h
  refine AWp.seq ?_
  refine AWp.region ?_
  refine AOps.cons rfl (st_assign (v := (.bool false)) rfl rfl) rfl ?_
  refine AOps.nil ?_
  refine At.next ?_
  refine AWp.seq ?_
  refine AWp.seq ?_
  refine AWp.region ?_
  have ⟨v2, hv2, h⟩ := of_bind h
  refine AOps.cons rfl (st_call0 (ar := []) (caps := []) Try.call16 (F16_ok K v2 hv2) rfl rfl trivial rfl) rfl ?_
  refine AOps.cons rfl (st_not (b := v2) rfl rfl) rfl ?_
  refine AOps.cons rfl (st_move (v := (.bool (!v2))) rfl rfl) rfl ?_
  have hif := of_if h
  refine AOps.split (fun hc => ?_) (fun hc => ?_)
  · have h := hif.1 hc
    refine AOps.consF rfl rfl rfl rfl rfl rfl rfl ?_
    refine AOps.consF rfl rfl rfl rfl rfl rfl rfl ?_
    refine AOps.consF rfl rfl rfl rfl rfl rfl rfl ?_
    refine AOps.cons rfl (st_pickT (v := (.bool true)) rfl rfl rfl) rfl ?_
    refine AOps.nil ?_
    refine At.next ?_
    refine AWp.cond (b := true) rfl (fun hc => ?_) (fun hc => ?_)
    rotate_left
    · cases hc
    refine AWp.seq ?_
    refine AWp.region ?_
    have ⟨v4, hv4, h⟩ := of_bind h
    refine AOps.cons rfl (st_call0 (ar := []) (caps := []) Try.call16 (F16_ok K v4 hv4) rfl rfl trivial rfl) rfl ?_
    refine AOps.cons rfl (st_assign (v := (.bool v4)) rfl rfl) rfl ?_
    refine AOps.nil ?_
    refine At.next ?_
    refine AWp.ret ?_
    refine At.thruR ?_
    have h := Option.some.inj h
    subst h
    refine (hret _ ?_).1
    exact ⟨[(.bool v4)], ⟨rfl, trivial⟩, rfl, trivial⟩
  · have h := hif.2 hc
    refine AOps.consT rfl rfl rfl rfl (st_move (v := (.sl 10 (a0.map e_Tapi_Message) false)) rfl rfl) rfl ?_
    refine AOps.consT rfl rfl rfl rfl (stx_len (l := a0) (enc := e_Tapi_Message) rfl s29 rfl) rfl ?_
    refine AOps.consT rfl rfl rfl rfl (st_cmp (k := .i64) (a := (a0.length : Int)) (b := 20) (c := (decide ((a0.length : Int) > 20))) rfl rfl rfl rfl) rfl ?_
    refine AOps.cons rfl (st_pickF (v := (.bool (decide ((a0.length : Int) > 20)))) rfl rfl rfl) rfl ?_
    refine AOps.nil ?_
    refine At.next ?_
    have hif := of_if h
    refine AWp.cond rfl (fun hc => ?_) (fun hc => ?_)
    · have h := hif.1 hc
      refine AWp.seq ?_
      refine AWp.region ?_
      have ⟨v6, hv6, h⟩ := of_bind h
      refine AOps.cons rfl (st_call0 (ar := []) (caps := []) Try.call16 (F16_ok K v6 hv6) rfl rfl trivial rfl) rfl ?_
      refine AOps.cons rfl (st_assign (v := (.bool v6)) rfl rfl) rfl ?_
      refine AOps.nil ?_
      refine At.next ?_
      refine AWp.ret ?_
      refine At.thruR ?_
      have h := Option.some.inj h
      subst h
      refine (hret _ ?_).1
      exact ⟨[(.bool v6)], ⟨rfl, trivial⟩, rfl, trivial⟩
    · have h := hif.2 hc
      refine AWp.skip ?_
      refine At.next ?_
      refine AWp.seq ?_
      refine AWp.region ?_
      refine AOps.cons rfl (st_assign (v := (.sl 10 [] true)) rfl rfl) rfl ?_
      refine AOps.nil ?_
      refine At.next ?_
      refine AWp.seq ?_
      refine AWp.seq ?_
      refine AWp.region ?_
      refine AOps.cons rfl (st_assign (v := (.int .i64 0)) rfl rfl) rfl ?_
      refine AOps.nil ?_
      refine At.next ?_
      refine AWp.ghost (st' := ⟨[(0, (.sl 10 (a0.map e_Tapi_Message) false)), (3, (.vs 3)), (4, (.int .i64 0))], [(3, (.vec 10 (List.map e_Tapi_Message ([] : List Tapi_Message))))]⟩) (fun a w h => (SatL.wk ⟨[(0, (.sl 10 (a0.map e_Tapi_Message) false)), (3, (.vs 3)), (4, (.int .i64 0))], [(3, (.vec 10 (List.map e_Tapi_Message ([] : List Tapi_Message))))]⟩ (ghost_own (k := 3) (m := 3) (sz := 10) rfl rfl a w (SatL.wk ⟨[(3, (.sl 10 [] true)), (0, (.sl 10 (a0.map e_Tapi_Message) false)), (4, (.int .i64 0))], []⟩ h ⟨rfl, rfl, rfl, trivial⟩ trivial)) ⟨rfl, rfl, rfl, trivial⟩ ⟨rfl, trivial⟩)) ?_
      refine AWp.weaken (st' := ⟨[(0, (.sl 10 (a0.map e_Tapi_Message) false)), (3, (.vs 3)), (4, (.int .i64 0))], [(3, (.vec 10 (List.map e_Tapi_Message [])))]⟩) ⟨rfl, rfl, rfl, trivial⟩ ⟨rfl, trivial⟩ ?_
      refine AWp.loopBlock (V := Int × (List Tapi_Message)) (X := (List Tapi_Message)) (lp := fun k v => F8_l9 K a0 (F8_c11 K) k v.1 v.2 = some r) (sh := fun v => ⟨[(0, (.sl 10 (a0.map e_Tapi_Message) false)), (3, (.vs 3)), (4, (.int .i64 v.1))], [(3, (.vec 10 (List.map e_Tapi_Message v.2)))]⟩) (x := fun v => F8_c11 K v = some r) (shx := fun v => ⟨[(3, (.vs 3))], [(3, (.vec 10 (List.map e_Tapi_Message v)))]⟩) (k := K) (v := (0, [])) h ?_ ?_
      · intro v h
        revert h
        revert v
        intro v10 h
        try dsimp only at h ⊢
        unfold F8_c11 at h
        refine At.next ?_
        refine AWp.seq ?_
        refine AWp.region ?_
        refine AOps.cons rfl (st_move (v := (.vs 3)) rfl rfl) rfl ?_
        refine AOps.ghost (st' := ⟨[(3, (.sl 10 (v10.map e_Tapi_Message) false)), (35, (.sl 10 (v10.map e_Tapi_Message) false))], []⟩) (fun a w h => (SatL.wk ⟨[(3, (.sl 10 (v10.map e_Tapi_Message) false)), (35, (.sl 10 (v10.map e_Tapi_Message) false))], []⟩ (ghost_freeze (m := 3) (sz := 10) (es := (List.map e_Tapi_Message v10)) a w (SatL.wk ⟨[(3, (.vs 3)), (35, (.vs 3))], [(3, (.vec 10 (List.map e_Tapi_Message v10)))]⟩ h ⟨rfl, rfl, trivial⟩ ⟨rfl, trivial⟩)) ⟨rfl, rfl, trivial⟩ trivial)) ?_
        have ⟨v14, hv14, h⟩ := of_bind h
        refine AOps.cons rfl (st_call0 (ar := [(.sl 10 (v10.map e_Tapi_Message) false)]) (caps := []) Try.call32 (F32_ok K v10 v14 hv14) rfl rfl ⟨rfl, trivial⟩ rfl) rfl ?_
        refine AOps.cons rfl (st_assign (v := (.sl 3 (v14.map e_Tapi_Constraint) false)) rfl rfl) rfl ?_
        refine AOps.nil ?_
        refine At.next ?_
        refine AWp.seq ?_
        refine AWp.seq ?_
        refine AWp.region ?_
        refine AOps.cons rfl (st_move (v := (.sl 3 (v14.map e_Tapi_Constraint) false)) rfl rfl) rfl ?_
        refine AOps.cons rfl (stx_len (l := v14) (enc := e_Tapi_Constraint) rfl s62 rfl) rfl ?_
        refine AOps.cons rfl (st_move (v := (.sl 10 (v10.map e_Tapi_Message) false)) rfl rfl) rfl ?_
        refine AOps.cons rfl (stx_len (l := v10) (enc := e_Tapi_Message) rfl s29 rfl) rfl ?_
        refine AOps.cons rfl (st_cmp (k := .i64) (a := (v14.length : Int)) (b := (v10.length : Int)) (c := ((v14.length : Int) != (v10.length : Int))) rfl rfl rfl rfl) rfl ?_
        refine AOps.nil ?_
        refine At.next ?_
        have hif := of_if h
        refine AWp.cond rfl (fun hc => ?_) (fun hc => ?_)
        · have h := hif.1 hc
          refine AWp.seq ?_
          refine AWp.region ?_
          refine AOps.cons rfl (st_assign (v := (.bool false)) rfl rfl) rfl ?_
          refine AOps.nil ?_
          refine At.next ?_
          refine AWp.ret ?_
          refine At.thruR ?_
          have h := Option.some.inj h
          subst h
          refine (hret _ ?_).1
          exact ⟨[(.bool false)], ⟨rfl, trivial⟩, rfl, trivial⟩
        · have h := hif.2 hc
          refine AWp.skip ?_
          refine At.next ?_
          refine AWp.seq ?_
          refine AWp.seq ?_
          refine AWp.region ?_
          refine AOps.cons rfl (st_assign (v := (.int .i64 0)) rfl rfl) rfl ?_
          refine AOps.nil ?_
          refine At.next ?_
          refine AWp.weaken (st' := ⟨[(3, (.sl 10 (v10.map e_Tapi_Message) false)), (5, (.sl 3 (v14.map e_Tapi_Constraint) false)), (6, (.int .i64 0))], []⟩) ⟨rfl, rfl, rfl, trivial⟩ trivial ?_
          refine AWp.loopBlock (V := Int) (X := Unit) (lp := fun k v => F8_l16 K v10 v14 (F8_c17 K) k v = some r) (sh := fun v => ⟨[(3, (.sl 10 (v10.map e_Tapi_Message) false)), (5, (.sl 3 (v14.map e_Tapi_Constraint) false)), (6, (.int .i64 v))], []⟩) (x := fun v => F8_c17 K = some r) (shx := fun v => ⟨[], []⟩) (k := K) (v := 0) h ?_ ?_
          · intro v h
            try dsimp only at h ⊢
            unfold F8_c17 at h
            refine At.next ?_
            refine AWp.seq ?_
            refine AWp.region ?_
            refine AOps.cons rfl (st_assign (v := (.bool true)) rfl rfl) rfl ?_
            refine AOps.nil ?_
            refine At.next ?_
            refine AWp.ret ?_
            have h := Option.some.inj h
            subst h
            refine (hret _ ?_).1
            exact ⟨[(.bool true)], ⟨rfl, trivial⟩, rfl, trivial⟩
          · intro N k16 v h IH16 J16
            revert h
            revert v
            intro v15 h
            try dsimp only at h IH16 J16 ⊢
            cases k16 with
            | zero => cases h
            | succ k16 =>
              rw [F8_l16] at h
              refine AWp.seq ?_
              refine AWp.seq ?_
              refine AWp.region ?_
              refine AOps.cons rfl (st_move (v := (.int .i64 v15)) rfl rfl) rfl ?_
              refine AOps.cons rfl (st_move (v := (.sl 10 (v10.map e_Tapi_Message) false)) rfl rfl) rfl ?_
              refine AOps.cons rfl (stx_len (l := v10) (enc := e_Tapi_Message) rfl s29 rfl) rfl ?_
              refine AOps.cons rfl (st_cmp (k := .i64) (a := v15) (b := (v10.length : Int)) (c := (decide (v15 < (v10.length : Int)))) rfl rfl rfl rfl) rfl ?_
              refine AOps.nil ?_
              refine At.next ?_
              have hif := of_if h
              refine AWp.cond rfl (fun hc => ?_) (fun hc => ?_)
              · have h := hif.1 hc
                refine AWp.skip ?_
                refine At.next ?_
                refine AWp.seq ?_
                refine AWp.block ?_
                refine AWp.seq ?_
                refine AWp.regionD mixed ?_
                refine AOpsD.cons 0 rfl (st_move (v := (.sl 10 (v10.map e_Tapi_Message) false)) rfl rfl) ?_
                refine AOpsD.cons 1 rfl (st_move (v := (.int .i64 v15)) rfl rfl) ?_
                have ⟨hg20, h⟩ := of_guard h
                refine AOpsD.cons 2 rfl (st_index (k := .i64) (l := v10) (enc := e_Tapi_Message) (z := z_Tapi_Message) (n := v15) (cs := (e_Tapi_Message (v10.getD v15.toNat z_Tapi_Message)).cells) (full := false) rfl s29 rfl rfl hg20 rfl) ?_
                refine AOpsD.cons 3 rfl (st_fieldI (cs := (e_Tapi_Message (v10.getD v15.toNat z_Tapi_Message)).cells) (ds := [(.int .i64 (v10.getD v15.toNat z_Tapi_Message).From), (.int .i64 (v10.getD v15.toNat z_Tapi_Message).To), (.int .i64 (v10.getD v15.toNat z_Tapi_Message).Sent), (.int .i64 (v10.getD v15.toNat z_Tapi_Message).Received), (.int .i64 (v10.getD v15.toNat z_Tapi_Message).Least)]) rfl f25_3 rfl rfl rfl) ?_
                refine AOpsD.cons 4 rfl (st_loadI (cs := [(.int .i64 (v10.getD v15.toNat z_Tapi_Message).From), (.int .i64 (v10.getD v15.toNat z_Tapi_Message).To), (.int .i64 (v10.getD v15.toNat z_Tapi_Message).Sent), (.int .i64 (v10.getD v15.toNat z_Tapi_Message).Received), (.int .i64 (v10.getD v15.toNat z_Tapi_Message).Least)]) (v := (.int .i64 (v10.getD v15.toNat z_Tapi_Message).From)) rfl o3 rfl rfl) ?_
                refine AOpsD.cons 5 rfl (st_move (v := (.sl 10 (v10.map e_Tapi_Message) false)) rfl rfl) ?_
                refine AOpsD.cons 6 rfl (st_move (v := (.int .i64 v15)) rfl rfl) ?_
                have ⟨hg21, h⟩ := of_guard h
                refine AOpsD.cons 7 rfl (st_index (k := .i64) (l := v10) (enc := e_Tapi_Message) (z := z_Tapi_Message) (n := v15) (cs := (e_Tapi_Message (v10.getD v15.toNat z_Tapi_Message)).cells) (full := false) rfl s29 rfl rfl hg21 rfl) ?_
                refine AOpsD.cons 8 rfl (st_fieldI (cs := (e_Tapi_Message (v10.getD v15.toNat z_Tapi_Message)).cells) (ds := [(.int .i64 (v10.getD v15.toNat z_Tapi_Message).To), (.int .i64 (v10.getD v15.toNat z_Tapi_Message).Sent), (.int .i64 (v10.getD v15.toNat z_Tapi_Message).Received), (.int .i64 (v10.getD v15.toNat z_Tapi_Message).Least)]) rfl f25_4 rfl rfl rfl) ?_
                refine AOpsD.cons 9 rfl (st_loadI (cs := [(.int .i64 (v10.getD v15.toNat z_Tapi_Message).To), (.int .i64 (v10.getD v15.toNat z_Tapi_Message).Sent), (.int .i64 (v10.getD v15.toNat z_Tapi_Message).Received), (.int .i64 (v10.getD v15.toNat z_Tapi_Message).Least)]) (v := (.int .i64 (v10.getD v15.toNat z_Tapi_Message).To)) rfl o3 rfl rfl) ?_
                refine AOpsD.cons 10 rfl (st_move (v := (.sl 10 (v10.map e_Tapi_Message) false)) rfl rfl) ?_
                refine AOpsD.cons 11 rfl (st_move (v := (.int .i64 v15)) rfl rfl) ?_
                have ⟨hg22, h⟩ := of_guard h
                refine AOpsD.cons 12 rfl (st_index (k := .i64) (l := v10) (enc := e_Tapi_Message) (z := z_Tapi_Message) (n := v15) (cs := (e_Tapi_Message (v10.getD v15.toNat z_Tapi_Message)).cells) (full := false) rfl s29 rfl rfl hg22 rfl) ?_
                refine AOpsD.cons 13 rfl (st_loadIA (cs := (e_Tapi_Message (v10.getD v15.toNat z_Tapi_Message)).cells) (vs := (e_Tapi_Message (v10.getD v15.toNat z_Tapi_Message)).cells) rfl a25 rfl rfl rfl) ?_
                have ⟨v24, hv24, h⟩ := of_bind h
                refine AOpsD.cons 14 rfl (st_call0 (ar := [(e_Tapi_Message (v10.getD v15.toNat z_Tapi_Message))]) (caps := []) Try.call33 (F33_ok K (v10.getD v15.toNat z_Tapi_Message) v24 hv24) rfl rfl ⟨rfl, trivial⟩ rfl) ?_
                refine AOpsD.cons 15 rfl (stx_build (vs := [(0, (.int .i64 (v10.getD v15.toNat z_Tapi_Message).From)), (1, (.int .i64 (v10.getD v15.toNat z_Tapi_Message).To)), (2, (.int .i64 v24))]) (cs := [(.int .i64 (v10.getD v15.toNat z_Tapi_Message).From), (.int .i64 (v10.getD v15.toNat z_Tapi_Message).To), (.int .i64 v24)]) rfl st65 ⟨rfl, rfl, rfl, rfl, rfl, rfl, trivial⟩ rfl) ?_
                refine AOpsD.cons 16 rfl (st_alloc (cs := [(.int .i64 0), (.int .i64 0), (.int .i64 0)]) rfl z65 rfl rfl rfl) ?_
                refine AOpsD.cons 17 rfl (st_storeP (cs := [(.int .i64 0), (.int .i64 0), (.int .i64 0)]) (vs := [(.int .i64 (v10.getD v15.toNat z_Tapi_Message).From), (.int .i64 (v10.getD v15.toNat z_Tapi_Message).To), (.int .i64 v24)]) (ds := [(.int .i64 (v10.getD v15.toNat z_Tapi_Message).From), (.int .i64 (v10.getD v15.toNat z_Tapi_Message).To), (.int .i64 v24)]) (v := (.ag [(.int .i64 (v10.getD v15.toNat z_Tapi_Message).From), (.int .i64 (v10.getD v15.toNat z_Tapi_Message).To), (.int .i64 v24)])) sz65 rfl rfl rfl rfl rfl rfl rfl rfl) ?_
                refine AOpsD.nil (by kernel_rfl) rfl ?_
                refine At.next ?_
                refine AWp.seq ?_
                refine AWp.join (V := Bool) (lp := fun v => F8_j26 K (F8_l16 K v10 v14 (F8_c17 K) k16) v15 v = some r) (sh := fun v => ⟨[(3, (.sl 10 (v10.map e_Tapi_Message) false)), (5, (.sl 3 (v14.map e_Tapi_Constraint) false)), (6, (.int .i64 v15)), (88, (.bool v))], []⟩) ?_ ?_
                · intro v h
                  revert h
                  revert v
                  intro v25 h
                  try dsimp only at h ⊢
                  unfold F8_j26 at h
                  refine At.next ?_
                  have hif := of_if h
                  refine AWp.cond rfl (fun hc => ?_) (fun hc => ?_)
                  · have h := hif.1 hc
                    refine AWp.seq ?_
                    refine AWp.region ?_
                    refine AOps.cons rfl (st_assign (v := (.bool false)) rfl rfl) rfl ?_
                    refine AOps.nil ?_
                    refine At.next ?_
                    refine AWp.ret ?_
                    refine At.overR ?_
                    refine At.thruR ?_
                    refine At.thruR (At.overR ?_)
                    refine At.thruR ?_
                    have h := Option.some.inj h
                    subst h
                    refine (hret _ ?_).1
                    exact ⟨[(.bool false)], ⟨rfl, trivial⟩, rfl, trivial⟩
                  · have h := hif.2 hc
                    refine AWp.skip ?_
                    refine At.end ?_
                    refine At.next ?_
                    refine AWp.region ?_
                    refine AOps.cons rfl (st_move (v := (.int .i64 v15)) rfl rfl) rfl ?_
                    refine AOps.cons rfl (st_arith (k := .i64) (a := v15) (b := 1) (c := (IntKind.i64.wrap (v15 + 1))) rfl rfl rfl rfl) rfl ?_
                    refine AOps.cons rfl (st_assign (v := (.int .i64 (IntKind.i64.wrap (v15 + 1)))) rfl rfl) rfl ?_
                    refine AOps.nil ?_
                    exact At.weaken (st' := ⟨[(3, (.sl 10 (v10.map e_Tapi_Message) false)), (5, (.sl 3 (v14.map e_Tapi_Constraint) false)), (6, (.int .i64 (IntKind.i64.wrap (v15 + 1))))], []⟩) ⟨rfl, rfl, rfl, trivial⟩ trivial (IH16 _ (IntKind.i64.wrap (v15 + 1)) (Nat.lt_succ_self _) h)
                · intro J26
                  refine AWp.regionD mixed ?_
                  refine AOpsD.cons 0 rfl (st_move (v := (.sl 10 (v10.map e_Tapi_Message) false)) rfl rfl) ?_
                  refine AOpsD.cons 1 rfl (st_move (v := (.int .i64 v15)) rfl rfl) ?_
                  have ⟨hg27, h⟩ := of_guard h
                  refine AOpsD.cons 2 rfl (st_index (k := .i64) (l := v10) (enc := e_Tapi_Message) (z := z_Tapi_Message) (n := v15) (cs := (e_Tapi_Message (v10.getD v15.toNat z_Tapi_Message)).cells) (full := false) rfl s29 rfl rfl hg27 rfl) ?_
                  refine AOpsD.cons 3 rfl (st_loadIA (cs := (e_Tapi_Message (v10.getD v15.toNat z_Tapi_Message)).cells) (vs := (e_Tapi_Message (v10.getD v15.toNat z_Tapi_Message)).cells) rfl a25 rfl rfl rfl) ?_
                  have ⟨v29, hv29, h⟩ := of_bind h
                  refine AOpsD.cons 4 rfl (st_call0 (ar := [(e_Tapi_Message (v10.getD v15.toNat z_Tapi_Message))]) (caps := []) Try.call27 (F27_ok K (v10.getD v15.toNat z_Tapi_Message) v29 hv29) rfl rfl ⟨rfl, trivial⟩ rfl) ?_
                  refine AOpsD.cons 5 rfl (st_fieldP (m := 7) (o := 0) rfl f65_2 rfl rfl) ?_
                  refine AOpsD.cons 6 rfl (st_loadP (cs := [(.int .i64 (v10.getD v15.toNat z_Tapi_Message).From), (.int .i64 (v10.getD v15.toNat z_Tapi_Message).To), (.int .i64 v24)]) (v := (.int .i64 v24)) rfl o3 rfl rfl rfl) ?_
                  refine AOpsD.cons 7 rfl (st_cmp (k := .i64) (a := v29) (b := v24) (c := (v29 != v24)) rfl rfl rfl rfl) ?_
                  refine AOpsD.cons 8 rfl (st_move (v := (.bool (v29 != v24))) rfl rfl) ?_
                  have hif := of_if h
                  refine AOpsD.split (fun hc => ?_) (fun hc => ?_)
                  · have h := hif.1 hc
                    refine AOpsD.consF 9 rfl rfl rfl rfl rfl rfl rfl ?_
                    refine AOpsD.consF 10 rfl rfl rfl rfl rfl rfl rfl ?_
                    refine AOpsD.consF 11 rfl rfl rfl rfl rfl rfl rfl ?_
                    refine AOpsD.consF 12 rfl rfl rfl rfl rfl rfl rfl ?_
                    refine AOpsD.consF 13 rfl rfl rfl rfl rfl rfl rfl ?_
                    refine AOpsD.consF 14 rfl rfl rfl rfl rfl rfl rfl ?_
                    refine AOpsD.consF 15 rfl rfl rfl rfl rfl rfl rfl ?_
                    refine AOpsD.cons 16 rfl (st_pickT (v := (.bool true)) rfl rfl rfl) ?_
                    refine AOpsD.cons 17 rfl (st_move (v := (.bool true)) rfl rfl) ?_
                    refine AOpsD.consF 18 rfl rfl rfl rfl rfl rfl rfl ?_
                    refine AOpsD.consF 19 rfl rfl rfl rfl rfl rfl rfl ?_
                    refine AOpsD.consF 20 rfl rfl rfl rfl rfl rfl rfl ?_
                    refine AOpsD.consF 21 rfl rfl rfl rfl rfl rfl rfl ?_
                    refine AOpsD.consF 22 rfl rfl rfl rfl rfl rfl rfl ?_
                    refine AOpsD.consF 23 rfl rfl rfl rfl rfl rfl rfl ?_
                    refine AOpsD.cons 24 rfl (st_pickT (v := (.bool true)) rfl rfl rfl) ?_
                    refine AOpsD.nil (by kernel_rfl) rfl ?_
                    exact At.weaken (st' := ⟨[(3, (.sl 10 (v10.map e_Tapi_Message) false)), (5, (.sl 3 (v14.map e_Tapi_Constraint) false)), (6, (.int .i64 v15)), (88, (.bool true))], []⟩) ⟨rfl, rfl, rfl, rfl, trivial⟩ trivial (J26 true h)
                  · have h := hif.2 hc
                    refine AOpsD.consT 9 rfl rfl rfl rfl (st_move (v := (.sl 10 (v10.map e_Tapi_Message) false)) rfl rfl) ?_
                    refine AOpsD.consT 10 rfl rfl rfl rfl (st_move (v := (.int .i64 v15)) rfl rfl) ?_
                    have ⟨hg30, h⟩ := of_guard h
                    refine AOpsD.consT 11 rfl rfl rfl rfl (st_index (k := .i64) (l := v10) (enc := e_Tapi_Message) (z := z_Tapi_Message) (n := v15) (cs := (e_Tapi_Message (v10.getD v15.toNat z_Tapi_Message)).cells) (full := false) rfl s29 rfl rfl hg30 rfl) ?_
                    refine AOpsD.consT 12 rfl rfl rfl rfl (st_loadIA (cs := (e_Tapi_Message (v10.getD v15.toNat z_Tapi_Message)).cells) (vs := (e_Tapi_Message (v10.getD v15.toNat z_Tapi_Message)).cells) rfl a25 rfl rfl rfl) ?_
                    have ⟨v32, hv32, h⟩ := of_bind h
                    refine AOpsD.consT 13 rfl rfl rfl rfl (st_call0 (ar := [(e_Tapi_Message (v10.getD v15.toNat z_Tapi_Message))]) (caps := []) Try.call34 (F34_ok K (v10.getD v15.toNat z_Tapi_Message) v32 hv32) rfl rfl ⟨rfl, trivial⟩ rfl) ?_
                    refine AOpsD.consT 14 rfl rfl rfl rfl (st_loadPA (cs := [(.int .i64 (v10.getD v15.toNat z_Tapi_Message).From), (.int .i64 (v10.getD v15.toNat z_Tapi_Message).To), (.int .i64 v24)]) (vs := [(.int .i64 (v10.getD v15.toNat z_Tapi_Message).From), (.int .i64 (v10.getD v15.toNat z_Tapi_Message).To), (.int .i64 v24)]) rfl a65 rfl rfl rfl rfl) ?_
                    refine AOpsD.consT 15 rfl rfl rfl rfl (st_cmpA (xs := (e_Tapi_Constraint v32).cells) (ys := [(.int .i64 (v10.getD v15.toNat z_Tapi_Message).From), (.int .i64 (v10.getD v15.toNat z_Tapi_Message).To), (.int .i64 v24)]) (b := ((v32.From == (v10.getD v15.toNat z_Tapi_Message).From) && ((v32.To == (v10.getD v15.toNat z_Tapi_Message).To) && ((v32.Bound == v24) && true)))) (c := (!((v32.From == (v10.getD v15.toNat z_Tapi_Message).From) && ((v32.To == (v10.getD v15.toNat z_Tapi_Message).To) && ((v32.Bound == v24) && true))))) rfl eq65 rfl rfl rfl rfl) ?_
                    refine AOpsD.cons 16 rfl (st_pickF (v := (.bool (!((v32.From == (v10.getD v15.toNat z_Tapi_Message).From) && ((v32.To == (v10.getD v15.toNat z_Tapi_Message).To) && ((v32.Bound == v24) && true)))))) rfl rfl rfl) ?_
                    refine AOpsD.cons 17 rfl (st_move (v := (.bool (!((v32.From == (v10.getD v15.toNat z_Tapi_Message).From) && ((v32.To == (v10.getD v15.toNat z_Tapi_Message).To) && ((v32.Bound == v24) && true)))))) rfl rfl) ?_
                    have hif := of_if h
                    refine AOpsD.split (fun hc => ?_) (fun hc => ?_)
                    · have h := hif.1 hc
                      refine AOpsD.consF 18 rfl rfl rfl rfl rfl rfl rfl ?_
                      refine AOpsD.consF 19 rfl rfl rfl rfl rfl rfl rfl ?_
                      refine AOpsD.consF 20 rfl rfl rfl rfl rfl rfl rfl ?_
                      refine AOpsD.consF 21 rfl rfl rfl rfl rfl rfl rfl ?_
                      refine AOpsD.consF 22 rfl rfl rfl rfl rfl rfl rfl ?_
                      refine AOpsD.consF 23 rfl rfl rfl rfl rfl rfl rfl ?_
                      refine AOpsD.cons 24 rfl (st_pickT (v := (.bool true)) rfl rfl rfl) ?_
                      refine AOpsD.nil (by kernel_rfl) rfl ?_
                      exact At.weaken (st' := ⟨[(3, (.sl 10 (v10.map e_Tapi_Message) false)), (5, (.sl 3 (v14.map e_Tapi_Constraint) false)), (6, (.int .i64 v15)), (88, (.bool true))], []⟩) ⟨rfl, rfl, rfl, rfl, trivial⟩ trivial (J26 true h)
                    · have h := hif.2 hc
                      refine AOpsD.consT 18 rfl rfl rfl rfl (st_move (v := (.sl 3 (v14.map e_Tapi_Constraint) false)) rfl rfl) ?_
                      refine AOpsD.consT 19 rfl rfl rfl rfl (st_move (v := (.int .i64 v15)) rfl rfl) ?_
                      have ⟨hg33, h⟩ := of_guard h
                      refine AOpsD.consT 20 rfl rfl rfl rfl (st_index (k := .i64) (l := v14) (enc := e_Tapi_Constraint) (z := z_Tapi_Constraint) (n := v15) (cs := (e_Tapi_Constraint (v14.getD v15.toNat z_Tapi_Constraint)).cells) (full := false) rfl s62 rfl rfl hg33 rfl) ?_
                      refine AOpsD.consT 21 rfl rfl rfl rfl (st_loadIA (cs := (e_Tapi_Constraint (v14.getD v15.toNat z_Tapi_Constraint)).cells) (vs := (e_Tapi_Constraint (v14.getD v15.toNat z_Tapi_Constraint)).cells) rfl a65 rfl rfl rfl) ?_
                      refine AOpsD.consT 22 rfl rfl rfl rfl (st_loadPA (cs := [(.int .i64 (v10.getD v15.toNat z_Tapi_Message).From), (.int .i64 (v10.getD v15.toNat z_Tapi_Message).To), (.int .i64 v24)]) (vs := [(.int .i64 (v10.getD v15.toNat z_Tapi_Message).From), (.int .i64 (v10.getD v15.toNat z_Tapi_Message).To), (.int .i64 v24)]) rfl a65 rfl rfl rfl rfl) ?_
                      refine AOpsD.consT 23 rfl rfl rfl rfl (st_cmpA (xs := (e_Tapi_Constraint (v14.getD v15.toNat z_Tapi_Constraint)).cells) (ys := [(.int .i64 (v10.getD v15.toNat z_Tapi_Message).From), (.int .i64 (v10.getD v15.toNat z_Tapi_Message).To), (.int .i64 v24)]) (b := (((v14.getD v15.toNat z_Tapi_Constraint).From == (v10.getD v15.toNat z_Tapi_Message).From) && (((v14.getD v15.toNat z_Tapi_Constraint).To == (v10.getD v15.toNat z_Tapi_Message).To) && (((v14.getD v15.toNat z_Tapi_Constraint).Bound == v24) && true)))) (c := (!(((v14.getD v15.toNat z_Tapi_Constraint).From == (v10.getD v15.toNat z_Tapi_Message).From) && (((v14.getD v15.toNat z_Tapi_Constraint).To == (v10.getD v15.toNat z_Tapi_Message).To) && (((v14.getD v15.toNat z_Tapi_Constraint).Bound == v24) && true))))) rfl eq65 rfl rfl rfl rfl) ?_
                      refine AOpsD.cons 24 rfl (st_pickF (v := (.bool (!(((v14.getD v15.toNat z_Tapi_Constraint).From == (v10.getD v15.toNat z_Tapi_Message).From) && (((v14.getD v15.toNat z_Tapi_Constraint).To == (v10.getD v15.toNat z_Tapi_Message).To) && (((v14.getD v15.toNat z_Tapi_Constraint).Bound == v24) && true)))))) rfl rfl rfl) ?_
                      refine AOpsD.nil (by kernel_rfl) rfl ?_
                      exact At.weaken (st' := ⟨[(3, (.sl 10 (v10.map e_Tapi_Message) false)), (5, (.sl 3 (v14.map e_Tapi_Constraint) false)), (6, (.int .i64 v15)), (88, (.bool (!(((v14.getD v15.toNat z_Tapi_Constraint).From == (v10.getD v15.toNat z_Tapi_Message).From) && (((v14.getD v15.toNat z_Tapi_Constraint).To == (v10.getD v15.toNat z_Tapi_Message).To) && (((v14.getD v15.toNat z_Tapi_Constraint).Bound == v24) && true))))))], []⟩) ⟨rfl, rfl, rfl, rfl, trivial⟩ trivial (J26 (!(((v14.getD v15.toNat z_Tapi_Constraint).From == (v10.getD v15.toNat z_Tapi_Message).From) && (((v14.getD v15.toNat z_Tapi_Constraint).To == (v10.getD v15.toNat z_Tapi_Message).To) && (((v14.getD v15.toNat z_Tapi_Constraint).Bound == v24) && true)))) h)
              · have h := hif.2 hc
                refine AWp.exit ?_
                refine At.thru ?_
                exact At.weaken (st' := ⟨[], []⟩) trivial trivial (J16 () h)
      · intro N k9 v h IH9 J9
        obtain ⟨v7, v8⟩ := v
        try dsimp only at h IH9 J9 ⊢
        cases k9 with
        | zero => cases h
        | succ k9 =>
          rw [F8_l9] at h
          refine AWp.seq ?_
          refine AWp.seq ?_
          refine AWp.region ?_
          refine AOps.cons rfl (st_move (v := (.int .i64 v7)) rfl rfl) rfl ?_
          refine AOps.cons rfl (st_move (v := (.sl 10 (a0.map e_Tapi_Message) false)) rfl rfl) rfl ?_
          refine AOps.cons rfl (stx_len (l := a0) (enc := e_Tapi_Message) rfl s29 rfl) rfl ?_
          refine AOps.cons rfl (st_cmp (k := .i64) (a := v7) (b := (a0.length : Int)) (c := (decide (v7 < (a0.length : Int)))) rfl rfl rfl rfl) rfl ?_
          refine AOps.nil ?_
          refine At.next ?_
          have hif := of_if h
          refine AWp.cond rfl (fun hc => ?_) (fun hc => ?_)
          · have h := hif.1 hc
            refine AWp.skip ?_
            refine At.next ?_
            refine AWp.seq ?_
            refine AWp.block ?_
            refine AWp.seq ?_
            refine AWp.region ?_
            refine AOps.cons rfl (st_move (v := (.sl 10 (a0.map e_Tapi_Message) false)) rfl rfl) rfl ?_
            refine AOps.cons rfl (st_move (v := (.int .i64 v7)) rfl rfl) rfl ?_
            have ⟨hg35, h⟩ := of_guard h
            refine AOps.cons rfl (st_index (k := .i64) (l := a0) (enc := e_Tapi_Message) (z := z_Tapi_Message) (n := v7) (cs := (e_Tapi_Message (a0.getD v7.toNat z_Tapi_Message)).cells) (full := false) rfl s29 rfl rfl hg35 rfl) rfl ?_
            refine AOps.cons rfl (st_loadIA (cs := (e_Tapi_Message (a0.getD v7.toNat z_Tapi_Message)).cells) (vs := (e_Tapi_Message (a0.getD v7.toNat z_Tapi_Message)).cells) rfl a25 rfl rfl rfl) rfl ?_
            have ⟨v37, hv37, h⟩ := of_bind h
            refine AOps.cons rfl (st_call0 (ar := [(e_Tapi_Message (a0.getD v7.toNat z_Tapi_Message))]) (caps := []) Try.call31 (F31_ok K (a0.getD v7.toNat z_Tapi_Message) v37 hv37) rfl rfl ⟨rfl, trivial⟩ rfl) rfl ?_
            refine AOps.cons rfl (st_cmp (k := .i64) (a := v37) (b := 0) (c := (v37 == 0)) rfl rfl rfl rfl) rfl ?_
            refine AOps.nil ?_
            refine At.next ?_
            refine AWp.join (V := (List Tapi_Message)) (lp := fun v => F8_j39 K (F8_l9 K a0 (F8_c11 K) k9) v7 v = some r) (sh := fun v => ⟨[(0, (.sl 10 (a0.map e_Tapi_Message) false)), (3, (.vs 3)), (4, (.int .i64 v7))], [(3, (.vec 10 (List.map e_Tapi_Message v)))]⟩) ?_ ?_
            · intro v h
              revert h
              revert v
              intro v38 h
              try dsimp only at h ⊢
              unfold F8_j39 at h
              refine At.end ?_
              refine At.next ?_
              refine AWp.region ?_
              refine AOps.cons rfl (st_move (v := (.int .i64 v7)) rfl rfl) rfl ?_
              refine AOps.cons rfl (st_arith (k := .i64) (a := v7) (b := 1) (c := (IntKind.i64.wrap (v7 + 1))) rfl rfl rfl rfl) rfl ?_
              refine AOps.cons rfl (st_assign (v := (.int .i64 (IntKind.i64.wrap (v7 + 1)))) rfl rfl) rfl ?_
              refine AOps.nil ?_
              exact At.weaken (st' := ⟨[(0, (.sl 10 (a0.map e_Tapi_Message) false)), (3, (.vs 3)), (4, (.int .i64 (IntKind.i64.wrap (v7 + 1))))], [(3, (.vec 10 (List.map e_Tapi_Message v38)))]⟩) ⟨rfl, rfl, rfl, trivial⟩ ⟨rfl, trivial⟩ (IH9 _ ((IntKind.i64.wrap (v7 + 1)), v38) (Nat.lt_succ_self _) h)
            · intro J39
              have hif := of_if h
              refine AWp.cond rfl (fun hc => ?_) (fun hc => ?_)
              · have h := hif.1 hc
                refine AWp.region ?_
                refine AOps.cons rfl (st_move (v := (.vs 3)) rfl rfl) rfl ?_
                refine AOps.cons rfl (st_move (v := (.sl 10 (a0.map e_Tapi_Message) false)) rfl rfl) rfl ?_
                refine AOps.cons rfl (st_move (v := (.int .i64 v7)) rfl rfl) rfl ?_
                have ⟨hg40, h⟩ := of_guard h
                refine AOps.cons rfl (st_index (k := .i64) (l := a0) (enc := e_Tapi_Message) (z := z_Tapi_Message) (n := v7) (cs := (e_Tapi_Message (a0.getD v7.toNat z_Tapi_Message)).cells) (full := false) rfl s29 rfl rfl hg40 rfl) rfl ?_
                refine AOps.cons rfl (st_loadIA (cs := (e_Tapi_Message (a0.getD v7.toNat z_Tapi_Message)).cells) (vs := (e_Tapi_Message (a0.getD v7.toNat z_Tapi_Message)).cells) rfl a25 rfl rfl rfl) rfl ?_
                refine AOps.cons rfl (stx_buildSlice (vs := [(e_Tapi_Message (a0.getD v7.toNat z_Tapi_Message))]) (enc := e_Tapi_Message) (l := [(a0.getD v7.toNat z_Tapi_Message)]) rfl el29 rfl rfl ⟨rfl, trivial⟩ rfl els_Tapi_Message rfl rfl rfl rfl) rfl ?_
                have ⟨hg41, h⟩ := of_guard h
                refine AOps.cons rfl (st_append (m := 3) (enc := e_Tapi_Message) (l := v8) (l' := [(a0.getD v7.toNat z_Tapi_Message)]) (src := (.vs 33)) (rd := [(33, (.vec 10 (List.map e_Tapi_Message [(a0.getD v7.toNat z_Tapi_Message)])))]) rfl rfl el29 rfl u29 rfl rfl rfl rfl (oneRead rfl) els_Tapi_Message hg41) rfl ?_
                refine AOps.cons rfl (st_assign (v := (.vs 3)) rfl rfl) rfl ?_
                refine AOps.nil ?_
                exact At.weaken (st' := ⟨[(0, (.sl 10 (a0.map e_Tapi_Message) false)), (3, (.vs 3)), (4, (.int .i64 v7))], [(3, (.vec 10 (List.map e_Tapi_Message (v8 ++ [(a0.getD v7.toNat z_Tapi_Message)]))))]⟩) ⟨rfl, rfl, rfl, trivial⟩ ⟨rfl, trivial⟩ (J39 (v8 ++ [(a0.getD v7.toNat z_Tapi_Message)]) h)
              · have h := hif.2 hc
                refine AWp.skip ?_
                exact At.weaken (st' := ⟨[(0, (.sl 10 (a0.map e_Tapi_Message) false)), (3, (.vs 3)), (4, (.int .i64 v7))], [(3, (.vec 10 (List.map e_Tapi_Message v8)))]⟩) ⟨rfl, rfl, rfl, trivial⟩ ⟨rfl, trivial⟩ (J39 v8 h)
          · have h := hif.2 hc
            refine AWp.exit ?_
            refine At.thru ?_
            exact At.weaken (st' := ⟨[(3, (.vs 3))], [(3, (.vec 10 (List.map e_Tapi_Message v8)))]⟩) ⟨rfl, trivial⟩ ⟨rfl, trivial⟩ (J9 v8 h)

end Go.AM.Msg
