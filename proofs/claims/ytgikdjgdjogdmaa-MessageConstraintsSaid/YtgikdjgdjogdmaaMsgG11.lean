/- What these functions compute, each with its walk: F60, F31. -/
import Derived.Test.YtgikdjgdjogdmaaMsgT
namespace Go.AM.Msg
open Go Go.AM Go.Proofs
set_option maxRecDepth 100000
set_option maxHeartbeats 2000000
/-! 60: sleuth/sleuthlaw14.inside -/
def F60 (K : Nat) (a0 : Int) (a1 : Int) (a2 : Int) : Option (Bool) :=
  if (decide (a0 ≥ a1)) = true then
    some (decide (a0 ≤ a2))
  else
    some false
theorem F60_ok (K : Nat) (a0 : Int) (a1 : Int) (a2 : Int) (r : Bool) (h : F60 K a0 a1 a2 = some r) : ACall P 60 ⟨[(.int .i64 a0), (.int .i64 a1), (.int .i64 a2)], [], (.bool r), [], []⟩ := by
  refine acall_of Try.func60 Try.results60 rfl Try.ntmps60 rfl rfl rfl ?_
  intro E Q hP hN hro hret
  obtain ⟨P', nt', w0, F0, p0, S0, β0, ro0⟩ := E
  simp only at hP hN
  subst hP hN
  dsimp only [argT]
  unfold F60 at h
  refine AWp.seq ?_
  refine AWp.region ?_
  refine AOps.cons rfl (st_assign (v := (.bool false)) rfl rfl) rfl ?_
  refine AOps.nil ?_
  refine At.next ?_
  refine AWp.seq ?_
  refine AWp.region ?_
  refine AOps.cons rfl (st_move (v := (.int .i64 a0)) rfl rfl) rfl ?_
  refine AOps.cons rfl (st_move (v := (.int .i64 a1)) rfl rfl) rfl ?_
  refine AOps.cons rfl (st_cmp (k := .i64) (a := a0) (b := a1) (c := (decide (a0 ≥ a1))) rfl rfl rfl rfl) rfl ?_
  refine AOps.cons rfl (st_move (v := (.bool (decide (a0 ≥ a1)))) rfl rfl) rfl ?_
  have hif := of_if h
  refine AOps.split (fun hc => ?_) (fun hc => ?_)
  · have h := hif.1 hc
    refine AOps.consT rfl rfl rfl rfl (st_move (v := (.int .i64 a0)) rfl rfl) rfl ?_
    refine AOps.consT rfl rfl rfl rfl (st_move (v := (.int .i64 a2)) rfl rfl) rfl ?_
    refine AOps.consT rfl rfl rfl rfl (st_cmp (k := .i64) (a := a0) (b := a2) (c := (decide (a0 ≤ a2))) rfl rfl rfl rfl) rfl ?_
    refine AOps.cons rfl (st_pickT (v := (.bool (decide (a0 ≤ a2)))) rfl rfl rfl) rfl ?_
    refine AOps.cons rfl (st_assign (v := (.bool (decide (a0 ≤ a2)))) rfl rfl) rfl ?_
    refine AOps.nil ?_
    refine At.next ?_
    refine AWp.ret ?_
    have h := Option.some.inj h
    subst h
    refine (hret _ ?_).1
    exact ⟨[(.bool (decide (a0 ≤ a2)))], ⟨rfl, trivial⟩, rfl, trivial⟩
  · have h := hif.2 hc
    refine AOps.consF rfl rfl rfl rfl rfl rfl rfl ?_
    refine AOps.consF rfl rfl rfl rfl rfl rfl rfl ?_
    refine AOps.consF rfl rfl rfl rfl rfl rfl rfl ?_
    refine AOps.cons rfl (st_pickF (v := (.bool false)) rfl rfl rfl) rfl ?_
    refine AOps.cons rfl (st_assign (v := (.bool false)) rfl rfl) rfl ?_
    refine AOps.nil ?_
    refine At.next ?_
    refine AWp.ret ?_
    have h := Option.some.inj h
    subst h
    refine (hret _ ?_).1
    exact ⟨[(.bool false)], ⟨rfl, trivial⟩, rfl, trivial⟩

/-! 31: sleuth/sleuthlaw14.check -/
def F31_c11 (K : Nat) : Option (Int) :=
  some 0
def F31_l10 (K : Nat) (a0 : Tapi_Message) (c12 : Option (Int)) : Nat → Int → Option (Int)
  | 0, _ => none
  | k10 + 1, v9 =>
    if (decide (v9 < 4)) = true then
      if (0 : Int) ≤ v9 ∧ v9 < ([a0.A.Trace, a0.A.Id, a0.B.Trace, a0.B.Id].length : Nat) then
        if v9.toNat < [a0.A.Trace, a0.A.Id, a0.B.Trace, a0.B.Id].length then
          (F60 K ([a0.A.Trace, a0.A.Id, a0.B.Trace, a0.B.Id].getD v9.toNat 0) 1 1099511627776).bind fun v17 =>
            if (!v17) = true then
              some 2
            else
              (F31_l10 K a0 c12 k10) (IntKind.i64.wrap (v9 + 1))
        else none
      else none
    else
      c12
def F31_j8 (K : Nat) (a0 : Tapi_Message) (v7 : Bool) : Option (Int) :=
  if v7 = true then
    some 32
  else
    if (a0.Kind == 4) = true then
      if (!((a0.A.Trace == 0) && ((a0.A.Id == 0) && true))) = true then
        some 3
      else
        if (!((a0.B.Trace == 0) && ((a0.B.Id == 0) && true))) = true then
          some 3
        else
          some 0
    else
      if (a0.Least != 0) = true then
        some 3
      else
        F31_l10 K a0 (F31_c11 K) K 0
def F31 (K : Nat) (a0 : Tapi_Message) : Option (Int) :=
  (F60 K a0.Kind 1 4).bind fun v2 =>
    if (!v2) = true then
      some 12
    else
      (F60 K a0.From 1 1048576).bind fun v4 =>
        if (!v4) = true then
          some 2
        else
          (F60 K a0.To 1 1048576).bind fun v6 =>
            if (!v6) = true then
              some 2
            else
              (F60 K a0.Sent (Int.negSucc 1099511627775) 1099511627776).bind fun v19 =>
                if (!v19) = true then
                  F31_j8 K a0 true
                else
                  (F60 K a0.Received (Int.negSucc 1099511627775) 1099511627776).bind fun v21 =>
                    if (!v21) = true then
                      F31_j8 K a0 true
                    else
                      (F60 K a0.Least 0 1099511627776).bind fun v23 =>
                        F31_j8 K a0 (!v23)
theorem F31_ok (K : Nat) (a0 : Tapi_Message) (r : Int) (h : F31 K a0 = some r) : ACall P 31 ⟨[(e_Tapi_Message a0)], [], (.int .i64 r), [], []⟩ := by
  refine acall_of Try.func31 Try.results31 rfl Try.ntmps31 rfl rfl rfl ?_
  intro E Q hP hN hro hret
  obtain ⟨P', nt', w0, F0, p0, S0, β0, ro0⟩ := E
  simp only at hP hN
  subst hP hN
  dsimp only [argT]
  unfold F31 at h
  refine AWp.seq ?_
  refine AWp.region ?_
  refine AOps.cons rfl (st_box (v := (e_Tapi_Message a0)) (cs := (e_Tapi_Message a0).cells) rfl rfl rfl rfl rfl) rfl ?_
  refine AOps.cons rfl (st_assign (v := (.int .i64 0)) rfl rfl) rfl ?_
  refine AOps.nil ?_
  refine At.next ?_
  refine AWp.seq ?_
  refine AWp.seq ?_
  refine AWp.region ?_
  refine AOps.cons rfl (st_fieldP (m := 1) (o := 0) rfl f25_0 rfl rfl) rfl ?_
  refine AOps.cons rfl (st_loadP (cs := (e_Tapi_Message a0).cells) (v := (.int .i64 a0.Kind)) rfl o3 rfl rfl rfl) rfl ?_
  have ⟨v2, hv2, h⟩ := of_bind h
  refine AOps.cons rfl (st_call0 (ar := [(.int .i64 a0.Kind), (.int .i64 1), (.int .i64 4)]) (caps := []) Try.call60 (F60_ok K a0.Kind 1 4 v2 hv2) rfl rfl ⟨rfl, rfl, rfl, trivial⟩ rfl) rfl ?_
  refine AOps.cons rfl (st_not (b := v2) rfl rfl) rfl ?_
  refine AOps.nil ?_
  refine At.next ?_
  have hif := of_if h
  refine AWp.cond rfl (fun hc => ?_) (fun hc => ?_)
  · have h := hif.1 hc
    refine AWp.seq ?_
    refine AWp.region ?_
    refine AOps.cons rfl (st_assign (v := (.int .i64 12)) rfl rfl) rfl ?_
    refine AOps.nil ?_
    refine At.next ?_
    refine AWp.ret ?_
    refine At.thruR ?_
    have h := Option.some.inj h
    subst h
    refine (hret _ ?_).1
    exact ⟨[(.int .i64 12)], ⟨rfl, trivial⟩, rfl, trivial⟩
  · have h := hif.2 hc
    refine AWp.skip ?_
    refine At.next ?_
    refine AWp.seq ?_
    refine AWp.seq ?_
    refine AWp.region ?_
    refine AOps.cons rfl (st_fieldP (m := 1) (o := 0) rfl f25_3 rfl rfl) rfl ?_
    refine AOps.cons rfl (st_loadP (cs := (e_Tapi_Message a0).cells) (v := (.int .i64 a0.From)) rfl o3 rfl rfl rfl) rfl ?_
    have ⟨v4, hv4, h⟩ := of_bind h
    refine AOps.cons rfl (st_call0 (ar := [(.int .i64 a0.From), (.int .i64 1), (.int .i64 1048576)]) (caps := []) Try.call60 (F60_ok K a0.From 1 1048576 v4 hv4) rfl rfl ⟨rfl, rfl, rfl, trivial⟩ rfl) rfl ?_
    refine AOps.cons rfl (st_not (b := v4) rfl rfl) rfl ?_
    refine AOps.cons rfl (st_move (v := (.bool (!v4))) rfl rfl) rfl ?_
    have hif := of_if h
    refine AOps.split (fun hc => ?_) (fun hc => ?_)
    · have h := hif.1 hc
      refine AOps.consF rfl rfl rfl rfl rfl rfl rfl ?_
      refine AOps.consF rfl rfl rfl rfl rfl rfl rfl ?_
      refine AOps.consF rfl rfl rfl rfl rfl rfl rfl ?_
      refine AOps.consF rfl rfl rfl rfl rfl rfl rfl ?_
      refine AOps.cons rfl (st_pickT (v := (.bool true)) rfl rfl rfl) rfl ?_
      refine AOps.nil ?_
      refine At.next ?_
      refine AWp.cond (b := true) rfl (fun hc => ?_) (fun hc => ?_)
      rotate_left
      · cases hc
      refine AWp.seq ?_
      refine AWp.region ?_
      refine AOps.cons rfl (st_assign (v := (.int .i64 2)) rfl rfl) rfl ?_
      refine AOps.nil ?_
      refine At.next ?_
      refine AWp.ret ?_
      refine At.thruR ?_
      have h := Option.some.inj h
      subst h
      refine (hret _ ?_).1
      exact ⟨[(.int .i64 2)], ⟨rfl, trivial⟩, rfl, trivial⟩
    · have h := hif.2 hc
      refine AOps.consT rfl rfl rfl rfl (st_fieldP (m := 1) (o := 0) rfl f25_4 rfl rfl) rfl ?_
      refine AOps.consT rfl rfl rfl rfl (st_loadP (cs := (e_Tapi_Message a0).cells) (v := (.int .i64 a0.To)) rfl o3 rfl rfl rfl) rfl ?_
      have ⟨v6, hv6, h⟩ := of_bind h
      refine AOps.consT rfl rfl rfl rfl (st_call0 (ar := [(.int .i64 a0.To), (.int .i64 1), (.int .i64 1048576)]) (caps := []) Try.call60 (F60_ok K a0.To 1 1048576 v6 hv6) rfl rfl ⟨rfl, rfl, rfl, trivial⟩ rfl) rfl ?_
      refine AOps.consT rfl rfl rfl rfl (st_not (b := v6) rfl rfl) rfl ?_
      refine AOps.cons rfl (st_pickF (v := (.bool (!v6))) rfl rfl rfl) rfl ?_
      refine AOps.nil ?_
      refine At.next ?_
      have hif := of_if h
      refine AWp.cond rfl (fun hc => ?_) (fun hc => ?_)
      · have h := hif.1 hc
        refine AWp.seq ?_
        refine AWp.region ?_
        refine AOps.cons rfl (st_assign (v := (.int .i64 2)) rfl rfl) rfl ?_
        refine AOps.nil ?_
        refine At.next ?_
        refine AWp.ret ?_
        refine At.thruR ?_
        have h := Option.some.inj h
        subst h
        refine (hret _ ?_).1
        exact ⟨[(.int .i64 2)], ⟨rfl, trivial⟩, rfl, trivial⟩
      · have h := hif.2 hc
        refine AWp.skip ?_
        refine At.next ?_
        refine AWp.seq ?_
        refine AWp.seq ?_
        refine AWp.join (V := Bool) (lp := fun v => F31_j8 K a0 v = some r) (sh := fun v => ⟨[(1, (.ptr 1 0)), (34, (.bool v))], [(1, (.box (e_Tapi_Message a0).cells))]⟩) ?_ ?_
        · intro v h
          revert h
          revert v
          intro v7 h
          try dsimp only at h ⊢
          unfold F31_j8 at h
          refine At.next ?_
          have hif := of_if h
          refine AWp.cond rfl (fun hc => ?_) (fun hc => ?_)
          · have h := hif.1 hc
            refine AWp.seq ?_
            refine AWp.region ?_
            refine AOps.cons rfl (st_assign (v := (.int .i64 32)) rfl rfl) rfl ?_
            refine AOps.nil ?_
            refine At.next ?_
            refine AWp.ret ?_
            refine At.thruR ?_
            have h := Option.some.inj h
            subst h
            refine (hret _ ?_).1
            exact ⟨[(.int .i64 32)], ⟨rfl, trivial⟩, rfl, trivial⟩
          · have h := hif.2 hc
            refine AWp.skip ?_
            refine At.next ?_
            refine AWp.seq ?_
            refine AWp.seq ?_
            refine AWp.region ?_
            refine AOps.cons rfl (st_fieldP (m := 1) (o := 0) rfl f25_0 rfl rfl) rfl ?_
            refine AOps.cons rfl (st_loadP (cs := (e_Tapi_Message a0).cells) (v := (.int .i64 a0.Kind)) rfl o3 rfl rfl rfl) rfl ?_
            refine AOps.cons rfl (st_cmp (k := .i64) (a := a0.Kind) (b := 4) (c := (a0.Kind == 4)) rfl rfl rfl rfl) rfl ?_
            refine AOps.nil ?_
            refine At.next ?_
            have hif := of_if h
            refine AWp.cond rfl (fun hc => ?_) (fun hc => ?_)
            · have h := hif.1 hc
              refine AWp.seq ?_
              refine AWp.seq ?_
              refine AWp.region ?_
              refine AOps.cons rfl (st_fieldP (m := 1) (o := 0) rfl f25_1 rfl rfl) rfl ?_
              refine AOps.cons rfl (st_loadPA (cs := (e_Tapi_Message a0).cells) (vs := (e_Tapi_Ref a0.A).cells) rfl a23 rfl rfl rfl rfl) rfl ?_
              refine AOps.cons rfl (stx_build (vs := []) (cs := [(.int .i64 0), (.int .i64 0)]) rfl st23 trivial rfl) rfl ?_
              refine AOps.cons rfl (st_cmpA (xs := (e_Tapi_Ref a0.A).cells) (ys := [(.int .i64 0), (.int .i64 0)]) (b := ((a0.A.Trace == 0) && ((a0.A.Id == 0) && true))) (c := (!((a0.A.Trace == 0) && ((a0.A.Id == 0) && true)))) rfl eq23 rfl rfl rfl rfl) rfl ?_
              refine AOps.cons rfl (st_move (v := (.bool (!((a0.A.Trace == 0) && ((a0.A.Id == 0) && true))))) rfl rfl) rfl ?_
              have hif := of_if h
              refine AOps.split (fun hc => ?_) (fun hc => ?_)
              · have h := hif.1 hc
                refine AOps.consF rfl rfl rfl rfl rfl rfl rfl ?_
                refine AOps.consF rfl rfl rfl rfl rfl rfl rfl ?_
                refine AOps.consF rfl rfl rfl rfl rfl rfl rfl ?_
                refine AOps.consF rfl rfl rfl rfl rfl rfl rfl ?_
                refine AOps.cons rfl (st_pickT (v := (.bool true)) rfl rfl rfl) rfl ?_
                refine AOps.nil ?_
                refine At.next ?_
                refine AWp.cond (b := true) rfl (fun hc => ?_) (fun hc => ?_)
                rotate_left
                · cases hc
                refine AWp.seq ?_
                refine AWp.region ?_
                refine AOps.cons rfl (st_assign (v := (.int .i64 3)) rfl rfl) rfl ?_
                refine AOps.nil ?_
                refine At.next ?_
                refine AWp.ret ?_
                refine At.thruR ?_
                refine At.thruR ?_
                have h := Option.some.inj h
                subst h
                refine (hret _ ?_).1
                exact ⟨[(.int .i64 3)], ⟨rfl, trivial⟩, rfl, trivial⟩
              · have h := hif.2 hc
                refine AOps.consT rfl rfl rfl rfl (st_fieldP (m := 1) (o := 0) rfl f25_2 rfl rfl) rfl ?_
                refine AOps.consT rfl rfl rfl rfl (st_loadPA (cs := (e_Tapi_Message a0).cells) (vs := (e_Tapi_Ref a0.B).cells) rfl a23 rfl rfl rfl rfl) rfl ?_
                refine AOps.consT rfl rfl rfl rfl (stx_build (vs := []) (cs := [(.int .i64 0), (.int .i64 0)]) rfl st23 trivial rfl) rfl ?_
                refine AOps.consT rfl rfl rfl rfl (st_cmpA (xs := (e_Tapi_Ref a0.B).cells) (ys := [(.int .i64 0), (.int .i64 0)]) (b := ((a0.B.Trace == 0) && ((a0.B.Id == 0) && true))) (c := (!((a0.B.Trace == 0) && ((a0.B.Id == 0) && true)))) rfl eq23 rfl rfl rfl rfl) rfl ?_
                refine AOps.cons rfl (st_pickF (v := (.bool (!((a0.B.Trace == 0) && ((a0.B.Id == 0) && true))))) rfl rfl rfl) rfl ?_
                refine AOps.nil ?_
                refine At.next ?_
                have hif := of_if h
                refine AWp.cond rfl (fun hc => ?_) (fun hc => ?_)
                · have h := hif.1 hc
                  refine AWp.seq ?_
                  refine AWp.region ?_
                  refine AOps.cons rfl (st_assign (v := (.int .i64 3)) rfl rfl) rfl ?_
                  refine AOps.nil ?_
                  refine At.next ?_
                  refine AWp.ret ?_
                  refine At.thruR ?_
                  refine At.thruR ?_
                  have h := Option.some.inj h
                  subst h
                  refine (hret _ ?_).1
                  exact ⟨[(.int .i64 3)], ⟨rfl, trivial⟩, rfl, trivial⟩
                · have h := hif.2 hc
                  refine AWp.skip ?_
                  refine At.next ?_
                  refine AWp.seq ?_
                  refine AWp.region ?_
                  refine AOps.cons rfl (st_assign (v := (.int .i64 0)) rfl rfl) rfl ?_
                  refine AOps.nil ?_
                  refine At.next ?_
                  refine AWp.ret ?_
                  refine At.thruR ?_
                  have h := Option.some.inj h
                  subst h
                  refine (hret _ ?_).1
                  exact ⟨[(.int .i64 0)], ⟨rfl, trivial⟩, rfl, trivial⟩
            · have h := hif.2 hc
              refine AWp.skip ?_
              refine At.next ?_
              refine AWp.seq ?_
              refine AWp.seq ?_
              refine AWp.region ?_
              refine AOps.cons rfl (st_fieldP (m := 1) (o := 0) rfl f25_7 rfl rfl) rfl ?_
              refine AOps.cons rfl (st_loadP (cs := (e_Tapi_Message a0).cells) (v := (.int .i64 a0.Least)) rfl o3 rfl rfl rfl) rfl ?_
              refine AOps.cons rfl (st_cmp (k := .i64) (a := a0.Least) (b := 0) (c := (a0.Least != 0)) rfl rfl rfl rfl) rfl ?_
              refine AOps.nil ?_
              refine At.next ?_
              have hif := of_if h
              refine AWp.cond rfl (fun hc => ?_) (fun hc => ?_)
              · have h := hif.1 hc
                refine AWp.seq ?_
                refine AWp.region ?_
                refine AOps.cons rfl (st_assign (v := (.int .i64 3)) rfl rfl) rfl ?_
                refine AOps.nil ?_
                refine At.next ?_
                refine AWp.ret ?_
                refine At.thruR ?_
                have h := Option.some.inj h
                subst h
                refine (hret _ ?_).1
                exact ⟨[(.int .i64 3)], ⟨rfl, trivial⟩, rfl, trivial⟩
              · have h := hif.2 hc
                refine AWp.skip ?_
                refine At.next ?_
                refine AWp.seq ?_
                refine AWp.region ?_
                refine AOps.cons rfl (st_fieldP (m := 1) (o := 0) rfl f25_1 rfl rfl) rfl ?_
                refine AOps.cons rfl (st_fieldP (m := 1) (o := 1) rfl f23_0 rfl rfl) rfl ?_
                refine AOps.cons rfl (st_loadP (cs := (e_Tapi_Message a0).cells) (v := (.int .i64 a0.A.Trace)) rfl o3 rfl rfl rfl) rfl ?_
                refine AOps.cons rfl (st_fieldP (m := 1) (o := 0) rfl f25_1 rfl rfl) rfl ?_
                refine AOps.cons rfl (st_fieldP (m := 1) (o := 1) rfl f23_1 rfl rfl) rfl ?_
                refine AOps.cons rfl (st_loadP (cs := (e_Tapi_Message a0).cells) (v := (.int .i64 a0.A.Id)) rfl o3 rfl rfl rfl) rfl ?_
                refine AOps.cons rfl (st_fieldP (m := 1) (o := 0) rfl f25_2 rfl rfl) rfl ?_
                refine AOps.cons rfl (st_fieldP (m := 1) (o := 3) rfl f23_0 rfl rfl) rfl ?_
                refine AOps.cons rfl (st_loadP (cs := (e_Tapi_Message a0).cells) (v := (.int .i64 a0.B.Trace)) rfl o3 rfl rfl rfl) rfl ?_
                refine AOps.cons rfl (st_fieldP (m := 1) (o := 0) rfl f25_2 rfl rfl) rfl ?_
                refine AOps.cons rfl (st_fieldP (m := 1) (o := 3) rfl f23_1 rfl rfl) rfl ?_
                refine AOps.cons rfl (st_loadP (cs := (e_Tapi_Message a0).cells) (v := (.int .i64 a0.B.Id)) rfl o3 rfl rfl rfl) rfl ?_
                refine AOps.cons rfl (stx_buildSlice (vs := [(.int .i64 a0.A.Trace), (.int .i64 a0.A.Id), (.int .i64 a0.B.Trace), (.int .i64 a0.B.Id)]) (enc := e_i64) (l := [a0.A.Trace, a0.A.Id, a0.B.Trace, a0.B.Id]) rfl el87 rfl rfl ⟨rfl, rfl, rfl, rfl, trivial⟩ rfl els_i64 rfl rfl rfl rfl) rfl ?_
                refine AOps.cons rfl (st_assign (v := (.vs 63)) rfl rfl) rfl ?_
                refine AOps.nil ?_
                refine At.next ?_
                refine AWp.seq ?_
                refine AWp.seq ?_
                refine AWp.region ?_
                refine AOps.cons rfl (st_assign (v := (.int .i64 0)) rfl rfl) rfl ?_
                refine AOps.nil ?_
                refine At.next ?_
                refine AWp.ghost (st' := ⟨[(3, (.vs 3)), (4, (.int .i64 0))], [(3, (.vec 1 (List.map e_i64 [a0.A.Trace, a0.A.Id, a0.B.Trace, a0.B.Id])))]⟩) (fun a w h => (SatL.wk ⟨[(3, (.vs 3)), (4, (.int .i64 0))], [(3, (.vec 1 (List.map e_i64 [a0.A.Trace, a0.A.Id, a0.B.Trace, a0.B.Id])))]⟩ (ghost_sw (a := 63) (b := 3) rfl rfl a w (SatL.wk ⟨[(3, (.vs 63)), (4, (.int .i64 0))], [(63, (.vec 1 (List.map e_i64 [a0.A.Trace, a0.A.Id, a0.B.Trace, a0.B.Id])))]⟩ h ⟨rfl, rfl, trivial⟩ ⟨rfl, trivial⟩)) ⟨rfl, rfl, trivial⟩ ⟨rfl, trivial⟩)) ?_
                refine AWp.weaken (st' := ⟨[(3, (.vs 3)), (4, (.int .i64 0))], [(3, (.vec 1 (List.map e_i64 [a0.A.Trace, a0.A.Id, a0.B.Trace, a0.B.Id])))]⟩) ⟨rfl, rfl, trivial⟩ ⟨rfl, trivial⟩ ?_
                refine AWp.loopBlock (V := Int) (X := Unit) (lp := fun k v => F31_l10 K a0 (F31_c11 K) k v = some r) (sh := fun v => ⟨[(3, (.vs 3)), (4, (.int .i64 v))], [(3, (.vec 1 (List.map e_i64 [a0.A.Trace, a0.A.Id, a0.B.Trace, a0.B.Id])))]⟩) (x := fun v => F31_c11 K = some r) (shx := fun v => ⟨[], []⟩) (k := K) (v := 0) h ?_ ?_
                · intro v h
                  try dsimp only at h ⊢
                  unfold F31_c11 at h
                  refine At.next ?_
                  refine AWp.seq ?_
                  refine AWp.region ?_
                  refine AOps.cons rfl (st_assign (v := (.int .i64 0)) rfl rfl) rfl ?_
                  refine AOps.nil ?_
                  refine At.next ?_
                  refine AWp.ret ?_
                  have h := Option.some.inj h
                  subst h
                  refine (hret _ ?_).1
                  exact ⟨[(.int .i64 0)], ⟨rfl, trivial⟩, rfl, trivial⟩
                · intro N k10 v h IH10 J10
                  revert h
                  revert v
                  intro v9 h
                  try dsimp only at h IH10 J10 ⊢
                  cases k10 with
                  | zero => cases h
                  | succ k10 =>
                    rw [F31_l10] at h
                    refine AWp.seq ?_
                    refine AWp.seq ?_
                    refine AWp.region ?_
                    refine AOps.cons rfl (st_move (v := (.int .i64 v9)) rfl rfl) rfl ?_
                    refine AOps.cons rfl (st_cmp (k := .i64) (a := v9) (b := 4) (c := (decide (v9 < 4))) rfl rfl rfl rfl) rfl ?_
                    refine AOps.nil ?_
                    refine At.next ?_
                    have hif := of_if h
                    refine AWp.cond rfl (fun hc => ?_) (fun hc => ?_)
                    · have h := hif.1 hc
                      refine AWp.skip ?_
                      refine At.next ?_
                      refine AWp.seq ?_
                      refine AWp.block ?_
                      refine AWp.seq ?_
                      refine AWp.region ?_
                      refine AOps.cons rfl (st_move (v := (.vs 3)) rfl rfl) rfl ?_
                      refine AOps.cons rfl (st_move (v := (.int .i64 v9)) rfl rfl) rfl ?_
                      have ⟨hg14, h⟩ := of_guard h
                      refine AOps.cons rfl (st_indexV (k := .i64) (v := (.vs 3)) (n := 3) (off := 0) (len := ([a0.A.Trace, a0.A.Id, a0.B.Trace, a0.B.Id].length)) (es := (List.map e_i64 [a0.A.Trace, a0.A.Id, a0.B.Trace, a0.B.Id])) (j := v9) (m := v9.toNat) rfl s87 rfl rfl (vecR_map _ _ _) rfl hg14 (Nat.zero_add _)) rfl ?_
                      have ⟨hg15, h⟩ := of_guard h
                      refine AOps.cons rfl (st_loadV (l := [a0.A.Trace, a0.A.Id, a0.B.Trace, a0.B.Id]) (enc := e_i64) (z := 0) (v := (.int .i64 ([a0.A.Trace, a0.A.Id, a0.B.Trace, a0.B.Id].getD v9.toNat 0))) rfl o3 rfl rfl hg15 rfl) rfl ?_
                      have ⟨v17, hv17, h⟩ := of_bind h
                      refine AOps.cons rfl (st_call0 (ar := [(.int .i64 ([a0.A.Trace, a0.A.Id, a0.B.Trace, a0.B.Id].getD v9.toNat 0)), (.int .i64 1), (.int .i64 1099511627776)]) (caps := []) Try.call60 (F60_ok K ([a0.A.Trace, a0.A.Id, a0.B.Trace, a0.B.Id].getD v9.toNat 0) 1 1099511627776 v17 hv17) rfl rfl ⟨rfl, rfl, rfl, trivial⟩ rfl) rfl ?_
                      refine AOps.cons rfl (st_not (b := v17) rfl rfl) rfl ?_
                      refine AOps.nil ?_
                      refine At.next ?_
                      have hif := of_if h
                      refine AWp.cond rfl (fun hc => ?_) (fun hc => ?_)
                      · have h := hif.1 hc
                        refine AWp.seq ?_
                        refine AWp.region ?_
                        refine AOps.cons rfl (st_assign (v := (.int .i64 2)) rfl rfl) rfl ?_
                        refine AOps.nil ?_
                        refine At.next ?_
                        refine AWp.ret ?_
                        refine At.overR ?_
                        refine At.thruR ?_
                        refine At.thruR (At.overR ?_)
                        refine At.thruR ?_
                        have h := Option.some.inj h
                        subst h
                        refine (hret _ ?_).1
                        exact ⟨[(.int .i64 2)], ⟨rfl, trivial⟩, rfl, trivial⟩
                      · have h := hif.2 hc
                        refine AWp.skip ?_
                        refine At.end ?_
                        refine At.next ?_
                        refine AWp.region ?_
                        refine AOps.cons rfl (st_move (v := (.int .i64 v9)) rfl rfl) rfl ?_
                        refine AOps.cons rfl (st_arith (k := .i64) (a := v9) (b := 1) (c := (IntKind.i64.wrap (v9 + 1))) rfl rfl rfl rfl) rfl ?_
                        refine AOps.cons rfl (st_assign (v := (.int .i64 (IntKind.i64.wrap (v9 + 1)))) rfl rfl) rfl ?_
                        refine AOps.nil ?_
                        exact At.weaken (st' := ⟨[(3, (.vs 3)), (4, (.int .i64 (IntKind.i64.wrap (v9 + 1))))], [(3, (.vec 1 (List.map e_i64 [a0.A.Trace, a0.A.Id, a0.B.Trace, a0.B.Id])))]⟩) ⟨rfl, rfl, trivial⟩ ⟨rfl, trivial⟩ (IH10 _ (IntKind.i64.wrap (v9 + 1)) (Nat.lt_succ_self _) h)
                    · have h := hif.2 hc
                      refine AWp.exit ?_
                      refine At.thru ?_
                      exact At.weaken (st' := ⟨[], []⟩) trivial trivial (J10 () h)
        · intro J8
          refine AWp.region ?_
          refine AOps.cons rfl (st_fieldP (m := 1) (o := 0) rfl f25_5 rfl rfl) rfl ?_
          refine AOps.cons rfl (st_loadP (cs := (e_Tapi_Message a0).cells) (v := (.int .i64 a0.Sent)) rfl o3 rfl rfl rfl) rfl ?_
          have ⟨v19, hv19, h⟩ := of_bind h
          refine AOps.cons rfl (st_call0 (ar := [(.int .i64 a0.Sent), (.int .i64 (Int.negSucc 1099511627775)), (.int .i64 1099511627776)]) (caps := []) Try.call60 (F60_ok K a0.Sent (Int.negSucc 1099511627775) 1099511627776 v19 hv19) rfl rfl ⟨rfl, rfl, rfl, trivial⟩ rfl) rfl ?_
          refine AOps.cons rfl (st_not (b := v19) rfl rfl) rfl ?_
          refine AOps.cons rfl (st_move (v := (.bool (!v19))) rfl rfl) rfl ?_
          have hif := of_if h
          refine AOps.split (fun hc => ?_) (fun hc => ?_)
          · have h := hif.1 hc
            refine AOps.consF rfl rfl rfl rfl rfl rfl rfl ?_
            refine AOps.consF rfl rfl rfl rfl rfl rfl rfl ?_
            refine AOps.consF rfl rfl rfl rfl rfl rfl rfl ?_
            refine AOps.consF rfl rfl rfl rfl rfl rfl rfl ?_
            refine AOps.cons rfl (st_pickT (v := (.bool true)) rfl rfl rfl) rfl ?_
            refine AOps.cons rfl (st_move (v := (.bool true)) rfl rfl) rfl ?_
            refine AOps.consF rfl rfl rfl rfl rfl rfl rfl ?_
            refine AOps.consF rfl rfl rfl rfl rfl rfl rfl ?_
            refine AOps.consF rfl rfl rfl rfl rfl rfl rfl ?_
            refine AOps.consF rfl rfl rfl rfl rfl rfl rfl ?_
            refine AOps.cons rfl (st_pickT (v := (.bool true)) rfl rfl rfl) rfl ?_
            refine AOps.nil ?_
            exact At.weaken (st' := ⟨[(1, (.ptr 1 0)), (34, (.bool true))], [(1, (.box (e_Tapi_Message a0).cells))]⟩) ⟨rfl, rfl, trivial⟩ ⟨rfl, trivial⟩ (J8 true h)
          · have h := hif.2 hc
            refine AOps.consT rfl rfl rfl rfl (st_fieldP (m := 1) (o := 0) rfl f25_6 rfl rfl) rfl ?_
            refine AOps.consT rfl rfl rfl rfl (st_loadP (cs := (e_Tapi_Message a0).cells) (v := (.int .i64 a0.Received)) rfl o3 rfl rfl rfl) rfl ?_
            have ⟨v21, hv21, h⟩ := of_bind h
            refine AOps.consT rfl rfl rfl rfl (st_call0 (ar := [(.int .i64 a0.Received), (.int .i64 (Int.negSucc 1099511627775)), (.int .i64 1099511627776)]) (caps := []) Try.call60 (F60_ok K a0.Received (Int.negSucc 1099511627775) 1099511627776 v21 hv21) rfl rfl ⟨rfl, rfl, rfl, trivial⟩ rfl) rfl ?_
            refine AOps.consT rfl rfl rfl rfl (st_not (b := v21) rfl rfl) rfl ?_
            refine AOps.cons rfl (st_pickF (v := (.bool (!v21))) rfl rfl rfl) rfl ?_
            refine AOps.cons rfl (st_move (v := (.bool (!v21))) rfl rfl) rfl ?_
            have hif := of_if h
            refine AOps.split (fun hc => ?_) (fun hc => ?_)
            · have h := hif.1 hc
              refine AOps.consF rfl rfl rfl rfl rfl rfl rfl ?_
              refine AOps.consF rfl rfl rfl rfl rfl rfl rfl ?_
              refine AOps.consF rfl rfl rfl rfl rfl rfl rfl ?_
              refine AOps.consF rfl rfl rfl rfl rfl rfl rfl ?_
              refine AOps.cons rfl (st_pickT (v := (.bool true)) rfl rfl rfl) rfl ?_
              refine AOps.nil ?_
              exact At.weaken (st' := ⟨[(1, (.ptr 1 0)), (34, (.bool true))], [(1, (.box (e_Tapi_Message a0).cells))]⟩) ⟨rfl, rfl, trivial⟩ ⟨rfl, trivial⟩ (J8 true h)
            · have h := hif.2 hc
              refine AOps.consT rfl rfl rfl rfl (st_fieldP (m := 1) (o := 0) rfl f25_7 rfl rfl) rfl ?_
              refine AOps.consT rfl rfl rfl rfl (st_loadP (cs := (e_Tapi_Message a0).cells) (v := (.int .i64 a0.Least)) rfl o3 rfl rfl rfl) rfl ?_
              have ⟨v23, hv23, h⟩ := of_bind h
              refine AOps.consT rfl rfl rfl rfl (st_call0 (ar := [(.int .i64 a0.Least), (.int .i64 0), (.int .i64 1099511627776)]) (caps := []) Try.call60 (F60_ok K a0.Least 0 1099511627776 v23 hv23) rfl rfl ⟨rfl, rfl, rfl, trivial⟩ rfl) rfl ?_
              refine AOps.consT rfl rfl rfl rfl (st_not (b := v23) rfl rfl) rfl ?_
              refine AOps.cons rfl (st_pickF (v := (.bool (!v23))) rfl rfl rfl) rfl ?_
              refine AOps.nil ?_
              exact At.weaken (st' := ⟨[(1, (.ptr 1 0)), (34, (.bool (!v23)))], [(1, (.box (e_Tapi_Message a0).cells))]⟩) ⟨rfl, rfl, trivial⟩ ⟨rfl, trivial⟩ (J8 (!v23) h)

end Go.AM.Msg
