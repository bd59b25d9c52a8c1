/- What these functions compute, each with its walk: F4. -/
import Derived.Test.YtgikdjgdjogdmaaMsgT
import Derived.Test.YtgikdjgdjogdmaaMsgG0
import Derived.Test.YtgikdjgdjogdmaaMsgG1
import Derived.Test.YtgikdjgdjogdmaaMsgG3
import Derived.Test.YtgikdjgdjogdmaaMsgG4
namespace Go.AM.Msg
open Go Go.AM Go.Proofs
set_option maxRecDepth 100000
set_option maxHeartbeats 2000000
/-! 4: sleuth/sleuthlaw14.MessageSets -/
def F4 (K : Nat) (a0 : (List Tapi_Message)) : Option (Bool) :=
  (F16 K).bind fun v2 =>
    if (!v2) = true then
      (F16 K).bind fun v4 =>
        some v4
    else
      if (decide ((a0.length : Int) > 20)) = true then
        (F16 K).bind fun v6 =>
          some v6
      else
        (F19 K a0).bind fun v8 =>
          (F20 K a0).bind fun v10 =>
            (F18 K v8 v10).bind fun v12 =>
              if v12 = true then
                (F19 K a0).bind fun v14 =>
                  (F19 K v14).bind fun v16 =>
                    (F20 K a0).bind fun v18 =>
                      (F18 K v16 v18).bind fun v20 =>
                        some v20
              else
                some false
theorem F4_ok (K : Nat) (a0 : (List Tapi_Message)) (r : Bool) (h : F4 K a0 = some r) : ACall P 4 ⟨[(.sl 10 (a0.map e_Tapi_Message) false)], [], (.bool r), [], []⟩ := by
  refine acall_of Try.func4 Try.results4 rfl Try.ntmps4 rfl rfl rfl ?_
  intro E Q hP hN hro hret
  obtain ⟨P', nt', w0, F0, p0, S0, β0, ro0⟩ := E
  simp only at hP hN
  subst hP hN
  dsimp only [argT]
  unfold F4 at h
  refine AWp.seq ?_
  refine AWp.region ?_
  refine AOps.cons rfl (st_assign (v := (.bool false)) rfl rfl) rfl ?_
  refine AOps.nil ?_
  refine At.next ?_
  refine AWp.seq ?_
  refine AWp.seq ?_
  refine AWp.region ?_
  have ⟨v2, hv2, h⟩ := of_bind h
  refine AOps.cons rfl (st_call0 (ar := []) (caps := []) Try.call16 (F16_ok K v2 hv2) rfl rfl trivial rfl) rfl ?_
  refine AOps.cons rfl (st_not (b := v2) rfl rfl) rfl ?_
  refine AOps.cons rfl (st_move (v := (.bool (!v2))) rfl rfl) rfl ?_
  have hif := of_if h
  refine AOps.split (fun hc => ?_) (fun hc => ?_)
  · have h := hif.1 hc
    refine AOps.consF rfl rfl rfl rfl rfl rfl rfl ?_
    refine AOps.consF rfl rfl rfl rfl rfl rfl rfl ?_
    refine AOps.consF rfl rfl rfl rfl rfl rfl rfl ?_
    refine AOps.cons rfl (st_pickT (v := (.bool true)) rfl rfl rfl) rfl ?_
    refine AOps.nil ?_
    refine At.next ?_
    refine AWp.cond (b := true) rfl (fun hc => ?_) (fun hc => ?_)
    rotate_left
    · cases hc
    refine AWp.seq ?_
    refine AWp.region ?_
    have ⟨v4, hv4, h⟩ := of_bind h
    refine AOps.cons rfl (st_call0 (ar := []) (caps := []) Try.call16 (F16_ok K v4 hv4) rfl rfl trivial rfl) rfl ?_
    refine AOps.cons rfl (st_assign (v := (.bool v4)) rfl rfl) rfl ?_
    refine AOps.nil ?_
    refine At.next ?_
    refine AWp.ret ?_
    refine At.thruR ?_
    have h := Option.some.inj h
    subst h
    refine (hret _ ?_).1
    exact ⟨[(.bool v4)], ⟨rfl, trivial⟩, rfl, trivial⟩
  · have h := hif.2 hc
    refine AOps.consT rfl rfl rfl rfl (st_move (v := (.sl 10 (a0.map e_Tapi_Message) false)) rfl rfl) rfl ?_
    refine AOps.consT rfl rfl rfl rfl (stx_len (l := a0) (enc := e_Tapi_Message) rfl s29 rfl) rfl ?_
    refine AOps.consT rfl rfl rfl rfl (st_cmp (k := .i64) (a := (a0.length : Int)) (b := 20) (c := (decide ((a0.length : Int) > 20))) rfl rfl rfl rfl) rfl ?_
    refine AOps.cons rfl (st_pickF (v := (.bool (decide ((a0.length : Int) > 20)))) rfl rfl rfl) rfl ?_
    refine AOps.nil ?_
    refine At.next ?_
    have hif := of_if h
    refine AWp.cond rfl (fun hc => ?_) (fun hc => ?_)
    · have h := hif.1 hc
      refine AWp.seq ?_
      refine AWp.region ?_
      have ⟨v6, hv6, h⟩ := of_bind h
      refine AOps.cons rfl (st_call0 (ar := []) (caps := []) Try.call16 (F16_ok K v6 hv6) rfl rfl trivial rfl) rfl ?_
      refine AOps.cons rfl (st_assign (v := (.bool v6)) rfl rfl) rfl ?_
      refine AOps.nil ?_
      refine At.next ?_
      refine AWp.ret ?_
      refine At.thruR ?_
      have h := Option.some.inj h
      subst h
      refine (hret _ ?_).1
      exact ⟨[(.bool v6)], ⟨rfl, trivial⟩, rfl, trivial⟩
    · have h := hif.2 hc
      refine AWp.skip ?_
      refine At.next ?_
      refine AWp.seq ?_
      refine AWp.region ?_
      refine AOps.cons rfl (st_move (v := (.sl 10 (a0.map e_Tapi_Message) false)) rfl rfl) rfl ?_
      have ⟨v8, hv8, h⟩ := of_bind h
      refine AOps.cons rfl (st_call0 (ar := [(.sl 10 (a0.map e_Tapi_Message) false)]) (caps := []) Try.call19 (F19_ok K a0 v8 hv8) rfl rfl ⟨rfl, trivial⟩ rfl) rfl ?_
      refine AOps.cons rfl (st_move (v := (.sl 10 (a0.map e_Tapi_Message) false)) rfl rfl) rfl ?_
      have ⟨v10, hv10, h⟩ := of_bind h
      refine AOps.cons rfl (st_call0 (ar := [(.sl 10 (a0.map e_Tapi_Message) false)]) (caps := []) Try.call20 (F20_ok K a0 v10 hv10) rfl rfl ⟨rfl, trivial⟩ rfl) rfl ?_
      have ⟨v12, hv12, h⟩ := of_bind h
      refine AOps.cons rfl (st_call0 (ar := [(.sl 10 (v8.map e_Tapi_Message) false), (.sl 10 (v10.map e_Tapi_Message) false)]) (caps := []) Try.call18 (F18_ok K v8 v10 v12 hv12) rfl rfl ⟨rfl, rfl, trivial⟩ rfl) rfl ?_
      refine AOps.cons rfl (st_move (v := (.bool v12)) rfl rfl) rfl ?_
      have hif := of_if h
      refine AOps.split (fun hc => ?_) (fun hc => ?_)
      · have h := hif.1 hc
        refine AOps.consT rfl rfl rfl rfl (st_move (v := (.sl 10 (a0.map e_Tapi_Message) false)) rfl rfl) rfl ?_
        have ⟨v14, hv14, h⟩ := of_bind h
        refine AOps.consT rfl rfl rfl rfl (st_call0 (ar := [(.sl 10 (a0.map e_Tapi_Message) false)]) (caps := []) Try.call19 (F19_ok K a0 v14 hv14) rfl rfl ⟨rfl, trivial⟩ rfl) rfl ?_
        have ⟨v16, hv16, h⟩ := of_bind h
        refine AOps.consT rfl rfl rfl rfl (st_call0 (ar := [(.sl 10 (v14.map e_Tapi_Message) false)]) (caps := []) Try.call19 (F19_ok K v14 v16 hv16) rfl rfl ⟨rfl, trivial⟩ rfl) rfl ?_
        refine AOps.consT rfl rfl rfl rfl (st_move (v := (.sl 10 (a0.map e_Tapi_Message) false)) rfl rfl) rfl ?_
        have ⟨v18, hv18, h⟩ := of_bind h
        refine AOps.consT rfl rfl rfl rfl (st_call0 (ar := [(.sl 10 (a0.map e_Tapi_Message) false)]) (caps := []) Try.call20 (F20_ok K a0 v18 hv18) rfl rfl ⟨rfl, trivial⟩ rfl) rfl ?_
        have ⟨v20, hv20, h⟩ := of_bind h
        refine AOps.consT rfl rfl rfl rfl (st_call0 (ar := [(.sl 10 (v16.map e_Tapi_Message) false), (.sl 10 (v18.map e_Tapi_Message) false)]) (caps := []) Try.call18 (F18_ok K v16 v18 v20 hv20) rfl rfl ⟨rfl, rfl, trivial⟩ rfl) rfl ?_
        refine AOps.cons rfl (st_pickT (v := (.bool v20)) rfl rfl rfl) rfl ?_
        refine AOps.cons rfl (st_assign (v := (.bool v20)) rfl rfl) rfl ?_
        refine AOps.nil ?_
        refine At.next ?_
        refine AWp.ret ?_
        have h := Option.some.inj h
        subst h
        refine (hret _ ?_).1
        exact ⟨[(.bool v20)], ⟨rfl, trivial⟩, rfl, trivial⟩
      · have h := hif.2 hc
        refine AOps.consF rfl rfl rfl rfl rfl rfl rfl ?_
        refine AOps.consF rfl rfl rfl rfl rfl rfl rfl ?_
        refine AOps.consF rfl rfl rfl rfl rfl rfl rfl ?_
        refine AOps.consF rfl rfl rfl rfl rfl rfl rfl ?_
        refine AOps.consF rfl rfl rfl rfl rfl rfl rfl ?_
        refine AOps.consF rfl rfl rfl rfl rfl rfl rfl ?_
        refine AOps.cons rfl (st_pickF (v := (.bool false)) rfl rfl rfl) rfl ?_
        refine AOps.cons rfl (st_assign (v := (.bool false)) rfl rfl) rfl ?_
        refine AOps.nil ?_
        refine At.next ?_
        refine AWp.ret ?_
        have h := Option.some.inj h
        subst h
        refine (hret _ ?_).1
        exact ⟨[(.bool false)], ⟨rfl, trivial⟩, rfl, trivial⟩

end Go.AM.Msg
