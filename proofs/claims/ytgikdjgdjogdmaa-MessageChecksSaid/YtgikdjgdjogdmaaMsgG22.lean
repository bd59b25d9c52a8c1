/- What these functions compute, each with its walk: F12. -/
import Derived.Test.YtgikdjgdjogdmaaMsgT
import Derived.Test.YtgikdjgdjogdmaaMsgG1
import Derived.Test.YtgikdjgdjogdmaaMsgG11
import Derived.Test.YtgikdjgdjogdmaaMsgG13
namespace Go.AM.Msg
open Go Go.AM Go.Proofs
set_option maxRecDepth 100000
set_option maxHeartbeats 2000000
/-! 12: sleuth/sleuthlaw14.MessageChecks -/
def F12 (K : Nat) (a0 : Tapi_Message) : Option (Bool) :=
  (F16 K).bind fun v2 =>
    if v2 = true then
      (F42 K a0).bind fun v4 =>
        (F31 K a0).bind fun v6 =>
          some (v4 == v6)
    else
      some false
theorem F12_ok (K : Nat) (a0 : Tapi_Message) (r : Bool) (h : F12 K a0 = some r) : ACall P 12 ⟨[(e_Tapi_Message a0)], [], (.bool r), [], []⟩ := by
  refine acall_of Try.func12 Try.results12 rfl Try.ntmps12 rfl rfl rfl ?_
  intro E Q hP hN hro hret
  obtain ⟨P', nt', w0, F0, p0, S0, β0, ro0⟩ := E
  simp only at hP hN
  subst hP hN
  dsimp only [argT]
  unfold F12 at h
  refine AWp.seq ?_
  refine AWp.region ?_
  refine AOps.cons rfl (st_box (v := (e_Tapi_Message a0)) (cs := (e_Tapi_Message a0).cells) rfl rfl rfl rfl rfl) rfl ?_
  refine AOps.cons rfl (st_assign (v := (.bool false)) rfl rfl) rfl ?_
  refine AOps.nil ?_
  refine At.next ?_
  refine AWp.seq ?_
  refine AWp.regionD mixed ?_
  have ⟨v2, hv2, h⟩ := of_bind h
  refine AOpsD.cons 0 rfl (st_call0 (ar := []) (caps := []) Try.call16 (F16_ok K v2 hv2) rfl rfl trivial rfl) ?_
  refine AOpsD.cons 1 rfl (st_move (v := (.bool v2)) rfl rfl) ?_
  have hif := of_if h
  refine AOpsD.split (fun hc => ?_) (fun hc => ?_)
  · have h := hif.1 hc
    refine AOpsD.consT 2 rfl rfl rfl rfl (st_loadPA (cs := (e_Tapi_Message a0).cells) (vs := (e_Tapi_Message a0).cells) rfl a25 rfl rfl rfl rfl) ?_
    have ⟨v4, hv4, h⟩ := of_bind h
    refine AOpsD.consT 3 rfl rfl rfl rfl (st_call0 (ar := [(e_Tapi_Message a0)]) (caps := []) Try.call42 (F42_ok K a0 v4 hv4) rfl rfl ⟨rfl, trivial⟩ rfl) ?_
    refine AOpsD.consT 4 rfl rfl rfl rfl (st_loadPA (cs := (e_Tapi_Message a0).cells) (vs := (e_Tapi_Message a0).cells) rfl a25 rfl rfl rfl rfl) ?_
    have ⟨v6, hv6, h⟩ := of_bind h
    refine AOpsD.consT 5 rfl rfl rfl rfl (st_call0 (ar := [(e_Tapi_Message a0)]) (caps := []) Try.call31 (F31_ok K a0 v6 hv6) rfl rfl ⟨rfl, trivial⟩ rfl) ?_
    refine AOpsD.consT 6 rfl rfl rfl rfl (st_cmp (k := .i64) (a := v4) (b := v6) (c := (v4 == v6)) rfl rfl rfl rfl) ?_
    refine AOpsD.cons 7 rfl (st_pickT (v := (.bool (v4 == v6))) rfl rfl rfl) ?_
    refine AOpsD.cons 8 rfl (st_assign (v := (.bool (v4 == v6))) rfl rfl) ?_
    refine AOpsD.nil (by kernel_rfl) rfl ?_
    refine At.next ?_
    refine AWp.ret ?_
    have h := Option.some.inj h
    subst h
    refine (hret _ ?_).1
    exact ⟨[(.bool (v4 == v6))], ⟨rfl, trivial⟩, rfl, trivial⟩
  · have h := hif.2 hc
    refine AOpsD.consF 2 rfl rfl rfl rfl rfl rfl rfl ?_
    refine AOpsD.consF 3 rfl rfl rfl rfl rfl rfl rfl ?_
    refine AOpsD.consF 4 rfl rfl rfl rfl rfl rfl rfl ?_
    refine AOpsD.consF 5 rfl rfl rfl rfl rfl rfl rfl ?_
    refine AOpsD.consF 6 rfl rfl rfl rfl rfl rfl rfl ?_
    refine AOpsD.cons 7 rfl (st_pickF (v := (.bool false)) rfl rfl rfl) ?_
    refine AOpsD.cons 8 rfl (st_assign (v := (.bool false)) rfl rfl) ?_
    refine AOpsD.nil (by kernel_rfl) rfl ?_
    refine At.next ?_
    refine AWp.ret ?_
    have h := Option.some.inj h
    subst h
    refine (hret _ ?_).1
    exact ⟨[(.bool false)], ⟨rfl, trivial⟩, rfl, trivial⟩

end Go.AM.Msg
