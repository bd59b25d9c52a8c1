/- What these functions compute, each with its walk: F33. -/
import Derived.Test.YtgikdjgdjogdmaaMsgT
namespace Go.AM.Msg
open Go Go.AM Go.Proofs
set_option maxRecDepth 100000
set_option maxHeartbeats 2000000
/-! 33: sleuth/sleuthlaw14.bound -/
def F33 (K : Nat) (a0 : Tapi_Message) : Option (Int) :=
  some (IntKind.i64.wrap ((IntKind.i64.wrap (a0.Received - a0.Sent)) - a0.Least))
theorem F33_ok (K : Nat) (a0 : Tapi_Message) (r : Int) (h : F33 K a0 = some r) : ACall P 33 ⟨[(e_Tapi_Message a0)], [], (.int .i64 r), [], []⟩ := by
  refine acall_of Try.func33 Try.results33 rfl Try.ntmps33 rfl rfl rfl ?_
  intro E Q hP hN hro hret
  obtain ⟨P', nt', w0, F0, p0, S0, β0, ro0⟩ := E
  simp only at hP hN
  subst hP hN
  dsimp only [argT]
  unfold F33 at h
  refine AWp.seq ?_
  refine AWp.region ?_
  refine AOps.cons rfl (st_box (v := (e_Tapi_Message a0)) (cs := (e_Tapi_Message a0).cells) rfl rfl rfl rfl rfl) rfl ?_
  refine AOps.cons rfl (st_assign (v := (.int .i64 0)) rfl rfl) rfl ?_
  refine AOps.nil ?_
  refine At.next ?_
  refine AWp.seq ?_
  refine AWp.region ?_
  refine AOps.cons rfl (st_fieldP (m := 1) (o := 0) rfl f25_6 rfl rfl) rfl ?_
  refine AOps.cons rfl (st_loadP (cs := (e_Tapi_Message a0).cells) (v := (.int .i64 a0.Received)) rfl o3 rfl rfl rfl) rfl ?_
  refine AOps.cons rfl (st_fieldP (m := 1) (o := 0) rfl f25_5 rfl rfl) rfl ?_
  refine AOps.cons rfl (st_loadP (cs := (e_Tapi_Message a0).cells) (v := (.int .i64 a0.Sent)) rfl o3 rfl rfl rfl) rfl ?_
  refine AOps.cons rfl (st_arith (k := .i64) (a := a0.Received) (b := a0.Sent) (c := (IntKind.i64.wrap (a0.Received - a0.Sent))) rfl rfl rfl rfl) rfl ?_
  refine AOps.cons rfl (st_fieldP (m := 1) (o := 0) rfl f25_7 rfl rfl) rfl ?_
  refine AOps.cons rfl (st_loadP (cs := (e_Tapi_Message a0).cells) (v := (.int .i64 a0.Least)) rfl o3 rfl rfl rfl) rfl ?_
  refine AOps.cons rfl (st_arith (k := .i64) (a := (IntKind.i64.wrap (a0.Received - a0.Sent))) (b := a0.Least) (c := (IntKind.i64.wrap ((IntKind.i64.wrap (a0.Received - a0.Sent)) - a0.Least))) rfl rfl rfl rfl) rfl ?_
  refine AOps.cons rfl (st_assign (v := (.int .i64 (IntKind.i64.wrap ((IntKind.i64.wrap (a0.Received - a0.Sent)) - a0.Least)))) rfl rfl) rfl ?_
  refine AOps.nil ?_
  refine At.next ?_
  refine AWp.ret ?_
  have h := Option.some.inj h
  subst h
  refine (hret _ ?_).1
  exact ⟨[(.int .i64 (IntKind.i64.wrap ((IntKind.i64.wrap (a0.Received - a0.Sent)) - a0.Least)))], ⟨rfl, trivial⟩, rfl, trivial⟩

end Go.AM.Msg
