/- What these functions compute, each with its walk: F33. -/
import Derived.Test.YtgikdjgdjogdmaaMsgT
namespace Go.AM.Msg
open Go Go.AM Go.Proofs
set_option maxRecDepth 100000
set_option maxHeartbeats 2000000
def F33 (K : Nat) (a0 : Za) : Option (Int) :=
 some (IntKind.i64.wrap ((IntKind.i64.wrap (a0.Received - a0.Sent)) - a0.Least))
theorem F33_ok (K : Nat) (a0 : Za) (r : Int) (h : F33 K a0 = some r) : ACall P 33 ⟨[(Z6 a0)], [], (.int .i64 r), [], []⟩ := by
 refine acall_of Try.func33 Try.results33 rfl Try.ntmps33 rfl rfl rfl ?_
 intro E Q hP hN hro hret
 obtain ⟨P', nt', w0, F0, p0, S0, β0, ro0⟩ := E
 simp only at hP hN
 subst hP hN
 dsimp only [argT]
 unfold F33 at h
 refine Zg <| Zb <| Z2 I (st_box (v := (Z6 a0)) (cs := (Z6 a0).cells) I I I I I) I <| Z2 I (Zi (v := (.int .i64 0)) I I) I <| Ze <| Zf <| Zg <| Zb ?_
 refine Z2 I (Zq (m := 1) (o := 0) I f25_6 I I) I <| Z2 I (Zw (cs := (Z6 a0).cells) (v := (.int .i64 a0.Received)) I o3 I I I) I <| Z2 I (Zq (m := 1) (o := 0) I f25_5 I I) I <| Z2 I (Zw (cs := (Z6 a0).cells) (v := (.int .i64 a0.Sent)) I o3 I I I) I <| Z2 I (Z1e (k := .i64) (a := a0.Received) (b := a0.Sent) (c := (IntKind.i64.wrap (a0.Received - a0.Sent))) I I I I) I <| Z2 I (Zq (m := 1) (o := 0) I f25_7 I I) I <| Z2 I (Zw (cs := (Z6 a0).cells) (v := (.int .i64 a0.Least)) I o3 I I I) I <| Z2 I (Z1e (k := .i64) (a := (IntKind.i64.wrap (a0.Received - a0.Sent))) (b := a0.Least) (c := (IntKind.i64.wrap ((IntKind.i64.wrap (a0.Received - a0.Sent)) - a0.Least))) I I I I) I ?_
 refine Z2 I (Zi (v := (.int .i64 (IntKind.i64.wrap ((IntKind.i64.wrap (a0.Received - a0.Sent)) - a0.Least)))) I I) I <| Ze <| Zf <| Z1a ?_
 have h := Option.some.inj h
 subst h
 refine (hret _ ?_).1
 exact ⟨[(.int .i64 (IntKind.i64.wrap ((IntKind.i64.wrap (a0.Received - a0.Sent)) - a0.Least)))], ⟨rfl, trivial⟩, rfl, trivial⟩
end Go.AM.Msg
