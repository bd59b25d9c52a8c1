/- What these functions compute, each with its walk: F33. -/
import Derived.Test.YtgikdjgdjogdmaaMsgT
namespace Go.AM.Msg
open Go Go.AM Go.Proofs
set_option maxRecDepth 100000
set_option maxHeartbeats 2000000
def F33 (K : Nat) (a0 : Z8) : Option (Int) :=
 some (IntKind.i64.wrap ((IntKind.i64.wrap (a0.Received - a0.Sent)) - a0.Least))
theorem F33_ok (K : Nat) (a0 : Z8) (r : Int) (h : F33 K a0 = some r) : ACall P 33 ⟨[(Z3 a0)], [], (.int .i64 r), [], []⟩ := by
 refine Z1q Try.func33 Try.results33 rfl Try.ntmps33 rfl rfl rfl ?_
 intro E Q hP hN hro hret
 obtain ⟨P', nt', w0, F0, p0, S0, β0, ro0⟩ := E
 simp only at hP hN
 subst hP hN
 dsimp only [argT]
 unfold F33 at h
 refine Zf <| Zb <| Z2 I (st_box (v := (Z3 a0)) (cs := (Z3 a0).cells) I I I I I) I <| Z2 I (Zi (v := (.int .i64 0)) I I) I <| Zd <| Ze <| Zf <| Zb ?_
 refine Z2 I (Zr (m := 1) (o := 0) I f25_6 I I) I <| Z2 I (Zz (cs := (Z3 a0).cells) (v := (.int .i64 a0.Received)) I o3 I I I) I <| Z2 I (Zr (m := 1) (o := 0) I f25_5 I I) I <| Z2 I (Zz (cs := (Z3 a0).cells) (v := (.int .i64 a0.Sent)) I o3 I I I) I <| Z2 I (Z1a (k := .i64) (a := a0.Received) (b := a0.Sent) (c := (IntKind.i64.wrap (a0.Received - a0.Sent))) I I I I) I <| Z2 I (Zr (m := 1) (o := 0) I f25_7 I I) I <| Z2 I (Zz (cs := (Z3 a0).cells) (v := (.int .i64 a0.Least)) I o3 I I I) I <| Z2 I (Z1a (k := .i64) (a := (IntKind.i64.wrap (a0.Received - a0.Sent))) (b := a0.Least) (c := (IntKind.i64.wrap ((IntKind.i64.wrap (a0.Received - a0.Sent)) - a0.Least))) I I I I) I ?_
 refine Z2 I (Zi (v := (.int .i64 (IntKind.i64.wrap ((IntKind.i64.wrap (a0.Received - a0.Sent)) - a0.Least)))) I I) I <| Zd <| Ze <| Z1d ?_
 have h := Option.some.inj h
 subst h
 refine (hret _ ?_).1
 exact ⟨[(.int .i64 (IntKind.i64.wrap ((IntKind.i64.wrap (a0.Received - a0.Sent)) - a0.Least)))], ⟨rfl, trivial⟩, rfl, trivial⟩
end Go.AM.Msg
