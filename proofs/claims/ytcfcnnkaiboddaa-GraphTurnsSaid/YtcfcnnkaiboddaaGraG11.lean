/- What these functions compute, each with its walk: F33. -/
import Derived.Test.YtcfcnnkaiboddaaGraT
import Derived.Test.YtcfcnnkaiboddaaGraG0
import Derived.Test.YtcfcnnkaiboddaaGraG1
namespace Go.AM.Gra
open Go Go.AM Go.Proofs
set_option maxRecDepth 100000
set_option maxHeartbeats 2000000
def F33 (K : Nat) (a0 : Za) (a1 : Int) : Option ((List Int) × Int) :=
 (F45 K a0 a1).bind fun v2 =>
  if (!v2) = true then
   some ([], 10)
  else
   (F47 K a0).bind fun v4 =>
    (F46 K v4 [a1] (Int.negSucc 0)).bind fun v6 =>
     some (v6, 0)
theorem F33_ok (K : Nat) (a0 : Za) (a1 : Int) (r : (List Int) × Int) (h : F33 K a0 a1 = some r) : ACall P 33 ⟨[(Z4 a0), (.int .i64 a1)], [], (.tup [(.sl 1 (r.1.map Z8) false), (.int .i64 r.2)]), [], []⟩ := by
 refine acall_of Try.func33 Try.results33 rfl Try.ntmps33 rfl rfl rfl ?_
 intro E Q hP hN hro hret
 obtain ⟨P', nt', w0, F0, p0, S0, β0, ro0⟩ := E
 simp only at hP hN
 subst hP hN
 dsimp only [argT]
 unfold F33 at h
 refine Zf <| Z6 <| Z1 I (st_box (v := (Z4 a0)) (cs := (Z4 a0).cells) I I I I I) I <| Z1 I (Zh (v := (.sl 1 [] false)) I I) I <| Z1 I (Zh (v := (.int .i64 0)) I I) I <| Zb <| Ze <| Zf ?_
 refine Zf <| Z6 <| Z1 I (st_loadPA (cs := (Z4 a0).cells) (vs := (Z4 a0).cells) I a35 I I I I) I <| Z1 I (Z9 (v := (.int .i64 a1)) I I) I ?_
 have ⟨v2, hv2, h⟩ := of_bind h
 refine Z1 I (st_call0 (ar := [(Z4 a0), (.int .i64 a1)]) (caps := []) Try.call45 (F45_ok K a0 a1 v2 hv2) I I ⟨rfl, rfl, trivial⟩ I) I <| Z1 I (st_not (b := v2) I I) I <| Zb <| Ze ?_
 have hif := of_if h
 refine Zv I (fun hc => ?_) (fun hc => ?_)
 ·have h := hif.1 hc
  refine Zf <| Z6 <| Z1 I (Zh (v := (.sl 1 [] false)) I I) I <| Z1 I (Zh (v := (.int .i64 10)) I I) I <| Zb <| Ze <| AWp.ret <| At.thruR ?_
  have h := Option.some.inj h
  subst h
  refine (hret _ ?_).1
  exact ⟨[(.sl 1 [] false), (.int .i64 10)], ⟨rfl, rfl, trivial⟩, rfl, trivial⟩
 ·have h := hif.2 hc
  refine Zy <| Ze <| Zf <| Z6 <| Z1 I (st_loadPA (cs := (Z4 a0).cells) (vs := (Z4 a0).cells) I a35 I I I I) I ?_
  have ⟨v4, hv4, h⟩ := of_bind h
  refine Z1 I (st_call0 (ar := [(Z4 a0)]) (caps := []) Try.call47 (F47_ok K a0 v4 hv4) I I ⟨rfl, trivial⟩ I) I <| Z1 I (Z9 (v := (.int .i64 a1)) I I) I <| Z1 I (stx_buildSlice (vs := [(.int .i64 a1)]) (enc := Z8) (l := [a1]) I el29 I I ⟨rfl, trivial⟩ I els_i64 I I I I) I <| AOps.ghost (st' := ⟨[(4, (.sl 1 [] false)), (5, (.int .i64 0)), (11, (.sl 1 (v4.map Zg) false)), (13, (.sl 1 ([a1].map Z8) false))], []⟩) (fun a w h => (Zp ⟨[(4, (.sl 1 [] false)), (5, (.int .i64 0)), (11, (.sl 1 (v4.map Zg) false)), (13, (.sl 1 ([a1].map Z8) false))], []⟩ (ghost_freeze (m := 13) (sz := 1) (es := (List.map Z8 [a1])) a w (Zp ⟨[(4, (.sl 1 [] false)), (5, (.int .i64 0)), (11, (.sl 1 (v4.map Zg) false)), (13, (.vs 13))], [(13, (.vec 1 (List.map Z8 [a1])))]⟩ h ⟨rfl, rfl, rfl, rfl, trivial⟩ ⟨rfl, trivial⟩)) ⟨rfl, rfl, rfl, rfl, trivial⟩ trivial)) ?_
  have ⟨v6, hv6, h⟩ := of_bind h
  refine Z1 I (st_call0 (ar := [(.sl 1 (v4.map Zg) false), (.sl 1 ([a1].map Z8) false), (.int .i64 (Int.negSucc 0))]) (caps := []) Try.call46 (F46_ok K v4 [a1] (Int.negSucc 0) v6 hv6) I I ⟨rfl, rfl, rfl, trivial⟩ I) I <| Z1 I (Zh (v := (.sl 1 (v6.map Z8) false)) I I) I <| Z1 I (Zh (v := (.int .i64 0)) I I) I <| Zb <| Ze <| AWp.ret ?_
  have h := Option.some.inj h
  subst h
  refine (hret _ ?_).1
  exact ⟨[(.sl 1 (v6.map Z8) false), (.int .i64 0)], ⟨rfl, rfl, trivial⟩, rfl, trivial⟩
end Go.AM.Gra
