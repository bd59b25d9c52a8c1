/- What these functions compute, each with its walk: F33. -/
import Derived.Test.YtcfcnnkaiboddaaGraT
import Derived.Test.YtcfcnnkaiboddaaGraG0
import Derived.Test.YtcfcnnkaiboddaaGraG1
namespace Go.AM.Gra
open Go Go.AM Go.Proofs
set_option maxRecDepth 100000
set_option maxHeartbeats 2000000
def F33 (K : Nat) (a0 : Za) (a1 : Int) : Option ((List Int) × Int) :=
 (F45 K a0 a1).bind fun v2 =>
  if (!v2) = true then
   some ([], 10)
  else
   (F47 K a0).bind fun v4 =>
    (F46 K v4 [a1] (Int.negSucc 0)).bind fun v6 =>
     some (v6, 0)
theorem F33_ok (K : Nat) (a0 : Za) (a1 : Int) (r : (List Int) × Int) (h : F33 K a0 a1 = some r) : ACall P 33 ⟨[(Z3 a0), (.int .i64 a1)], [], (.tup [(.sl 1 (r.1.map Z7) false), (.int .i64 r.2)]), [], []⟩ := by
 refine acall_of Try.func33 Try.results33 rfl Try.ntmps33 rfl rfl rfl ?_
 intro E Q hP hN hro hret
 obtain ⟨P', nt', w0, F0, p0, S0, β0, ro0⟩ := E
 simp only at hP hN
 subst hP hN
 dsimp only [argT]
 unfold F33 at h
 refine Zc <| Z4 <| Z1 I (st_box (v := (Z3 a0)) (cs := (Z3 a0).cells) I I I I I) I <| Z1 I (Ze (v := (.sl 1 [] false)) I I) I <| Z1 I (Ze (v := (.int .i64 0)) I I) I <| Z8 <| Zb <| Zc ?_
 refine Zc <| Z4 <| Z1 I (st_loadPA (cs := (Z3 a0).cells) (vs := (Z3 a0).cells) I a35 I I I I) I <| Z1 I (Z9 (v := (.int .i64 a1)) I I) I ?_
 have ⟨v2, hv2, h⟩ := of_bind h
 refine Z1 I (st_call0 (ar := [(Z3 a0), (.int .i64 a1)]) (caps := []) Try.call45 (F45_ok K a0 a1 v2 hv2) I I ⟨rfl, rfl, trivial⟩ I) I <| Z1 I (st_not (b := v2) I I) I <| Z8 <| Zb ?_
 have hif := of_if h
 refine Zn I (fun hc => ?_) (fun hc => ?_)
 ·have h := hif.1 hc
  refine Zc <| Z4 <| Z1 I (Ze (v := (.sl 1 [] false)) I I) I <| Z1 I (Ze (v := (.int .i64 10)) I I) I <| Z8 <| Zb <| AWp.ret <| At.thruR ?_
  have h := Option.some.inj h
  subst h
  refine (hret _ ?_).1
  exact ⟨[(.sl 1 [] false), (.int .i64 10)], ⟨rfl, rfl, trivial⟩, rfl, trivial⟩
 ·have h := hif.2 hc
  refine Zr <| Zb <| Zc <| Z4 <| Z1 I (st_loadPA (cs := (Z3 a0).cells) (vs := (Z3 a0).cells) I a35 I I I I) I ?_
  have ⟨v4, hv4, h⟩ := of_bind h
  refine Z1 I (st_call0 (ar := [(Z3 a0)]) (caps := []) Try.call47 (F47_ok K a0 v4 hv4) I I ⟨rfl, trivial⟩ I) I <| Z1 I (Z9 (v := (.int .i64 a1)) I I) I <| Z1 I (stx_buildSlice (vs := [(.int .i64 a1)]) (enc := Z7) (l := [a1]) I el29 I I ⟨rfl, trivial⟩ I els_i64 I I I I) I <| AOps.ghost (st' := ⟨[(4, (.sl 1 [] false)), (5, (.int .i64 0)), (11, (.sl 1 (v4.map Zf) false)), (13, (.sl 1 ([a1].map Z7) false))], []⟩) (fun a w h => (Zp ⟨[(4, (.sl 1 [] false)), (5, (.int .i64 0)), (11, (.sl 1 (v4.map Zf) false)), (13, (.sl 1 ([a1].map Z7) false))], []⟩ (ghost_freeze (m := 13) (sz := 1) (es := (List.map Z7 [a1])) a w (Zp ⟨[(4, (.sl 1 [] false)), (5, (.int .i64 0)), (11, (.sl 1 (v4.map Zf) false)), (13, (.vs 13))], [(13, (.vec 1 (List.map Z7 [a1])))]⟩ h ⟨rfl, rfl, rfl, rfl, trivial⟩ ⟨rfl, trivial⟩)) ⟨rfl, rfl, rfl, rfl, trivial⟩ trivial)) ?_
  have ⟨v6, hv6, h⟩ := of_bind h
  refine Z1 I (st_call0 (ar := [(.sl 1 (v4.map Zf) false), (.sl 1 ([a1].map Z7) false), (.int .i64 (Int.negSucc 0))]) (caps := []) Try.call46 (F46_ok K v4 [a1] (Int.negSucc 0) v6 hv6) I I ⟨rfl, rfl, rfl, trivial⟩ I) I <| Z1 I (Ze (v := (.sl 1 (v6.map Z7) false)) I I) I <| Z1 I (Ze (v := (.int .i64 0)) I I) I <| Z8 <| Zb <| AWp.ret ?_
  have h := Option.some.inj h
  subst h
  refine (hret _ ?_).1
  exact ⟨[(.sl 1 (v6.map Z7) false), (.int .i64 0)], ⟨rfl, rfl, trivial⟩, rfl, trivial⟩
end Go.AM.Gra
