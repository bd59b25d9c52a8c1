/- What these functions compute, each with its walk: F28. -/
import Derived.Test.YtgikdjgdjogdmaaMsgT
import Derived.Test.YtgikdjgdjogdmaaMsgG6
import Derived.Test.YtgikdjgdjogdmaaMsgG7
import Derived.Test.YtgikdjgdjogdmaaMsgG8
namespace Go.AM.Msg
open Go Go.AM Go.Proofs
set_option maxRecDepth 100000
set_option maxHeartbeats 2000000
def F28 (K : Nat) (a0 : Zp) : Option ((List Z8)) :=
 (F36 K a0).bind fun v2 =>
  (F25 K a0).bind fun v4 =>
   (F22 K v2 v4).bind fun v6 =>
    some v6
theorem F28_ok (K : Nat) (a0 : Zp) (r : (List Z8)) (h : F28 K a0 = some r) : ACall P 28 ⟨[(Zc a0)], [], (.sl 10 (r.map Z3) false), [], []⟩ := by
 refine Z1q Try.func28 Try.results28 rfl Try.ntmps28 rfl rfl rfl ?_
 intro E Q hP hN hro hret
 obtain ⟨P', nt', w0, F0, p0, S0, β0, ro0⟩ := E
 simp only at hP hN
 subst hP hN
 dsimp only [argT]
 unfold F28 at h
 refine Zf <| Zb <| Z2 I (st_box (v := (Zc a0)) (cs := (Zc a0).cells) I I I I I) I <| Z2 I (Zi (v := (.sl 10 [] false)) I I) I <| Zd <| Ze <| Zf <| Z1n mixed ?_
 refine Z9 0 I (Z18 (cs := (Zc a0).cells) (vs := (Zc a0).cells) I a46 I I I I) ?_
 have ⟨v2, hv2, h⟩ := Z16 h
 refine Z9 1 I (Z15 (ar := [(Zc a0)]) (caps := []) Try.call36 (F36_ok K a0 v2 hv2) I I ⟨rfl, trivial⟩ I) <| Z9 2 I (Z18 (cs := (Zc a0).cells) (vs := (Zc a0).cells) I a46 I I I I) ?_
 have ⟨v4, hv4, h⟩ := Z16 h
 refine Z9 3 I (Z15 (ar := [(Zc a0)]) (caps := []) Try.call25 (F25_ok K a0 v4 hv4) I I ⟨rfl, trivial⟩ I) ?_
 have ⟨v6, hv6, h⟩ := Z16 h
 refine Z9 4 I (Z15 (ar := [(.sl 14 (v2.map Z6) false), (.sl 5 (v4.map Zn) false)]) (caps := []) Try.call22 (F22_ok K v2 v4 v6 hv6) I I ⟨rfl, rfl, trivial⟩ I) <| Z9 5 I (Zi (v := (.sl 10 (v6.map Z3) false)) I I) <| Z1l (by kernel_rfl) I <| Ze <| Z1d ?_
 have h := Option.some.inj h
 subst h
 refine (hret _ ?_).1
 exact ⟨[(.sl 10 (v6.map Z3) false)], ⟨rfl, trivial⟩, rfl, trivial⟩
end Go.AM.Msg
