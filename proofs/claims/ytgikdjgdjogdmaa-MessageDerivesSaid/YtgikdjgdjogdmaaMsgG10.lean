/- What these functions compute, each with its walk: F28. -/
import Derived.Test.YtgikdjgdjogdmaaMsgT
import Derived.Test.YtgikdjgdjogdmaaMsgG6
import Derived.Test.YtgikdjgdjogdmaaMsgG7
import Derived.Test.YtgikdjgdjogdmaaMsgG8
namespace Go.AM.Msg
open Go Go.AM Go.Proofs
set_option maxRecDepth 100000
set_option maxHeartbeats 2000000
def F28 (K : Nat) (a0 : Zp) : Option ((List Zb)) :=
 (F36 K a0).bind fun v2 =>
  (F25 K a0).bind fun v4 =>
   (F22 K v2 v4).bind fun v6 =>
    some v6
theorem F28_ok (K : Nat) (a0 : Zp) (r : (List Zb)) (h : F28 K a0 = some r) : ACall P 28 ⟨[(Z9 a0)], [], (.sl 10 (r.map Z6) false), [], []⟩ := by
 refine Z1t Try.func28 Try.results28 rfl Try.ntmps28 rfl rfl rfl ?_
 intro E Q hP hN hro hret
 obtain ⟨P', nt', w0, F0, p0, S0, β0, ro0⟩ := E
 simp only at hP hN
 subst hP hN
 dsimp only [argT]
 unfold F28 at h
 refine Zh <| Zc <| Z2 I (st_box (v := (Z9 a0)) (cs := (Z9 a0).cells) I I I I I) I <| Z2 I (Zj (v := (.sl 10 [] false)) I I) I <| Zf <| Zg <| Zh <| Z1s mixed ?_
 refine Z7 0 I (Z1b (cs := (Z9 a0).cells) (vs := (Z9 a0).cells) I a46 I I I I) ?_
 have ⟨v2, hv2, h⟩ := Z19 h
 refine Z7 1 I (Z17 (ar := [(Z9 a0)]) (caps := []) Try.call36 (F36_ok K a0 v2 hv2) I I ⟨rfl, trivial⟩ I) <| Z7 2 I (Z1b (cs := (Z9 a0).cells) (vs := (Z9 a0).cells) I a46 I I I I) ?_
 have ⟨v4, hv4, h⟩ := Z19 h
 refine Z7 3 I (Z17 (ar := [(Z9 a0)]) (caps := []) Try.call25 (F25_ok K a0 v4 hv4) I I ⟨rfl, trivial⟩ I) ?_
 have ⟨v6, hv6, h⟩ := Z19 h
 refine Z7 4 I (Z17 (ar := [(.sl 14 (v2.map Z3) false), (.sl 5 (v4.map Ze) false)]) (caps := []) Try.call22 (F22_ok K v2 v4 v6 hv6) I I ⟨rfl, rfl, trivial⟩ I) <| Z7 5 I (Zj (v := (.sl 10 (v6.map Z6) false)) I I) <| Z1v (by kernel_rfl) I <| Zg <| Z1e ?_
 have h := Option.some.inj h
 subst h
 refine (hret _ ?_).1
 exact ⟨[(.sl 10 (v6.map Z6) false)], ⟨rfl, trivial⟩, rfl, trivial⟩
end Go.AM.Msg
