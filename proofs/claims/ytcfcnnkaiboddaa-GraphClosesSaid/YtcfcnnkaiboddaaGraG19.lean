/- What these functions compute, each with its walk: F9. -/
import Derived.Test.YtcfcnnkaiboddaaGraT
import Derived.Test.YtcfcnnkaiboddaaGraG1
import Derived.Test.YtcfcnnkaiboddaaGraG2
import Derived.Test.YtcfcnnkaiboddaaGraG4
import Derived.Test.YtcfcnnkaiboddaaGraG6
import Derived.Test.YtcfcnnkaiboddaaGraG12
namespace Go.AM.Gra
open Go Go.AM Go.Proofs
set_option maxRecDepth 100000
set_option maxHeartbeats 2000000
def F9 (K : Nat) (a0 : Zv) : Option (Bool) :=
 (F13 K).bind fun v2 =>
  if (!v2) = true then
   some false
  else
   (F14 K a0).bind fun v4 =>
    (F16 K v4).bind fun v6 =>
     (F39 K v6).bind fun v8 =>
      (F40 K v4).bind fun v10 =>
       (F16 K v10).bind fun v12 =>
        (F27 K v8 v12).bind fun v14 =>
         if v14 = true then
          (F39 K v8).bind fun v16 =>
           (F27 K v16 v8).bind fun v18 =>
            some v18
         else
          some false
theorem F9_ok (K : Nat) (a0 : Zv) (r : Bool) (h : F9 K a0 = some r) : ACall P 9 ⟨[(Zn a0)], [], (.bool r), [], []⟩ := by
 refine acall_of Try.func9 Try.results9 rfl Try.ntmps9 rfl rfl rfl ?_
 intro E Q hP hN hro hret
 obtain ⟨P', nt', w0, F0, p0, S0, β0, ro0⟩ := E
 simp only at hP hN
 subst hP hN
 dsimp only [argT]
 unfold F9 at h
 refine Zb <| Z5 <| Z1 I (st_box (v := (Zn a0)) (cs := (Zn a0).cells) I I I I I) I <| Z1 I (Zg (v := (.bool false)) I I) I <| Z7 <| Za <| Zb <| Zb ?_
 refine Z5 ?_
 have ⟨v2, hv2, h⟩ := of_bind h
 refine Z1 I (st_call0 (ar := []) (caps := []) Try.call13 (F13_ok K v2 hv2) I I trivial I) I <| Z1 I (st_not (b := v2) I I) I <| Z7 <| Za ?_
 have hif := of_if h
 refine Zq I (fun hc => ?_) (fun hc => ?_)
 ·have h := hif.1 hc
  refine Zb <| Z5 <| Z1 I (Zg (v := (.bool false)) I I) I <| Z7 <| Za <| AWp.ret <| At.thruR ?_
  have h := Option.some.inj h
  subst h
  refine (hret _ ?_).1
  exact ⟨[(.bool false)], ⟨rfl, trivial⟩, rfl, trivial⟩
 ·have h := hif.2 hc
  refine Zr <| Za <| Zb <| Z5 <| Z1 I (st_loadPA (cs := (Zn a0).cells) (vs := (Zn a0).cells) I a24 I I I I) I ?_
  have ⟨v4, hv4, h⟩ := of_bind h
  refine Z1 I (st_call0 (ar := [(Zn a0)]) (caps := []) Try.call14 (F14_ok K a0 v4 hv4) I I ⟨rfl, trivial⟩ I) I <| Z1 I (Zg (v := (.sl 1 (v4.map Zm) false)) I I) I <| Z7 <| Za <| Zb <| Z5 <| Z1 I (Z9 (v := (.sl 1 (v4.map Zm) false)) I I) I ?_
  have ⟨v6, hv6, h⟩ := of_bind h
  refine Z1 I (st_call0 (ar := [(.sl 1 (v4.map Zm) false)]) (caps := []) Try.call16 (F16_ok K v4 v6 hv6) I I ⟨rfl, trivial⟩ I) I ?_
  have ⟨v8, hv8, h⟩ := of_bind h
  refine Z1 I (st_call0 (ar := [(Z4 v6)]) (caps := []) Try.call39 (F39_ok K v6 v8 hv8) I I ⟨rfl, trivial⟩ I) I <| Z1 I (st_alloc (cs := [(.int .i64 0), (.sl 2 [] false)]) I z35 I I I) I <| Z1 I (st_storeP (cs := [(.int .i64 0), (.sl 2 [] false)]) (vs := (Z4 v8).cells) (ds := (Z4 v8).cells) (v := (Z4 v8)) sz35 I I I I I I I I) I <| Z7 <| Za <| Zb <| AWp.regionD mixed <| Ze 0 I (st_loadPA (cs := (Z4 v8).cells) (vs := (Z4 v8).cells) I a35 I I I I) ?_
  refine Ze 1 I (Z9 (v := (.sl 1 (v4.map Zm) false)) I I) ?_
  have ⟨v10, hv10, h⟩ := of_bind h
  refine Ze 2 I (st_call0 (ar := [(.sl 1 (v4.map Zm) false)]) (caps := []) Try.call40 (F40_ok K v4 v10 hv10) I I ⟨rfl, trivial⟩ I) ?_
  have ⟨v12, hv12, h⟩ := of_bind h
  refine Ze 3 I (st_call0 (ar := [(.sl 1 (v10.map Zm) false)]) (caps := []) Try.call16 (F16_ok K v10 v12 hv12) I I ⟨rfl, trivial⟩ I) ?_
  have ⟨v14, hv14, h⟩ := of_bind h
  refine Ze 4 I (st_call0 (ar := [(Z4 v8), (Z4 v12)]) (caps := []) Try.call27 (F27_ok K v8 v12 v14 hv14) I I ⟨rfl, rfl, trivial⟩ I) <| Ze 5 I (Z9 (v := (.bool v14)) I I) ?_
  have hif := of_if h
  refine AOpsD.split (fun hc => ?_) (fun hc => ?_)
  ·have h := hif.1 hc
   refine AOpsD.consT 6 I I I I (st_loadPA (cs := (Z4 v8).cells) (vs := (Z4 v8).cells) I a35 I I I I) ?_
   have ⟨v16, hv16, h⟩ := of_bind h
   refine AOpsD.consT 7 I I I I (st_call0 (ar := [(Z4 v8)]) (caps := []) Try.call39 (F39_ok K v8 v16 hv16) I I ⟨rfl, trivial⟩ I) <| AOpsD.consT 8 I I I I (st_loadPA (cs := (Z4 v8).cells) (vs := (Z4 v8).cells) I a35 I I I I) ?_
   have ⟨v18, hv18, h⟩ := of_bind h
   refine AOpsD.consT 9 I I I I (st_call0 (ar := [(Z4 v16), (Z4 v8)]) (caps := []) Try.call27 (F27_ok K v16 v8 v18 hv18) I I ⟨rfl, rfl, trivial⟩ I) <| Ze 10 I (st_pickT (v := (.bool v18)) I I I) <| Ze 11 I (Zg (v := (.bool v18)) I I) <| AOpsD.nil (by kernel_rfl) I <| Za <| AWp.ret ?_
   have h := Option.some.inj h
   subst h
   refine (hret _ ?_).1
   exact ⟨[(.bool v18)], ⟨rfl, trivial⟩, rfl, trivial⟩
  ·have h := hif.2 hc
   refine AOpsD.consF 6 I I I I I I I <| AOpsD.consF 7 I I I I I I I <| AOpsD.consF 8 I I I I I I I <| AOpsD.consF 9 I I I I I I I <| Ze 10 I (st_pickF (v := (.bool false)) I I I) <| Ze 11 I (Zg (v := (.bool false)) I I) <| AOpsD.nil (by kernel_rfl) I <| Za ?_
   refine AWp.ret ?_
   have h := Option.some.inj h
   subst h
   refine (hret _ ?_).1
   exact ⟨[(.bool false)], ⟨rfl, trivial⟩, rfl, trivial⟩
end Go.AM.Gra
