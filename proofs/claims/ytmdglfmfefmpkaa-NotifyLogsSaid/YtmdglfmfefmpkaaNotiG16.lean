/- What these functions compute, each with its walk: F4. -/
import Derived.Test.YtmdglfmfefmpkaaNotiT
import Derived.Test.YtmdglfmfefmpkaaNotiG2
import Derived.Test.YtmdglfmfefmpkaaNotiG4
import Derived.Test.YtmdglfmfefmpkaaNotiG8
import Derived.Test.YtmdglfmfefmpkaaNotiG9
import Derived.Test.YtmdglfmfefmpkaaNotiG12
namespace Go.AM.Noti
open Go Go.AM Go.Proofs
set_option maxRecDepth 100000
set_option maxHeartbeats 2000000
noncomputable def F4 (K : Nat) (a0 : Z15) (a1 : Int) : Option (Bool) :=
 (F13 K).bind fun v2 =>
 if (!v2) = true then
 some false
 else
 (F14 K a0).bind fun v4 =>
 (F27 K v4 a1).bind fun v6 =>
 (F28 K a1).bind fun v8 =>
 if (!v8) = true then
 if ((v6.1.length : Int) == 0) = true then
 some (v6.2 == 32)
 else
 some false
 else
 (F14 K a0).bind fun v10 =>
 (F30 K v10 a1).bind fun v12 =>
 (F29 K v6.1 v12).bind fun v14 =>
 if v14 = true then
 some (v6.2 == 0)
 else
 some false
theorem F4_ok (K : Nat) (a0 : Z15) (a1 : Int) (r : Bool) (h : F4 K a0 a1 = some r) : ACall P 4 ⟨[(Zv a0), (.int .i64 a1)], [], (.bool r), [], []⟩ := by
 refine Z1v Try.func4 Try.results4 rfl Try.ntmps4 rfl rfl rfl ?_
 intro E Q hP hN hro hret
 obtain ⟨P', nt', w0, F0, p0, S0, β0, ro0⟩ := E
 simp only at hP hN
 subst hP hN
 dsimp only [argT]
 unfold F4 at h
 refine Zb <| Z5 <| Z1 I (Z2r I I I I I) I <| Z1 I (Zd (v := (.bool false)) I I) I <| Z7 <| Z8 <| Zb <| Zb <| Z5 ?_
 have ⟨v2, hv2, h⟩ := Z1a h
 refine Z1 I (Z1d (ar := []) Try.call13 (F13_ok K v2 hv2) I I J0 I) I <| Z1 I (Z2c I I) I <| Z7 <| Z8 ?_
 have hif := Z1h h
 refine Zq I (fun hc => ?_) (fun hc => ?_)
 ·have h := hif.1 hc
  refine Zb <| Z5 <| Z1 I (Zd (v := (.bool false)) I I) I <| Z7 <| Z8 <| Z1e <| Zx ?_
  have h := Option.some.inj h
  subst h
  refine (hret _ ?_).1
  exact ⟨[(.bool false)], ⟨I, J0⟩, I, J0⟩
 have h := hif.2 hc
 refine Z14 <| Z8 <| Zb <| Z5 <| Z1 I (Z1n I a25 I I I I) I ?_
 have ⟨v4, hv4, h⟩ := Z1a h
 refine Z1 I (Z1d (ar := [(Zv a0)]) Try.call14 (F14_ok K a0 v4 hv4) I I ⟨I, J0⟩ I) I <| Z1 I (Z9 I I) I ?_
 have ⟨v6, hv6, h⟩ := Z1a h
 refine Z1 I (Z1d (ar := [(Zf v4), (.int .i64 a1)]) Try.call27 (F27_ok K v4 a1 v6 hv6) I I ⟨I, I, J0⟩ I) I <| Z1 I (Z9 I I) I <| Z1 I (Z20 I I I) I <| Z1 I (Z20 I I I) I <| Z1 I (Zd I I) I <| Z1 I (Zd I I) I <| Z7 <| Z8 <| Zb <| Zb <| Z5 <| Z1 I (Z9 I I) I ?_
 have ⟨v8, hv8, h⟩ := Z1a h
 refine Z1 I (Z1d (ar := [(.int .i64 a1)]) Try.call28 (F28_ok K a1 v8 hv8) I I ⟨I, J0⟩ I) I <| Z1 I (Z2c I I) I <| Z7 <| Z8 ?_
 have hif := Z1h h
 refine Zq I (fun hc => ?_) (fun hc => ?_)
 ·have h := hif.1 hc
  refine Zb <| Z5 <| Z1 I (Z9 I I) I <| Z1 I (Z24 (l := v6.1) (enc := Z3) I s50 I) I <| Z1 I (Z1c (b := 0) (c := ((v6.1.length : Int) == 0)) I I I I) I <| Z1 I (Z9 I I) I ?_
  have hif := Z1h h
  refine Z16 (fun hc => ?_) (fun hc => ?_)
  ·have h := hif.1 hc
   refine Zc I I I I (Z9 I I) I <| Zc I I I I (Z1c (b := 32) (c := (v6.2 == 32)) I I I I) I <| Z1 I (Z19 I I I) I <| Z1 I (Zd I I) I <| Z7 <| Z8 <| Z1e <| Zx ?_
   have h := Option.some.inj h
   subst h
   refine (hret _ ?_).1
   exact ⟨[(.bool (v6.2 == 32))], ⟨I, J0⟩, I, J0⟩
  have h := hif.2 hc
  refine Zg I I I I I I I <| Zg I I I I I I I <| Z1 I (Zy (v := (.bool false)) I I I) I <| Z1 I (Zd (v := (.bool false)) I I) I <| Z7 <| Z8 <| Z1e <| Zx ?_
  have h := Option.some.inj h
  subst h
  refine (hret _ ?_).1
  exact ⟨[(.bool false)], ⟨I, J0⟩, I, J0⟩
 have h := hif.2 hc
 refine Z14 <| Z8 <| Zb <| Z5 <| Z1 I (Z9 I I) I <| Z1 I (Z1n I a25 I I I I) I ?_
 have ⟨v10, hv10, h⟩ := Z1a h
 refine Z1 I (Z1d (ar := [(Zv a0)]) Try.call14 (F14_ok K a0 v10 hv10) I I ⟨I, J0⟩ I) I <| Z1 I (Z9 I I) I ?_
 have ⟨v12, hv12, h⟩ := Z1a h
 refine Z1 I (Z1d (ar := [(Zf v10), (.int .i64 a1)]) Try.call30 (F30_ok K v10 a1 v12 hv12) I I ⟨I, I, J0⟩ I) I ?_
 have ⟨v14, hv14, h⟩ := Z1a h
 refine Z1 I (Z1d (ar := [(.sl 5 (v6.1.map Z3) false), (.sl 5 (v12.map Z3) false)]) Try.call29 (F29_ok K v6.1 v12 v14 hv14) I I ⟨I, I, J0⟩ I) I <| Z1 I (Z9 I I) I ?_
 have hif := Z1h h
 refine Z16 (fun hc => ?_) (fun hc => ?_)
 ·have h := hif.1 hc
  refine Zc I I I I (Z9 I I) I <| Zc I I I I (Z1c (b := 0) (c := (v6.2 == 0)) I I I I) I <| Z1 I (Z19 I I I) I <| Z1 I (Zd I I) I <| Z7 <| Z8 <| Z1e ?_
  have h := Option.some.inj h
  subst h
  refine (hret _ ?_).1
  exact ⟨[(.bool (v6.2 == 0))], ⟨I, J0⟩, I, J0⟩
 have h := hif.2 hc
 refine Zg I I I I I I I <| Zg I I I I I I I <| Z1 I (Zy (v := (.bool false)) I I I) I <| Z1 I (Zd (v := (.bool false)) I I) I <| Z7 <| Z8 <| Z1e ?_
 have h := Option.some.inj h
 subst h
 refine (hret _ ?_).1
 exact ⟨[(.bool false)], ⟨I, J0⟩, I, J0⟩
end Go.AM.Noti
