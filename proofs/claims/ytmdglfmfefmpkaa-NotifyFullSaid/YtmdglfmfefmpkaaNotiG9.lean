/- What these functions compute, each with its walk: F28. -/
import Derived.Test.YtmdglfmfefmpkaaNotiT
namespace Go.AM.Noti
open Go Go.AM Go.Proofs
set_option maxRecDepth 100000
set_option maxHeartbeats 2000000
def F28 (_K : Nat) (a0 : Int) : Option (Bool) :=
 if (decide (a0 ≥ 0)) = true then
 some (decide (a0 ≤ 1048576))
 else
 some false
theorem F28_ok (K : Nat) (a0 : Int) (r : Bool) (h : F28 K a0 = some r) : ACall P 28 ⟨[(.int .i64 a0)], [], (.bool r), [], []⟩ := by
 refine Z1v Try.func28 Try.results28 rfl Try.ntmps28 rfl rfl rfl ?_
 intro E Q hP hN hro hret
 obtain ⟨P', nt', w0, F0, p0, S0, β0, ro0⟩ := E
 simp only at hP hN
 subst hP hN
 dsimp only [argT]
 unfold F28 at h
 refine Zb <| Z5 <| Z1 I (Zd (v := (.bool false)) I I) I <| Z7 <| Z8 <| Zb <| Z5 <| Z1 I (Z9 I I) I <| Z1 I (Z1c (b := 0) (c := (decide (a0 ≥ 0))) I I I I) I <| Z1 I (Z9 I I) I ?_
 have hif := Z1h h
 refine Z16 (fun hc => ?_) (fun hc => ?_)
 ·have h := hif.1 hc
  refine Zc I I I I (Z9 I I) I <| Zc I I I I (Z1c (b := 1048576) (c := (decide (a0 ≤ 1048576))) I I I I) I <| Z1 I (Z19 I I I) I <| Z1 I (Zd I I) I <| Z7 <| Z8 <| Z1e ?_
  have h := Option.some.inj h
  subst h
  refine (hret _ ?_).1
  exact ⟨[(.bool (decide (a0 ≤ 1048576)))], ⟨I, J0⟩, I, J0⟩
 have h := hif.2 hc
 refine Zg I I I I I I I <| Zg I I I I I I I <| Z1 I (Zy (v := (.bool false)) I I I) I <| Z1 I (Zd (v := (.bool false)) I I) I <| Z7 <| Z8 <| Z1e ?_
 have h := Option.some.inj h
 subst h
 refine (hret _ ?_).1
 exact ⟨[(.bool false)], ⟨I, J0⟩, I, J0⟩
end Go.AM.Noti
