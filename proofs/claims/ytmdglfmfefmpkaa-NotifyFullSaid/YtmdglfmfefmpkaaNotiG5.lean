/- What these functions compute, each with its walk: F32. -/
import Derived.Test.YtmdglfmfefmpkaaNotiT
import Derived.Test.YtmdglfmfefmpkaaNotiG2
namespace Go.AM.Noti
open Go Go.AM Go.Proofs
set_option maxRecDepth 100000
set_option maxHeartbeats 2000000
def F32_j2 (_K : Nat) (v1 : Bool) : Option (Bool) :=
 some v1
def F32 (K : Nat) (a0 : Z2) (a1 : Z2) : Option (Bool) :=
 if (a0.At == a1.At) = true then
 if (a0.Group == a1.Group) = true then
 if (a0.Kind == a1.Kind) = true then
 if (a0.Who == a1.Who) = true then
 (F16 K a0.Rules a1.Rules).bind fun v4 =>
 F32_j2 K v4
 else
 F32_j2 K false
 else
 F32_j2 K false
 else
 F32_j2 K false
 else
 F32_j2 K false
theorem F32_ok (K : Nat) (a0 : Z2) (a1 : Z2) (r : Bool) (h : F32 K a0 a1 = some r) : ACall P 32 ⟨[(Z3 a0), (Z3 a1)], [], (.bool r), [], []⟩ := by
 refine Z1v Try.func32 Try.results32 rfl Try.ntmps32 rfl rfl rfl ?_
 intro E Q hP hN hro hret
 obtain ⟨P', nt', w0, F0, p0, S0, β0, ro0⟩ := E
 simp only at hP hN
 subst hP hN
 dsimp only [argT]
 unfold F32 at h
 refine Zb <| Z5 <| Z1 I (Z2r I I I I I) I <| Z1 I (Z2r I I I I I) I <| Z1 I (Zd (v := (.bool false)) I I) I <| Z7 <| Z8 <| Zb ?_
 refine Z21 (V := Bool) (lp := fun v => F32_j2 K v = some r) (sh := fun v => ⟨[(4, (.bool v))], []⟩) ?_ ?_
 ·intro v h
  revert h
  revert v
  intro v1 h
  try dsimp only at h ⊢
  unfold F32_j2 at h
  refine Z8 <| Z1e ?_
  have h := Option.some.inj h
  subst h
  refine (hret _ ?_).1
  exact ⟨[(.bool v1)], ⟨I, J0⟩, I, J0⟩
 intro J2
 refine Z5 <| Z1 I (Zm I f60_0 I I) I <| Z1 I (Zs I o3 I I I) I <| Z1 I (Zm I f60_0 I I) I <| Z1 I (Zs I o3 I I I) I <| Z1 I (Z1c (c := (a0.At == a1.At)) I I I I) I <| Z1 I (Z9 I I) I ?_
 have hif := Z1h h
 refine Z16 (fun hc => ?_) (fun hc => ?_)
 ·have h := hif.1 hc
  refine Zc I I I I (Zm I f60_1 I I) I <| Zc I I I I (Zs I o9 I I I) I <| Zc I I I I (Zm I f60_1 I I) I <| Zc I I I I (Zs I o9 I I I) I <| Zc I I I I (Z2z (c := (a0.Group == a1.Group)) I I I I) I <| Z1 I (Z19 I I I) I <| Z1 I (Z9 I I) I ?_
  have hif := Z1h h
  refine Z16 (fun hc => ?_) (fun hc => ?_)
  ·have h := hif.1 hc
   refine Zc I I I I (Zm I f60_2 I I) I <| Zc I I I I (Zs I o3 I I I) I <| Zc I I I I (Zm I f60_2 I I) I <| Zc I I I I (Zs I o3 I I I) I <| Zc I I I I (Z1c (c := (a0.Kind == a1.Kind)) I I I I) I <| Z1 I (Z19 I I I) I <| Z1 I (Z9 I I) I ?_
   have hif := Z1h h
   refine Z16 (fun hc => ?_) (fun hc => ?_)
   ·have h := hif.1 hc
    refine Zc I I I I (Zm I f60_3 I I) I <| Zc I I I I (Zs I o9 I I I) I <| Zc I I I I (Zm I f60_3 I I) I <| Zc I I I I (Zs I o9 I I I) I <| Zc I I I I (Z2z (c := (a0.Who == a1.Who)) I I I I) I <| Z1 I (Z19 I I I) I <| Z1 I (Z9 I I) I ?_
    have hif := Z1h h
    refine Z16 (fun hc => ?_) (fun hc => ?_)
    ·have h := hif.1 hc
     refine Zc I I I I (Zm I f60_4 I I) I <| Zc I I I I (Zs I o36 I I I) I <| Zc I I I I (Zm I f60_4 I I) I <| Zc I I I I (Zs I o36 I I I) I ?_
     have ⟨v4, hv4, h⟩ := Z1a h
     refine Zc I I I I (Z1d (ar := [(.sl 1 (a0.Rules.map Z1i) false), (.sl 1 (a1.Rules.map Z1i) false)]) Try.call16 (F16_ok K a0.Rules a1.Rules v4 hv4) I I ⟨I, I, J0⟩ I) I <| Z1 I (Z19 I I I) I <| Z1 I (Zd I I) I <| Z7 ?_
     exact Zz (J2 v4 h) ⟨I, J0⟩ trivial
    have h := hif.2 hc
    iterate 5 refine Zg I I I I I I I ?_
    refine Z1 I (Zy (v := (.bool false)) I I I) I <| Z1 I (Zd (v := (.bool false)) I I) I <| Z7 ?_
    exact Zz (J2 false h) ⟨I, J0⟩ trivial
   have h := hif.2 hc
   iterate 5 refine Zg I I I I I I I ?_
   refine Z1 I (Zy (v := (.bool false)) I I I) I <| Z1 I (Z9 (v := (.bool false)) I I) I ?_
   iterate 5 refine Zg I I I I I I I ?_
   refine Z1 I (Zy (v := (.bool false)) I I I) I <| Z1 I (Zd (v := (.bool false)) I I) I <| Z7 ?_
   exact Zz (J2 false h) ⟨I, J0⟩ trivial
  have h := hif.2 hc
  iterate 5 refine Zg I I I I I I I ?_
  refine Z1 I (Zy (v := (.bool false)) I I I) I <| Z1 I (Z9 (v := (.bool false)) I I) I ?_
  iterate 5 refine Zg I I I I I I I ?_
  refine Z1 I (Zy (v := (.bool false)) I I I) I <| Z1 I (Z9 (v := (.bool false)) I I) I ?_
  iterate 5 refine Zg I I I I I I I ?_
  refine Z1 I (Zy (v := (.bool false)) I I I) I <| Z1 I (Zd (v := (.bool false)) I I) I <| Z7 ?_
  exact Zz (J2 false h) ⟨I, J0⟩ trivial
 have h := hif.2 hc
 iterate 5 refine Zg I I I I I I I ?_
 refine Z1 I (Zy (v := (.bool false)) I I I) I <| Z1 I (Z9 (v := (.bool false)) I I) I ?_
 iterate 5 refine Zg I I I I I I I ?_
 refine Z1 I (Zy (v := (.bool false)) I I I) I <| Z1 I (Z9 (v := (.bool false)) I I) I ?_
 iterate 5 refine Zg I I I I I I I ?_
 refine Z1 I (Zy (v := (.bool false)) I I I) I <| Z1 I (Z9 (v := (.bool false)) I I) I <| Zg I I I I I I I <| Zg I I I I I I I <| Zg I I I I I I I ?_
 refine Zg I I I I I I I <| Zg I I I I I I I <| Z1 I (Zy (v := (.bool false)) I I I) I <| Z1 I (Zd (v := (.bool false)) I I) I <| Z7 ?_
 exact Zz (J2 false h) ⟨I, J0⟩ trivial
end Go.AM.Noti
