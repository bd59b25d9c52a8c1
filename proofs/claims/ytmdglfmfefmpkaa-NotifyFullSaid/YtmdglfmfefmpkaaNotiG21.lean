/- What these functions compute, each with its walk: F9. -/
import Derived.Test.YtmdglfmfefmpkaaNotiT
import Derived.Test.YtmdglfmfefmpkaaNotiG2
namespace Go.AM.Noti
open Go Go.AM Go.Proofs
set_option maxRecDepth 100000
set_option maxHeartbeats 2000000
def F9_j6 (_K : Nat) (v5 : Bool) : Option (Bool) :=
 some v5
noncomputable def F9 (K : Nat) (a0 : Int) : Option (Bool) :=
 (F13 K).bind fun v2 =>
 if (!v2) = true then
 some false
 else
 (F27 K (⟨(⟨0, 1, [(⟨0, [97, 110, 110]⟩ : Zu)]⟩ : Z29), [(⟨[114], [115], (⟨7, (IntKind.i64.wrap (7 + (IntKind.i64.wrap (1 + (IntKind.i64.wrap (a0.tmod 5000))))))⟩ : Z4)⟩ : Zo)], [], []⟩ : Ze) 1048576).bind fun v4 =>
 if (decide ((IntKind.i64.wrap ((IntKind.i64.wrap (1 + (IntKind.i64.wrap (a0.tmod 5000)))) + 1)) > 4096)) = true then
 if ((v4.1.length : Int) == 0) = true then
 some (v4.2 == 6)
 else
 some false
 else
 if ((v4.1.length : Int) == (IntKind.i64.wrap ((IntKind.i64.wrap (1 + (IntKind.i64.wrap (a0.tmod 5000)))) + 1))) = true then
 if (v4.2 == 0) = true then
 if (0 : Int) ≤ 0 ∧ (0 : Int) < v4.1.length then
 if ((v4.1.getD (0 : Int).toNat Zi).Kind == 1) = true then
 if (0 : Int) ≤ (IntKind.i64.wrap (1 + (IntKind.i64.wrap (a0.tmod 5000)))) ∧ (IntKind.i64.wrap (1 + (IntKind.i64.wrap (a0.tmod 5000)))) < v4.1.length then
 if ((v4.1.getD (IntKind.i64.wrap (1 + (IntKind.i64.wrap (a0.tmod 5000)))).toNat Zi).Kind == 3) = true then
 if (0 : Int) ≤ (IntKind.i64.wrap (1 + (IntKind.i64.wrap (a0.tmod 5000)))) ∧ (IntKind.i64.wrap (1 + (IntKind.i64.wrap (a0.tmod 5000)))) < v4.1.length then
 F9_j6 K ((v4.1.getD (IntKind.i64.wrap (1 + (IntKind.i64.wrap (a0.tmod 5000)))).toNat Zi).At == (IntKind.i64.wrap (7 + (IntKind.i64.wrap (1 + (IntKind.i64.wrap (a0.tmod 5000)))))))
 else none
 else
 F9_j6 K false
 else none
 else
 F9_j6 K false
 else none
 else
 F9_j6 K false
 else
 F9_j6 K false
theorem F9_ok (K : Nat) (a0 : Int) (r : Bool) (h : F9 K a0 = some r) : ACall P 9 ⟨[(.int .u16 a0)], [], (.bool r), [], []⟩ := by
 refine Z1v Try.func9 Try.results9 rfl Try.ntmps9 rfl rfl rfl ?_
 intro E Q hP hN hro hret
 obtain ⟨P', nt', w0, F0, p0, S0, β0, ro0⟩ := E
 simp only at hP hN
 subst hP hN
 dsimp only [argT]
 unfold F9 at h
 refine Zb <| Z5 <| Z1 I (Zd (v := (.bool false)) I I) I <| Z7 <| Z8 <| Zb <| Zb <| Z5 ?_
 have ⟨v2, hv2, h⟩ := Z1a h
 refine Z1 I (Z1d (ar := []) Try.call13 (F13_ok K v2 hv2) I I J0 I) I <| Z1 I (Z2c I I) I <| Z7 <| Z8 ?_
 have hif := Z1h h
 refine Zq I (fun hc => ?_) (fun hc => ?_)
 ·have h := hif.1 hc
  refine Zb <| Z5 <| Z1 I (Zd (v := (.bool false)) I I) I <| Z7 <| Z8 <| Z1e <| Zx ?_
  have h := Option.some.inj h
  subst h
  refine (hret _ ?_).1
  exact ⟨[(.bool false)], ⟨I, J0⟩, I, J0⟩
 have h := hif.2 hc
 refine Z14 <| Z8 <| Zb <| Z5 <| Z1 I (Z9 I I) I <| Z1 I (Z2s (b := 5000) (c := (a0.tmod 5000)) I I I I (by decide)) I <| Z1 I (st_conv I us69 u3 I) I <| Z1 I (Z1p (k := .i64) (a := 1) (c := (IntKind.i64.wrap (1 + (IntKind.i64.wrap (a0.tmod 5000))))) I I I I) I <| Z1 I (Zd I I) I <| Z7 <| Z8 <| Zb <| Z5 <| Z1 I (Z23 (vs := [(1, (.str [97, 110, 110]))]) I st71 ⟨I, I, J0⟩ I) I <| Z1 I (Z1m (vs := [(.ag [(.int .i64 0), (.str [97, 110, 110])])]) (enc := Zj) (l := [(⟨0, [97, 110, 110]⟩ : Zu)]) I el27 I I ⟨I, J0⟩ I Z2x I I I I) I <| Z1 I (Z23 (vs := [(1, (.int .i64 1)), (2, (.vs 14))]) I st29 ⟨I, I, I, I, J0⟩ I) I <| Z1 I (Z9 I I) I <| Z1 I (Z1p (k := .i64) (a := 7) (c := (IntKind.i64.wrap (7 + (IntKind.i64.wrap (1 + (IntKind.i64.wrap (a0.tmod 5000))))))) I I I I) I <| Z1 I (Z23 (vs := [(0, (.int .i64 7)), (1, (.int .i64 (IntKind.i64.wrap (7 + (IntKind.i64.wrap (1 + (IntKind.i64.wrap (a0.tmod 5000))))))))]) I st40 ⟨I, I, I, I, J0⟩ I) I <| Z1 I (Z23 (vs := [(0, (.str [114])), (1, (.str [115])), (2, (.ag [(.int .i64 7), (.int .i64 (IntKind.i64.wrap (7 + (IntKind.i64.wrap (1 + (IntKind.i64.wrap (a0.tmod 5000)))))))]))]) I st42 ⟨I, I, I, I, I, I, J0⟩ I) I <| Z1 I (Z1m (vs := [(.ag [(.str [114]), (.str [115]), (.int .i64 7), (.int .i64 (IntKind.i64.wrap (7 + (IntKind.i64.wrap (1 + (IntKind.i64.wrap (a0.tmod 5000)))))))])]) (enc := Zh) (l := [(⟨[114], [115], (⟨7, (IntKind.i64.wrap (7 + (IntKind.i64.wrap (1 + (IntKind.i64.wrap (a0.tmod 5000))))))⟩ : Z4)⟩ : Zo)]) I el30 I I ⟨I, J0⟩ I Z2o I I I I) I <| Z1 I (Z23 (vs := [(0, (.ag [(.int .i64 0), (.int .i64 1), (.vs 14)])), (1, (.vs 20))]) I st34 ⟨I, I, I, I, J0⟩ I) I <| Z1 I (Z1x I z34 I I I) I <| Z1 I (Z1f sz34 I I I I I I I I) I ?_
 refine Z7 <| Z8 <| Zb <| Z5 <| Z1 I (Z1n I a34 I I I I) I <| Z3b (st' := ⟨[(3, (.int .i64 (IntKind.i64.wrap (1 + (IntKind.i64.wrap (a0.tmod 5000)))))), (23, (.ag [(.int .i64 0), (.int .i64 1), (.sl 2 (([(⟨0, [97, 110, 110]⟩ : Zu)]).map Zj) false), (.vs 20), (.sl 5 [] false), (.sl 3 [] false)]))], [(20, (.vec 4 (List.map Zh ([(⟨[114], [115], (⟨7, (IntKind.i64.wrap (7 + (IntKind.i64.wrap (1 + (IntKind.i64.wrap (a0.tmod 5000))))))⟩ : Z4)⟩ : Zo)]))))]⟩) (fun a w h => (Z1k _ (Z22 (m := 14) (sz := 2) (es := (List.map Zj ([(⟨0, [97, 110, 110]⟩ : Zu)]))) a w (Z1k ⟨[(3, (.int .i64 (IntKind.i64.wrap (1 + (IntKind.i64.wrap (a0.tmod 5000)))))), (23, (.ag [(.int .i64 0), (.int .i64 1), (.vs 14), (.vs 20), (.sl 5 [] false), (.sl 3 [] false)]))], [(14, (.vec 2 (List.map Zj ([(⟨0, [97, 110, 110]⟩ : Zu)])))), (20, (.vec 4 (List.map Zh ([(⟨[114], [115], (⟨7, (IntKind.i64.wrap (7 + (IntKind.i64.wrap (1 + (IntKind.i64.wrap (a0.tmod 5000))))))⟩ : Z4)⟩ : Zo)]))))]⟩ h ⟨I, I, J0⟩ ⟨I, I, J0⟩)) ⟨I, I, J0⟩ ⟨I, J0⟩)) <| Z3b (st' := ⟨[(3, (.int .i64 (IntKind.i64.wrap (1 + (IntKind.i64.wrap (a0.tmod 5000)))))), (23, (.ag [(.int .i64 0), (.int .i64 1), (.sl 2 (([(⟨0, [97, 110, 110]⟩ : Zu)]).map Zj) false), (.sl 4 (([(⟨[114], [115], (⟨7, (IntKind.i64.wrap (7 + (IntKind.i64.wrap (1 + (IntKind.i64.wrap (a0.tmod 5000))))))⟩ : Z4)⟩ : Zo)]).map Zh) false), (.sl 5 [] false), (.sl 3 [] false)]))], []⟩) (fun a w h => (Z1k _ (Z22 (m := 20) (sz := 4) (es := (List.map Zh ([(⟨[114], [115], (⟨7, (IntKind.i64.wrap (7 + (IntKind.i64.wrap (1 + (IntKind.i64.wrap (a0.tmod 5000))))))⟩ : Z4)⟩ : Zo)]))) a w (Z1k ⟨[(3, (.int .i64 (IntKind.i64.wrap (1 + (IntKind.i64.wrap (a0.tmod 5000)))))), (23, (.ag [(.int .i64 0), (.int .i64 1), (.sl 2 (([(⟨0, [97, 110, 110]⟩ : Zu)]).map Zj) false), (.vs 20), (.sl 5 [] false), (.sl 3 [] false)]))], [(20, (.vec 4 (List.map Zh ([(⟨[114], [115], (⟨7, (IntKind.i64.wrap (7 + (IntKind.i64.wrap (1 + (IntKind.i64.wrap (a0.tmod 5000))))))⟩ : Z4)⟩ : Zo)]))))]⟩ h ⟨I, I, J0⟩ ⟨I, J0⟩)) ⟨I, I, J0⟩ J0)) ?_
 have ⟨v4, hv4, h⟩ := Z1a h
 refine Z1 I (Z1d (ar := [(.ag [(.int .i64 0), (.int .i64 1), (.sl 2 (([(⟨0, [97, 110, 110]⟩ : Zu)]).map Zj) false), (.sl 4 (([(⟨[114], [115], (⟨7, (IntKind.i64.wrap (7 + (IntKind.i64.wrap (1 + (IntKind.i64.wrap (a0.tmod 5000))))))⟩ : Z4)⟩ : Zo)]).map Zh) false), (.sl 5 [] false), (.sl 3 [] false)]), (.int .i64 1048576)]) Try.call27 (F27_ok K (⟨(⟨0, 1, [(⟨0, [97, 110, 110]⟩ : Zu)]⟩ : Z29), [(⟨[114], [115], (⟨7, (IntKind.i64.wrap (7 + (IntKind.i64.wrap (1 + (IntKind.i64.wrap (a0.tmod 5000))))))⟩ : Z4)⟩ : Zo)], [], []⟩ : Ze) 1048576 v4 hv4) I I ⟨I, I, J0⟩ I) I <| Z1 I (Z9 I I) I <| Z1 I (Z20 I I I) I <| Z1 I (Z20 I I I) I <| Z1 I (Zd I I) I <| Z1 I (Zd I I) I <| Z7 <| Z8 <| Zb <| Zb <| Z5 <| Z1 I (Z9 I I) I <| Z1 I (Z1p (k := .i64) (b := 1) (c := (IntKind.i64.wrap ((IntKind.i64.wrap (1 + (IntKind.i64.wrap (a0.tmod 5000)))) + 1))) I I I I) I <| Z1 I (Z1c (b := 4096) (c := (decide ((IntKind.i64.wrap ((IntKind.i64.wrap (1 + (IntKind.i64.wrap (a0.tmod 5000)))) + 1)) > 4096))) I I I I) I <| Z7 <| Z8 ?_
 have hif := Z1h h
 refine Zq I (fun hc => ?_) (fun hc => ?_)
 ·have h := hif.1 hc
  refine Zb <| Z5 <| Z1 I (Z9 I I) I <| Z1 I (Z24 (l := v4.1) (enc := Z3) I s50 I) I <| Z1 I (Z1c (b := 0) (c := ((v4.1.length : Int) == 0)) I I I I) I <| Z1 I (Z9 I I) I ?_
  have hif := Z1h h
  refine Z16 (fun hc => ?_) (fun hc => ?_)
  ·have h := hif.1 hc
   refine Zc I I I I (Z9 I I) I <| Zc I I I I (Z1c (b := 6) (c := (v4.2 == 6)) I I I I) I <| Z1 I (Z19 I I I) I <| Z1 I (Zd I I) I <| Z7 <| Z8 <| Z1e <| Zx ?_
   have h := Option.some.inj h
   subst h
   refine (hret _ ?_).1
   exact ⟨[(.bool (v4.2 == 6))], ⟨I, J0⟩, I, J0⟩
  have h := hif.2 hc
  refine Zg I I I I I I I <| Zg I I I I I I I <| Z1 I (Zy (v := (.bool false)) I I I) I <| Z1 I (Zd (v := (.bool false)) I I) I <| Z7 <| Z8 <| Z1e <| Zx ?_
  have h := Option.some.inj h
  subst h
  refine (hret _ ?_).1
  exact ⟨[(.bool false)], ⟨I, J0⟩, I, J0⟩
 have h := hif.2 hc
 refine Z14 <| Z8 <| Zb ?_
 refine Z21 (V := Bool) (lp := fun v => F9_j6 K v = some r) (sh := fun v => ⟨[(2, (.bool v))], []⟩) ?_ ?_
 ·intro v h
  revert h
  revert v
  intro v5 h
  try dsimp only at h ⊢
  unfold F9_j6 at h
  refine Z8 <| Z1e ?_
  have h := Option.some.inj h
  subst h
  refine (hret _ ?_).1
  exact ⟨[(.bool v5)], ⟨I, J0⟩, I, J0⟩
 intro J6
 refine Z5 <| Z1 I (Z9 I I) I <| Z1 I (Z24 (l := v4.1) (enc := Z3) I s50 I) I <| Z1 I (Z9 I I) I <| Z1 I (Z1p (k := .i64) (b := 1) (c := (IntKind.i64.wrap ((IntKind.i64.wrap (1 + (IntKind.i64.wrap (a0.tmod 5000)))) + 1))) I I I I) I <| Z1 I (Z1c (c := ((v4.1.length : Int) == (IntKind.i64.wrap ((IntKind.i64.wrap (1 + (IntKind.i64.wrap (a0.tmod 5000)))) + 1)))) I I I I) I <| Z1 I (Z9 I I) I ?_
 have hif := Z1h h
 refine Z16 (fun hc => ?_) (fun hc => ?_)
 ·have h := hif.1 hc
  refine Zc I I I I (Z9 I I) I <| Zc I I I I (Z1c (b := 0) (c := (v4.2 == 0)) I I I I) I <| Z1 I (Z19 I I I) I <| Z1 I (Z9 I I) I ?_
  have hif := Z1h h
  refine Z16 (fun hc => ?_) (fun hc => ?_)
  ·have h := hif.1 hc
   refine Zc I I I I (Z9 I I) I ?_
   have ⟨hg7, h⟩ := Zw h
   refine Zc I I I I (Z1s (k := .i64) (l := v4.1) (enc := Z3) (z := Zi) (n := 0) (full := false) I s50 I I hg7 I) I <| Zc I I I I (Z1w I f60_2 I I I) I <| Zc I I I I (Z1l I o3 I I) I <| Zc I I I I (Z1c (b := 1) (c := ((v4.1.getD (0 : Int).toNat Zi).Kind == 1)) I I I I) I <| Z1 I (Z19 I I I) I <| Z1 I (Z9 I I) I ?_
   have hif := Z1h h
   refine Z16 (fun hc => ?_) (fun hc => ?_)
   ·have h := hif.1 hc
    refine Zc I I I I (Z9 I I) I <| Zc I I I I (Z9 I I) I ?_
    have ⟨hg8, h⟩ := Zw h
    refine Zc I I I I (Z1s (k := .i64) (l := v4.1) (enc := Z3) (z := Zi) (n := (IntKind.i64.wrap (1 + (IntKind.i64.wrap (a0.tmod 5000))))) (full := false) I s50 I I hg8 I) I <| Zc I I I I (Z1w I f60_2 I I I) I <| Zc I I I I (Z1l I o3 I I) I <| Zc I I I I (Z1c (b := 3) (c := ((v4.1.getD (IntKind.i64.wrap (1 + (IntKind.i64.wrap (a0.tmod 5000)))).toNat Zi).Kind == 3)) I I I I) I <| Z1 I (Z19 I I I) I <| Z1 I (Z9 I I) I ?_
    have hif := Z1h h
    refine Z16 (fun hc => ?_) (fun hc => ?_)
    ·have h := hif.1 hc
     refine Zc I I I I (Z9 I I) I <| Zc I I I I (Z9 I I) I ?_
     have ⟨hg9, h⟩ := Zw h
     refine Zc I I I I (Z1s (k := .i64) (l := v4.1) (enc := Z3) (z := Zi) (n := (IntKind.i64.wrap (1 + (IntKind.i64.wrap (a0.tmod 5000))))) (full := false) I s50 I I hg9 I) I <| Zc I I I I (Z1w I f60_0 I I I) I <| Zc I I I I (Z1l I o3 I I) I <| Zc I I I I (Z9 I I) I <| Zc I I I I (Z1p (k := .i64) (a := 7) (c := (IntKind.i64.wrap (7 + (IntKind.i64.wrap (1 + (IntKind.i64.wrap (a0.tmod 5000))))))) I I I I) I <| Zc I I I I (Z1c (c := ((v4.1.getD (IntKind.i64.wrap (1 + (IntKind.i64.wrap (a0.tmod 5000)))).toNat Zi).At == (IntKind.i64.wrap (7 + (IntKind.i64.wrap (1 + (IntKind.i64.wrap (a0.tmod 5000)))))))) I I I I) I <| Z1 I (Z19 I I I) I <| Z1 I (Zd I I) I <| Z7 ?_
     exact Zz (J6 ((v4.1.getD (IntKind.i64.wrap (1 + (IntKind.i64.wrap (a0.tmod 5000)))).toNat Zi).At == (IntKind.i64.wrap (7 + (IntKind.i64.wrap (1 + (IntKind.i64.wrap (a0.tmod 5000))))))) h) ⟨I, J0⟩ trivial
    have h := hif.2 hc
    iterate 8 refine Zg I I I I I I I ?_
    refine Z1 I (Zy (v := (.bool false)) I I I) I <| Z1 I (Zd (v := (.bool false)) I I) I <| Z7 ?_
    exact Zz (J6 false h) ⟨I, J0⟩ trivial
   have h := hif.2 hc
   iterate 6 refine Zg I I I I I I I ?_
   refine Z1 I (Zy (v := (.bool false)) I I I) I <| Z1 I (Z9 (v := (.bool false)) I I) I ?_
   iterate 8 refine Zg I I I I I I I ?_
   refine Z1 I (Zy (v := (.bool false)) I I I) I <| Z1 I (Zd (v := (.bool false)) I I) I <| Z7 ?_
   exact Zz (J6 false h) ⟨I, J0⟩ trivial
  have h := hif.2 hc
  iterate 5 refine Zg I I I I I I I ?_
  refine Z1 I (Zy (v := (.bool false)) I I I) I <| Z1 I (Z9 (v := (.bool false)) I I) I ?_
  iterate 6 refine Zg I I I I I I I ?_
  refine Z1 I (Zy (v := (.bool false)) I I I) I <| Z1 I (Z9 (v := (.bool false)) I I) I ?_
  iterate 8 refine Zg I I I I I I I ?_
  refine Z1 I (Zy (v := (.bool false)) I I I) I ?_
  refine Z1 I (Zd (v := (.bool false)) I I) I <| Z7 ?_
  exact Zz (J6 false h) ⟨I, J0⟩ trivial
 have h := hif.2 hc
 refine Zg I I I I I I I <| Zg I I I I I I I <| Z1 I (Zy (v := (.bool false)) I I I) I <| Z1 I (Z9 (v := (.bool false)) I I) I ?_
 iterate 5 refine Zg I I I I I I I ?_
 refine Z1 I (Zy (v := (.bool false)) I I I) I <| Z1 I (Z9 (v := (.bool false)) I I) I ?_
 iterate 6 refine Zg I I I I I I I ?_
 refine Z1 I (Zy (v := (.bool false)) I I I) I <| Z1 I (Z9 (v := (.bool false)) I I) I ?_
 iterate 5 refine Zg I I I I I I I ?_
 refine Zg I I I I I I I <| Zg I I I I I I I <| Zg I I I I I I I <| Z1 I (Zy (v := (.bool false)) I I I) I <| Z1 I (Zd (v := (.bool false)) I I) I <| Z7 ?_
 exact Zz (J6 false h) ⟨I, J0⟩ trivial
end Go.AM.Noti
