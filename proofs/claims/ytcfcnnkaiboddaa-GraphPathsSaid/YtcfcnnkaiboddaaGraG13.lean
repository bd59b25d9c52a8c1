/- What these functions compute, each with its walk: F3. -/
import Derived.Test.YtcfcnnkaiboddaaGraT
import Derived.Test.YtcfcnnkaiboddaaGraG1
import Derived.Test.YtcfcnnkaiboddaaGraG2
import Derived.Test.YtcfcnnkaiboddaaGraG8
namespace Go.AM.Gra
open Go Go.AM Go.Proofs
set_option maxRecDepth 100000
set_option maxHeartbeats 2000000
def F3_j10 (K : Nat) (v8 : (List Int) × Int) (v4 : (List (List Bool))) (a1 : Int) (a2 : Int) (v9 : Bool) : Option (Bool) :=
 if v9 = true then
  if ((v8.1.length : Int) == 0) = true then
   some (v8.2 == 10)
  else
   some false
 else
  (F17 K v4 a1 a2).bind fun v12 =>
   if ((v12.length : Int) == 0) = true then
    if ((v8.1.length : Int) == 0) = true then
     some (v8.2 == 22)
    else
     some false
   else
    if (v8.2 == 0) = true then
     (F18 K v8.1 v12).bind fun v14 =>
      some v14
    else
     some false
def F3 (K : Nat) (a0 : Zu) (a1 : Int) (a2 : Int) : Option (Bool) :=
 (F13 K).bind fun v2 =>
  if (!v2) = true then
   some false
  else
   (F14 K a0).bind fun v4 =>
    (F16 K v4).bind fun v6 =>
     (F15 K v6 a1 a2).bind fun v8 =>
      if (decide (a1 < 0)) = true then
       F3_j10 K v8 v4 a1 a2 true
      else
       if (decide (a1 ≥ (v4.length : Int))) = true then
        F3_j10 K v8 v4 a1 a2 true
       else
        if (decide (a2 < 0)) = true then
         F3_j10 K v8 v4 a1 a2 true
        else
         F3_j10 K v8 v4 a1 a2 (decide (a2 ≥ (v4.length : Int)))
theorem F3_ok (K : Nat) (a0 : Zu) (a1 : Int) (a2 : Int) (r : Bool) (h : F3 K a0 a1 a2 = some r) : ACall P 3 ⟨[(Zm a0), (.int .i64 a1), (.int .i64 a2)], [], (.bool r), [], []⟩ := by
 refine acall_of Try.func3 Try.results3 rfl Try.ntmps3 rfl rfl rfl ?_
 intro E Q hP hN hro hret
 obtain ⟨P', nt', w0, F0, p0, S0, β0, ro0⟩ := E
 simp only at hP hN
 subst hP hN
 dsimp only [argT]
 unfold F3 at h
 refine Zd <| Z4 <| Z1 I (st_box (v := (Zm a0)) (cs := (Zm a0).cells) I I I I I) I <| Z1 I (Zf (v := (.bool false)) I I) I <| Z8 <| Zc <| Zd <| Zd ?_
 refine Z4 ?_
 have ⟨v2, hv2, h⟩ := of_bind h
 refine Z1 I (st_call0 (ar := []) (caps := []) Try.call13 (F13_ok K v2 hv2) I I trivial I) I <| Z1 I (st_not (b := v2) I I) I <| Z8 <| Zc ?_
 have hif := of_if h
 refine Zp I (fun hc => ?_) (fun hc => ?_)
 ·have h := hif.1 hc
  refine Zd <| Z4 <| Z1 I (Zf (v := (.bool false)) I I) I <| Z8 <| Zc <| AWp.ret <| At.thruR ?_
  have h := Option.some.inj h
  subst h
  refine (hret _ ?_).1
  exact ⟨[(.bool false)], ⟨rfl, trivial⟩, rfl, trivial⟩
 ·have h := hif.2 hc
  refine Zr <| Zc <| Zd <| Z4 <| Z1 I (st_loadPA (cs := (Zm a0).cells) (vs := (Zm a0).cells) I a24 I I I I) I ?_
  have ⟨v4, hv4, h⟩ := of_bind h
  refine Z1 I (st_call0 (ar := [(Zm a0)]) (caps := []) Try.call14 (F14_ok K a0 v4 hv4) I I ⟨rfl, trivial⟩ I) I <| Z1 I (Zf (v := (.sl 1 (v4.map Zl) false)) I I) I <| Z8 <| Zc <| Zd <| Z4 <| Z1 I (Z5 (v := (.sl 1 (v4.map Zl) false)) I I) I ?_
  have ⟨v6, hv6, h⟩ := of_bind h
  refine Z1 I (st_call0 (ar := [(.sl 1 (v4.map Zl) false)]) (caps := []) Try.call16 (F16_ok K v4 v6 hv6) I I ⟨rfl, trivial⟩ I) I <| Z1 I (Z5 (v := (.int .i64 a1)) I I) I <| Z1 I (Z5 (v := (.int .i64 a2)) I I) I ?_
  have ⟨v8, hv8, h⟩ := of_bind h
  refine Z1 I (st_call0 (ar := [(Za v6), (.int .i64 a1), (.int .i64 a2)]) (caps := []) Try.call15 (F15_ok K v6 a1 a2 v8 hv8) I I ⟨rfl, rfl, rfl, trivial⟩ I) I <| Z1 I (Z5 (v := (.tup [(.sl 1 (v8.1.map Z9) false), (.int .i64 v8.2)])) I I) I <| Z1 I (st_extract (vs := [(.sl 1 (v8.1.map Z9) false), (.int .i64 v8.2)]) (v := (.sl 1 (v8.1.map Z9) false)) I I I) I <| Z1 I (st_extract (vs := [(.sl 1 (v8.1.map Z9) false), (.int .i64 v8.2)]) (v := (.int .i64 v8.2)) I I I) I <| Z1 I (Zf (v := (.sl 1 (v8.1.map Z9) false)) I I) I <| Z1 I (Zf (v := (.int .i64 v8.2)) I I) I <| Z8 <| Zc ?_
  refine Zd <| Zd ?_
  refine AWp.join (V := Bool) (lp := fun v => F3_j10 K v8 v4 a1 a2 v = some r) (sh := fun v => ⟨[(1, (.int .i64 a1)), (2, (.int .i64 a2)), (7, (.sl 1 (v4.map Zl) false)), (8, (.sl 1 (v8.1.map Z9) false)), (9, (.int .i64 v8.2)), (40, (.bool v))], []⟩) ?_ ?_
  ·intro v h
   revert h
   revert v
   intro v9 h
   try dsimp only at h ⊢
   unfold F3_j10 at h
   refine Zc ?_
   have hif := of_if h
   refine Zp I (fun hc => ?_) (fun hc => ?_)
   ·have h := hif.1 hc
    refine Zd <| Z4 <| Z1 I (Z5 (v := (.sl 1 (v8.1.map Z9) false)) I I) I <| Z1 I (stx_len (l := v8.1) (enc := Z9) I s29 I) I <| Z1 I (st_cmp (k := .i64) (a := (v8.1.length : Int)) (b := 0) (c := ((v8.1.length : Int) == 0)) I I I I) I <| Z1 I (Z5 (v := (.bool ((v8.1.length : Int) == 0))) I I) I ?_
    have hif := of_if h
    refine AOps.split (fun hc => ?_) (fun hc => ?_)
    ·have h := hif.1 hc
     refine Zi I I I I (Z5 (v := (.int .i64 v8.2)) I I) I <| Zi I I I I (st_cmp (k := .i64) (a := v8.2) (b := 10) (c := (v8.2 == 10)) I I I I) I <| Z1 I (st_pickT (v := (.bool (v8.2 == 10))) I I I) I <| Z1 I (Zf (v := (.bool (v8.2 == 10))) I I) I <| Z8 <| Zc <| AWp.ret <| At.thruR ?_
     have h := Option.some.inj h
     subst h
     refine (hret _ ?_).1
     exact ⟨[(.bool (v8.2 == 10))], ⟨rfl, trivial⟩, rfl, trivial⟩
    ·have h := hif.2 hc
     refine Zb I I I I I I I <| Zb I I I I I I I <| Z1 I (Zt (v := (.bool false)) I I I) I <| Z1 I (Zf (v := (.bool false)) I I) I <| Z8 <| Zc <| AWp.ret <| At.thruR ?_
     have h := Option.some.inj h
     subst h
     refine (hret _ ?_).1
     exact ⟨[(.bool false)], ⟨rfl, trivial⟩, rfl, trivial⟩
   ·have h := hif.2 hc
    refine Zr <| Zc <| Zd <| Z4 <| Z1 I (Z5 (v := (.sl 1 (v4.map Zl) false)) I I) I <| Z1 I (Z5 (v := (.int .i64 a1)) I I) I <| Z1 I (Z5 (v := (.int .i64 a2)) I I) I ?_
    have ⟨v12, hv12, h⟩ := of_bind h
    refine Z1 I (st_call0 (ar := [(.sl 1 (v4.map Zl) false), (.int .i64 a1), (.int .i64 a2)]) (caps := []) Try.call17 (F17_ok K v4 a1 a2 v12 hv12) I I ⟨rfl, rfl, rfl, trivial⟩ I) I <| Z1 I (Zf (v := (.sl 1 (v12.map Z9) false)) I I) I <| Z8 <| Zc <| Zd <| Zd <| Z4 <| Z1 I (Z5 (v := (.sl 1 (v12.map Z9) false)) I I) I ?_
    refine Z1 I (stx_len (l := v12) (enc := Z9) I s29 I) I <| Z1 I (st_cmp (k := .i64) (a := (v12.length : Int)) (b := 0) (c := ((v12.length : Int) == 0)) I I I I) I <| Z8 <| Zc ?_
    have hif := of_if h
    refine Zp I (fun hc => ?_) (fun hc => ?_)
    ·have h := hif.1 hc
     refine Zd <| Z4 <| Z1 I (Z5 (v := (.sl 1 (v8.1.map Z9) false)) I I) I <| Z1 I (stx_len (l := v8.1) (enc := Z9) I s29 I) I <| Z1 I (st_cmp (k := .i64) (a := (v8.1.length : Int)) (b := 0) (c := ((v8.1.length : Int) == 0)) I I I I) I <| Z1 I (Z5 (v := (.bool ((v8.1.length : Int) == 0))) I I) I ?_
     have hif := of_if h
     refine AOps.split (fun hc => ?_) (fun hc => ?_)
     ·have h := hif.1 hc
      refine Zi I I I I (Z5 (v := (.int .i64 v8.2)) I I) I <| Zi I I I I (st_cmp (k := .i64) (a := v8.2) (b := 22) (c := (v8.2 == 22)) I I I I) I <| Z1 I (st_pickT (v := (.bool (v8.2 == 22))) I I I) I <| Z1 I (Zf (v := (.bool (v8.2 == 22))) I I) I <| Z8 <| Zc <| AWp.ret <| At.thruR ?_
      have h := Option.some.inj h
      subst h
      refine (hret _ ?_).1
      exact ⟨[(.bool (v8.2 == 22))], ⟨rfl, trivial⟩, rfl, trivial⟩
     ·have h := hif.2 hc
      refine Zb I I I I I I I <| Zb I I I I I I I <| Z1 I (Zt (v := (.bool false)) I I I) I <| Z1 I (Zf (v := (.bool false)) I I) I <| Z8 <| Zc <| AWp.ret <| At.thruR ?_
      have h := Option.some.inj h
      subst h
      refine (hret _ ?_).1
      exact ⟨[(.bool false)], ⟨rfl, trivial⟩, rfl, trivial⟩
    ·have h := hif.2 hc
     refine Zr <| Zc <| Zd <| Z4 <| Z1 I (Z5 (v := (.int .i64 v8.2)) I I) I <| Z1 I (st_cmp (k := .i64) (a := v8.2) (b := 0) (c := (v8.2 == 0)) I I I I) I <| Z1 I (Z5 (v := (.bool (v8.2 == 0))) I I) I ?_
     have hif := of_if h
     refine AOps.split (fun hc => ?_) (fun hc => ?_)
     ·have h := hif.1 hc
      refine Zi I I I I (Z5 (v := (.sl 1 (v8.1.map Z9) false)) I I) I <| Zi I I I I (Z5 (v := (.sl 1 (v12.map Z9) false)) I I) I ?_
      have ⟨v14, hv14, h⟩ := of_bind h
      refine Zi I I I I (st_call0 (ar := [(.sl 1 (v8.1.map Z9) false), (.sl 1 (v12.map Z9) false)]) (caps := []) Try.call18 (F18_ok K v8.1 v12 v14 hv14) I I ⟨rfl, rfl, trivial⟩ I) I <| Z1 I (st_pickT (v := (.bool v14)) I I I) I <| Z1 I (Zf (v := (.bool v14)) I I) I <| Z8 <| Zc <| AWp.ret ?_
      have h := Option.some.inj h
      subst h
      refine (hret _ ?_).1
      exact ⟨[(.bool v14)], ⟨rfl, trivial⟩, rfl, trivial⟩
     ·have h := hif.2 hc
      refine Zb I I I I I I I <| Zb I I I I I I I <| Zb I I I I I I I <| Z1 I (Zt (v := (.bool false)) I I I) I <| Z1 I (Zf (v := (.bool false)) I I) I <| Z8 <| Zc <| AWp.ret ?_
      have h := Option.some.inj h
      subst h
      refine (hret _ ?_).1
      exact ⟨[(.bool false)], ⟨rfl, trivial⟩, rfl, trivial⟩
  ·intro J10
   refine Z4 <| Z1 I (Z5 (v := (.int .i64 a1)) I I) I <| Z1 I (st_cmp (k := .i64) (a := a1) (b := 0) (c := (decide (a1 < 0))) I I I I) I <| Z1 I (Z5 (v := (.bool (decide (a1 < 0)))) I I) I ?_
   have hif := of_if h
   refine AOps.split (fun hc => ?_) (fun hc => ?_)
   ·have h := hif.1 hc
    refine Zb I I I I I I I <| Zb I I I I I I I <| Zb I I I I I I I <| Zb I I I I I I I <| Z1 I (st_pickT (v := (.bool true)) I I I) I <| Z1 I (Z5 (v := (.bool true)) I I) I <| Zb I I I I I I I <| Zb I I I I I I I ?_
    refine Z1 I (st_pickT (v := (.bool true)) I I I) I <| Z1 I (Z5 (v := (.bool true)) I I) I <| Zb I I I I I I I <| Zb I I I I I I I <| Zb I I I I I I I <| Zb I I I I I I I <| Z1 I (st_pickT (v := (.bool true)) I I I) I <| Z8 ?_
    exact Zj (st' := ⟨[(1, (.int .i64 a1)), (2, (.int .i64 a2)), (7, (.sl 1 (v4.map Zl) false)), (8, (.sl 1 (v8.1.map Z9) false)), (9, (.int .i64 v8.2)), (40, (.bool true))], []⟩) ⟨rfl, rfl, rfl, rfl, rfl, rfl, trivial⟩ trivial (J10 true h)
   ·have h := hif.2 hc
    refine Zi I I I I (Z5 (v := (.int .i64 a1)) I I) I <| Zi I I I I (Z5 (v := (.sl 1 (v4.map Zl) false)) I I) I <| Zi I I I I (stx_len (l := v4) (enc := Zl) I s27 I) I <| Zi I I I I (st_cmp (k := .i64) (a := a1) (b := (v4.length : Int)) (c := (decide (a1 ≥ (v4.length : Int)))) I I I I) I <| Z1 I (Zt (v := (.bool (decide (a1 ≥ (v4.length : Int))))) I I I) I <| Z1 I (Z5 (v := (.bool (decide (a1 ≥ (v4.length : Int))))) I I) I ?_
    have hif := of_if h
    refine AOps.split (fun hc => ?_) (fun hc => ?_)
    ·have h := hif.1 hc
     refine Zb I I I I I I I <| Zb I I I I I I I <| Z1 I (st_pickT (v := (.bool true)) I I I) I <| Z1 I (Z5 (v := (.bool true)) I I) I <| Zb I I I I I I I <| Zb I I I I I I I <| Zb I I I I I I I <| Zb I I I I I I I ?_
     refine Z1 I (st_pickT (v := (.bool true)) I I I) I <| Z8 ?_
     exact Zj (st' := ⟨[(1, (.int .i64 a1)), (2, (.int .i64 a2)), (7, (.sl 1 (v4.map Zl) false)), (8, (.sl 1 (v8.1.map Z9) false)), (9, (.int .i64 v8.2)), (40, (.bool true))], []⟩) ⟨rfl, rfl, rfl, rfl, rfl, rfl, trivial⟩ trivial (J10 true h)
    ·have h := hif.2 hc
     refine Zi I I I I (Z5 (v := (.int .i64 a2)) I I) I <| Zi I I I I (st_cmp (k := .i64) (a := a2) (b := 0) (c := (decide (a2 < 0))) I I I I) I <| Z1 I (Zt (v := (.bool (decide (a2 < 0)))) I I I) I <| Z1 I (Z5 (v := (.bool (decide (a2 < 0)))) I I) I ?_
     have hif := of_if h
     refine AOps.split (fun hc => ?_) (fun hc => ?_)
     ·have h := hif.1 hc
      refine Zb I I I I I I I <| Zb I I I I I I I <| Zb I I I I I I I <| Zb I I I I I I I <| Z1 I (st_pickT (v := (.bool true)) I I I) I <| Z8 ?_
      exact Zj (st' := ⟨[(1, (.int .i64 a1)), (2, (.int .i64 a2)), (7, (.sl 1 (v4.map Zl) false)), (8, (.sl 1 (v8.1.map Z9) false)), (9, (.int .i64 v8.2)), (40, (.bool true))], []⟩) ⟨rfl, rfl, rfl, rfl, rfl, rfl, trivial⟩ trivial (J10 true h)
     ·have h := hif.2 hc
      refine Zi I I I I (Z5 (v := (.int .i64 a2)) I I) I <| Zi I I I I (Z5 (v := (.sl 1 (v4.map Zl) false)) I I) I <| Zi I I I I (stx_len (l := v4) (enc := Zl) I s27 I) I <| Zi I I I I (st_cmp (k := .i64) (a := a2) (b := (v4.length : Int)) (c := (decide (a2 ≥ (v4.length : Int)))) I I I I) I <| Z1 I (Zt (v := (.bool (decide (a2 ≥ (v4.length : Int))))) I I I) I <| Z8 ?_
      exact Zj (st' := ⟨[(1, (.int .i64 a1)), (2, (.int .i64 a2)), (7, (.sl 1 (v4.map Zl) false)), (8, (.sl 1 (v8.1.map Z9) false)), (9, (.int .i64 v8.2)), (40, (.bool (decide (a2 ≥ (v4.length : Int)))))], []⟩) ⟨rfl, rfl, rfl, rfl, rfl, rfl, trivial⟩ trivial (J10 (decide (a2 ≥ (v4.length : Int))) h)
end Go.AM.Gra
