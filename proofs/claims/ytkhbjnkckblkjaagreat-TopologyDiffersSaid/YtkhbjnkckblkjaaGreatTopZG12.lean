/- What these functions compute, each with its walk: F61, F64, F104, F62, F66, F23, F25, F24, F5. -/
import Derived.Test.YtkhbjnkckblkjaaGreatTopZT
import Derived.Test.YtkhbjnkckblkjaaGreatTopZG0
import Derived.Test.YtkhbjnkckblkjaaGreatTopZG1
import Derived.Test.YtkhbjnkckblkjaaGreatTopZG3
namespace Go.AM.TopZ
open Go Go.AM Go.Proofs
set_option maxRecDepth 100000
set_option maxHeartbeats 2000000
def Z7o (K : Nat) (v11 : (List (Z7 × Bool))) : Option ((List (Z7 × Bool))) :=
 some v11
def Z6m (K : Nat) (a0 : Zc) (a2 : Int) (c13 : (List (Z7 × Bool)) → Option ((List (Z7 × Bool)))) : Nat → Int → (List (Z7 × Bool)) → Option ((List (Z7 × Bool)))
 | 0, _, _ => none
 | k10 + 1, v8, v9 =>
  if (decide (v8 < (a0.Calls.length : Int))) = true then
   if (0 : Int) ≤ v8 ∧ v8 < a0.Calls.length then
    (Z6m K a0 a2 c13 k10) (IntKind.i64.wrap (v8 + 1)) (mput Z1a (⟨a2, (a0.Calls.getD v8.toNat Z6).Caller, (a0.Calls.getD v8.toNat Z6).Callee⟩ : Z7) true v9)
   else none
  else
   c13 v9
def Zaj (K : Nat) (a0 : Zc) (a2 : Int) (v5 : (List (Z7 × Bool))) : Option ((List (Z7 × Bool))) :=
 Z6m K a0 a2 (Z7o K) K 0 v5
def Za6 (K : Nat) (a0 : Zc) (a1 : Int) (c7 : (List (Z7 × Bool)) → Option ((List (Z7 × Bool)))) : Nat → Int → (List (Z7 × Bool)) → Option ((List (Z7 × Bool)))
 | 0, _, _ => none
 | k4 + 1, v2, v3 =>
  if (decide (v2 < (a0.Services.length : Int))) = true then
   if (0 : Int) ≤ v2 ∧ v2 < a0.Services.length then
    (Za6 K a0 a1 c7 k4) (IntKind.i64.wrap (v2 + 1)) (mput Z1a (⟨a1, (a0.Services.getD v2.toNat Z9).Name, []⟩ : Z7) true v3)
   else none
  else
   c7 v3
def F61 (K : Nat) (a0 : Zc) (a1 : Int) (a2 : Int) : Option ((List (Z7 × Bool))) :=
 Za6 K a0 a1 (Zaj K a0 a2) K 0 ([] : List (Z7 × Bool))
theorem F61_ok (K : Nat) (a0 : Zc) (a1 : Int) (a2 : Int) (r : (List (Z7 × Bool))) (h : F61 K a0 a1 a2 = some r) : ACall P 61 ⟨[(Z4 a0), (.int .i64 a1), (.int .i64 a2)], [], (.map 12), [(12, (.map (Zu Z1 Z1h r)))], [12]⟩ := by
 refine Z1s Tryz.func61 Tryz.results61 rfl Tryz.ntmps61 rfl rfl rfl ?_
 intro E Q hP hN hro hret
 obtain ⟨P', nt', w0, F0, p0, S0, β0, ro0⟩ := E
 simp only at hP hN
 subst hP hN
 dsimp only [argT]
 unfold F61 at h
 refine Zj <| Zf <| Z2 I (Z2m (v := (Z4 a0)) (cs := (Z4 a0).cells) I I I I I) I <| Z2 I (Zp (v := .nilm) I I) I <| Zi <| Zh <| Zj <| Zf ?_
 refine Z2 I (Z61 I) I <| Z2 I (Zp (v := (.map 12)) I I) I <| Zi <| Zh <| Zj <| Zj <| Zf <| Z2 I (Zr (m := 3) (o := 0) I Z3v I I) I ?_
 refine Z2 I (Zt (cs := (Z4 a0).cells) (v := (.sl 4 (a0.Services.map Z3) false)) I o41 I I I) I <| Z2 I (Z24 (l := a0.Services) (enc := Z3) I s41 I) I <| Z2 I (Zo (v := (.int .i64 0)) I I) I <| Zi <| Zh <| AWp.weaken (st' := ⟨[(1, (.int .i64 a1)), (2, (.int .i64 a2)), (3, (.ptr 3 0)), (7, (.map 12)), (14, (.sl 4 (a0.Services.map Z3) false)), (15, (.int .i64 (a0.Services.length : Int))), (16, (.int .i64 0))], [(3, (.box (Z4 a0).cells)), (12, (.map (Zu Z1 Z1h ([] : List (Z7 × Bool)))))]⟩) ⟨rfl, rfl, rfl, rfl, rfl, rfl, rfl, trivial⟩ ⟨rfl, rfl, trivial⟩ ?_
 refine Z1n (V := Int × (List (Z7 × Bool))) (X := (List (Z7 × Bool))) (lp := fun k v => Za6 K a0 a1 (Zaj K a0 a2) k v.1 v.2 = some r) (sh := fun v => ⟨[(1, (.int .i64 a1)), (2, (.int .i64 a2)), (3, (.ptr 3 0)), (7, (.map 12)), (14, (.sl 4 (a0.Services.map Z3) false)), (15, (.int .i64 (a0.Services.length : Int))), (16, (.int .i64 v.1))], [(3, (.box (Z4 a0).cells)), (12, (.map (Zu Z1 Z1h v.2)))]⟩) (x := fun v => Zaj K a0 a2 v = some r) (shx := fun v => ⟨[(2, (.int .i64 a2)), (3, (.ptr 3 0)), (7, (.map 12))], [(3, (.box (Z4 a0).cells)), (12, (.map (Zu Z1 Z1h v)))]⟩) (k := K) (v := (0, ([] : List (Z7 × Bool)))) h ?_ ?_
 ·intro v h
  revert h
  revert v
  intro v5 h
  try dsimp only at h ⊢
  unfold Zaj at h
  refine Zh <| Zj <| Zj <| Zf <| Z2 I (Zr (m := 3) (o := 0) I Z3i I I) I <| Z2 I (Zt (cs := (Z4 a0).cells) (v := (.sl 5 (a0.Calls.map Z5) false)) I o42 I I I) I <| Z2 I (Z24 (l := a0.Calls) (enc := Z5) I s42 I) I <| Z2 I (Zo (v := (.int .i64 0)) I I) I ?_
  refine Zi <| Zh <| AWp.weaken (st' := ⟨[(2, (.int .i64 a2)), (7, (.map 12)), (27, (.sl 5 (a0.Calls.map Z5) false)), (28, (.int .i64 (a0.Calls.length : Int))), (29, (.int .i64 0))], [(12, (.map (Zu Z1 Z1h v5)))]⟩) ⟨rfl, rfl, rfl, rfl, rfl, trivial⟩ ⟨rfl, trivial⟩ ?_
  refine Z1n (V := Int × (List (Z7 × Bool))) (X := (List (Z7 × Bool))) (lp := fun k v => Z6m K a0 a2 (Z7o K) k v.1 v.2 = some r) (sh := fun v => ⟨[(2, (.int .i64 a2)), (7, (.map 12)), (27, (.sl 5 (a0.Calls.map Z5) false)), (28, (.int .i64 (a0.Calls.length : Int))), (29, (.int .i64 v.1))], [(12, (.map (Zu Z1 Z1h v.2)))]⟩) (x := fun v => Z7o K v = some r) (shx := fun v => ⟨[(7, (.map 12))], [(12, (.map (Zu Z1 Z1h v)))]⟩) (k := K) (v := (0, v5)) h ?_ ?_
  ·intro v h
   revert h
   revert v
   intro v11 h
   try dsimp only at h ⊢
   unfold Z7o at h
   refine Zh <| Zj <| Zf <| Z2 I (Zo (v := (.map 12)) I I) I <| Z2 I (Zp (v := (.map 12)) I I) I <| Zi <| Zh <| Z1g ?_
   have h := Option.some.inj h
   subst h
   refine (hret _ ?_).1
   exact ⟨[(.map 12)], ⟨rfl, trivial⟩, rfl, ⟨rfl, trivial⟩⟩
  ·intro N k10 v h IH10 J10
   obtain ⟨v8, v9⟩ := v
   try dsimp only at h IH10 J10 ⊢
   cases k10 with
   | zero => cases h
   | succ k10 =>
    rw [Z6m] at h
    refine Zj <| Zf <| Z2 I (Z25 (k := .i64) (a := v8) (b := (a0.Calls.length : Int)) (c := (decide (v8 < (a0.Calls.length : Int)))) I I I I) I <| Zi <| Zh <| Zj ?_
    have hif := Z28 h
    refine Z16 I (fun hc => ?_) (fun hc => ?_)
    ·have h := hif.1 hc
     refine Z1b <| Zh <| Zj <| AWp.block <| Zj <| Zf ?_
     have ⟨hg15, h⟩ := Z13 h
     refine Z2 I (Z1w (k := .i64) (l := a0.Calls) (enc := Z5) (z := Z6) (n := v8) (cs := (Z5 (a0.Calls.getD v8.toNat Z6)).cells) (full := false) I s42 I I hg15 I) I <| Z2 I (Z2i (cs := (Z5 (a0.Calls.getD v8.toNat Z6)).cells) (vs := (Z5 (a0.Calls.getD v8.toNat Z6)).cells) I a88 I I I) I <| Z2 I (Z1v (cs := [(.str []), (.str []), (.int .i64 0), (.int .i64 0), (.int .i64 0)]) I z88 I I I) I <| Z2 I (Z1e (cs := [(.str []), (.str []), (.int .i64 0), (.int .i64 0), (.int .i64 0)]) (vs := (Z5 (a0.Calls.getD v8.toNat Z6)).cells) (ds := (Z5 (a0.Calls.getD v8.toNat Z6)).cells) (v := (Z5 (a0.Calls.getD v8.toNat Z6))) sz88 I I I I I I I I) I <| Zi <| Zh <| Zf <| Z2 I (Zo (v := (.map 12)) I I) I ?_
     refine Z2 I (Zo (v := (.int .i64 a2)) I I) I <| Z2 I (Zr (m := 11) (o := 0) I Z7d I I) I <| Z2 I (Zt (cs := (Z5 (a0.Calls.getD v8.toNat Z6)).cells) (v := (.str (a0.Calls.getD v8.toNat Z6).Caller)) I o9 I I I) I <| Z2 I (Zr (m := 11) (o := 0) I Z7g I I) I <| Z2 I (Zt (cs := (Z5 (a0.Calls.getD v8.toNat Z6)).cells) (v := (.str (a0.Calls.getD v8.toNat Z6).Callee)) I o9 I I I) I <| Z2 I (Z27 (vs := [(0, (.int .i64 a2)), (1, (.str (a0.Calls.getD v8.toNat Z6).Caller)), (2, (.str (a0.Calls.getD v8.toNat Z6).Callee))]) (cs := [(.int .i64 a2), (.str (a0.Calls.getD v8.toNat Z6).Caller), (.str (a0.Calls.getD v8.toNat Z6).Callee)]) I st64 ⟨rfl, rfl, rfl, rfl, rfl, rfl, trivial⟩ I) I <| Z2 I (Z3r (l := v9) (a := (⟨a2, (a0.Calls.getD v8.toNat Z6).Caller, (a0.Calls.getD v8.toNat Z6).Callee⟩ : Z7)) (b := true) (kv := (.ag [(.int .i64 a2), (.str (a0.Calls.getD v8.toNat Z6).Caller), (.str (a0.Calls.getD v8.toNat Z6).Callee)])) (vv := (.bool true)) mt131 I I I I I I) I <| Zi ?_
     refine At.end <| Zh <| Zf <| Z2 I (Z1u (k := .i64) (a := v8) (b := 1) (c := (IntKind.i64.wrap (v8 + 1))) I I I I) I <| Z2 I (Zo (v := (.int .i64 (IntKind.i64.wrap (v8 + 1)))) I I) I <| Zi ?_
     exact Zy (st' := ⟨[(2, (.int .i64 a2)), (7, (.map 12)), (27, (.sl 5 (a0.Calls.map Z5) false)), (28, (.int .i64 (a0.Calls.length : Int))), (29, (.int .i64 (IntKind.i64.wrap (v8 + 1))))], [(12, (.map (Zu Z1 Z1h (mput Z1a (⟨a2, (a0.Calls.getD v8.toNat Z6).Caller, (a0.Calls.getD v8.toNat Z6).Callee⟩ : Z7) true v9))))]⟩) ⟨rfl, rfl, rfl, rfl, rfl, trivial⟩ ⟨rfl, trivial⟩ (IH10 _ ((IntKind.i64.wrap (v8 + 1)), (mput Z1a (⟨a2, (a0.Calls.getD v8.toNat Z6).Caller, (a0.Calls.getD v8.toNat Z6).Callee⟩ : Z7) true v9)) (Nat.lt_succ_self _) h)
    ·have h := hif.2 hc
     refine AWp.exit <| At.thru ?_
     exact Zy (st' := ⟨[(7, (.map 12))], [(12, (.map (Zu Z1 Z1h v9)))]⟩) ⟨rfl, trivial⟩ ⟨rfl, trivial⟩ (J10 v9 h)
 ·intro N k4 v h IH4 J4
  obtain ⟨v2, v3⟩ := v
  try dsimp only at h IH4 J4 ⊢
  cases k4 with
  | zero => cases h
  | succ k4 =>
   rw [Za6] at h
   refine Zj <| Zf <| Z2 I (Z25 (k := .i64) (a := v2) (b := (a0.Services.length : Int)) (c := (decide (v2 < (a0.Services.length : Int)))) I I I I) I <| Zi <| Zh <| Zj ?_
   have hif := Z28 h
   refine Z16 I (fun hc => ?_) (fun hc => ?_)
   ·have h := hif.1 hc
    refine Z1b <| Zh <| Zj <| AWp.block <| Zj <| Zf ?_
    have ⟨hg17, h⟩ := Z13 h
    refine Z2 I (Z1w (k := .i64) (l := a0.Services) (enc := Z3) (z := Z9) (n := v2) (cs := (Z3 (a0.Services.getD v2.toNat Z9)).cells) (full := false) I s41 I I hg17 I) I <| Z2 I (Z2i (cs := (Z3 (a0.Services.getD v2.toNat Z9)).cells) (vs := (Z3 (a0.Services.getD v2.toNat Z9)).cells) I a68 I I I) I <| Z2 I (Z1v (cs := [(.str []), (.int .i64 0), (.int .i64 0), (.int .i64 0)]) I z68 I I I) I <| Z2 I (Z1e (cs := [(.str []), (.int .i64 0), (.int .i64 0), (.int .i64 0)]) (vs := (Z3 (a0.Services.getD v2.toNat Z9)).cells) (ds := (Z3 (a0.Services.getD v2.toNat Z9)).cells) (v := (Z3 (a0.Services.getD v2.toNat Z9))) sz68 I I I I I I I I) I <| Zi <| Zh <| Zf <| Z2 I (Zo (v := (.map 12)) I I) I ?_
    refine Z2 I (Zo (v := (.int .i64 a1)) I I) I <| Z2 I (Zr (m := 9) (o := 0) I Z6s I I) I <| Z2 I (Zt (cs := (Z3 (a0.Services.getD v2.toNat Z9)).cells) (v := (.str (a0.Services.getD v2.toNat Z9).Name)) I o9 I I I) I <| Z2 I (Z27 (vs := [(0, (.int .i64 a1)), (1, (.str (a0.Services.getD v2.toNat Z9).Name)), (2, (.str []))]) (cs := [(.int .i64 a1), (.str (a0.Services.getD v2.toNat Z9).Name), (.str [])]) I st64 ⟨rfl, rfl, rfl, rfl, rfl, rfl, trivial⟩ I) I <| Z2 I (Z3r (l := v3) (a := (⟨a1, (a0.Services.getD v2.toNat Z9).Name, []⟩ : Z7)) (b := true) (kv := (.ag [(.int .i64 a1), (.str (a0.Services.getD v2.toNat Z9).Name), (.str [])])) (vv := (.bool true)) mt131 I I I I I I) I <| Zi <| At.end <| Zh ?_
    refine Zf <| Z2 I (Z1u (k := .i64) (a := v2) (b := 1) (c := (IntKind.i64.wrap (v2 + 1))) I I I I) I <| Z2 I (Zo (v := (.int .i64 (IntKind.i64.wrap (v2 + 1)))) I I) I <| Zi ?_
    exact Zy (st' := ⟨[(1, (.int .i64 a1)), (2, (.int .i64 a2)), (3, (.ptr 3 0)), (7, (.map 12)), (14, (.sl 4 (a0.Services.map Z3) false)), (15, (.int .i64 (a0.Services.length : Int))), (16, (.int .i64 (IntKind.i64.wrap (v2 + 1))))], [(3, (.box (Z4 a0).cells)), (12, (.map (Zu Z1 Z1h (mput Z1a (⟨a1, (a0.Services.getD v2.toNat Z9).Name, []⟩ : Z7) true v3))))]⟩) ⟨rfl, rfl, rfl, rfl, rfl, rfl, rfl, trivial⟩ ⟨rfl, rfl, trivial⟩ (IH4 _ ((IntKind.i64.wrap (v2 + 1)), (mput Z1a (⟨a1, (a0.Services.getD v2.toNat Z9).Name, []⟩ : Z7) true v3)) (Nat.lt_succ_self _) h)
   ·have h := hif.2 hc
    refine AWp.exit <| At.thru ?_
    exact Zy (st' := ⟨[(2, (.int .i64 a2)), (3, (.ptr 3 0)), (7, (.map 12))], [(3, (.box (Z4 a0).cells)), (12, (.map (Zu Z1 Z1h v3)))]⟩) ⟨rfl, rfl, rfl, trivial⟩ ⟨rfl, rfl, trivial⟩ (J4 v3 h)
def F64 (K : Nat) (a0 : (List (Z7 × Bool))) : Option (Unit) :=
 some ()
theorem F64_ok (K : Nat) (a0 : (List (Z7 × Bool))) (r : Unit) (h : F64 K a0 = some r) : ACall P 64 ⟨[(.map 2000)], [(2000, (.map (Zu Z1 Z1h a0)))], (.clo 106 [(.ptr 1 0)]), [(2000, (.map (Zu Z1 Z1h a0))), (1, (.box [(.map 2000)]))], [1]⟩ := by
 refine Z1s Tryz.func64 Tryz.results64 rfl Tryz.ntmps64 rfl rfl rfl ?_
 intro E Q hP hN hro hret
 obtain ⟨P', nt', w0, F0, p0, S0, β0, ro0⟩ := E
 simp only at hP hN
 subst hP hN
 dsimp only [argT]
 unfold F64 at h
 refine Zj <| Zf <| Z2 I (Z2m (v := (.map 2000)) (cs := [(.map 2000)]) I I I I I) I <| Z2 I (Zp (v := .nilf) I I) I <| Zi <| Zh <| Zj <| Zf ?_
 refine Z2 I (Z5d (vs := [(.ptr 1 0)]) I ⟨rfl, trivial⟩) I <| Z2 I (Zp (v := (.clo 106 [(.ptr 1 0)])) I I) I <| Zi <| Zh <| Z1g ?_
 have h := Option.some.inj h
 subst h
 refine (hret _ ?_).1
 exact ⟨[(.clo 106 [(.ptr 1 0)])], ⟨rfl, trivial⟩, rfl, ⟨rfl, rfl, trivial⟩⟩
def Z86 (K : Nat) (v1 : (List Z7)) : Option ((List Z7)) :=
 some v1
def F104 (K : Nat) (a1 : Int) : Option ((List Z7)) :=
 if (decide (a1 < 0)) = true then
  none
 else
  if (decide ((IntKind.i64.wrap (a1 - (IntKind.i64.wrap (0 - (([] : List Z7).length : Int))))) > 0)) = true then
   if 0 < (IntKind.i64.wrap (a1 - (IntKind.i64.wrap (0 - (([] : List Z7).length : Int))))) ∧ (IntKind.i64.wrap (a1 - (IntKind.i64.wrap (0 - (([] : List Z7).length : Int))))) ≤ 1073741824 then
    if (0 : Int) ≤ 0 ∧ 0 ≤ (([] : List Z7).length : Int) ∧ (([] : List Z7).length : Int) ≤ ((List.replicate (IntKind.i64.wrap (a1 - (IntKind.i64.wrap (0 - (([] : List Z7).length : Int))))).toNat (Ze : Z7)).length : Nat) then
     if (0 + (0 : Int).toNat) + ((([] : List Z7).length : Int).toNat - (0 : Int).toNat) ≤ (List.replicate (IntKind.i64.wrap (a1 - (IntKind.i64.wrap (0 - (([] : List Z7).length : Int))))).toNat (Ze : Z7)).length then
      if (0 + (0 : Int).toNat) + ((([] : List Z7).length : Int).toNat - (0 : Int).toNat) ≤ (List.replicate (IntKind.i64.wrap (a1 - (IntKind.i64.wrap (0 - (([] : List Z7).length : Int))))).toNat (Ze : Z7)).length then
       Z86 K (((List.replicate (IntKind.i64.wrap (a1 - (IntKind.i64.wrap (0 - (([] : List Z7).length : Int))))).toNat (Ze : Z7)).drop (0 + (0 : Int).toNat)).take ((([] : List Z7).length : Int).toNat - (0 : Int).toNat))
      else none
     else none
    else none
   else none
  else
   Z86 K []
theorem F104_ok (K : Nat) (a1 : Int) (r : (List Z7)) (h : F104 K a1 = some r) : ACall P 104 ⟨[(.sl 3 [] true), (.int .i64 a1)], [], .vs 4, [(4, .vec 3 (List.map Z1 r))], [4]⟩ := by
 refine Z1s Tryz.func104 Tryz.results104 rfl Tryz.ntmps104 rfl rfl rfl ?_
 intro E Q hP hN hro hret
 obtain ⟨P', nt', w0, F0, p0, S0, β0, ro0⟩ := E
 simp only at hP hN
 subst hP hN
 dsimp only [argT]
 unfold F104 at h
 refine Zj <| Zf <| Z2 I (Zp (v := (.sl 3 [] false)) I I) I <| Zi <| Zh <| Zj <| Zj <| Zf ?_
 refine Z2 I (Zo (v := (.int .i64 a1)) I I) I <| Z2 I (Z25 (k := .i64) (a := a1) (b := 0) (c := (decide (a1 < 0))) I I I I) I <| Zi <| Zh ?_
 have hif := Z28 h
 refine Z16 I (fun hc => ?_) (fun hc => ?_)
 ·have h := hif.1 hc
  cases h
 ·have h := hif.2 hc
  refine Z1b <| Zh <| Zj <| Zj <| Zf <| Z2 I (Zo (v := (.int .i64 a1)) I I) I <| Z2 I (Zo (v := (.sl 3 [] true)) I I) I <| Z2 I (st_capF I u60 I) I ?_
  refine Z2 I (Zo (v := (.sl 3 [] true)) I I) I <| Z2 I (Z24 (l := ([] : List Z7)) (enc := Z1) I s60 I) I <| Z2 I (Z1u (k := .i64) (a := 0) (b := (([] : List Z7).length : Int)) (c := (IntKind.i64.wrap (0 - (([] : List Z7).length : Int)))) I I I I) I <| Z2 I (Z1u (k := .i64) (a := a1) (b := (IntKind.i64.wrap (0 - (([] : List Z7).length : Int)))) (c := (IntKind.i64.wrap (a1 - (IntKind.i64.wrap (0 - (([] : List Z7).length : Int)))))) I I I I) I <| Z2 I (Zp (v := (.int .i64 (IntKind.i64.wrap (a1 - (IntKind.i64.wrap (0 - (([] : List Z7).length : Int))))))) I I) I <| Zi <| Zh <| Zj ?_
  refine Zf <| Z2 I (Zo (v := (.int .i64 (IntKind.i64.wrap (a1 - (IntKind.i64.wrap (0 - (([] : List Z7).length : Int))))))) I I) I <| Z2 I (Z25 (k := .i64) (a := (IntKind.i64.wrap (a1 - (IntKind.i64.wrap (0 - (([] : List Z7).length : Int)))))) (b := 0) (c := (decide ((IntKind.i64.wrap (a1 - (IntKind.i64.wrap (0 - (([] : List Z7).length : Int))))) > 0))) I I I I) I <| Zi <| Zh ?_
  refine AWp.join (V := (List Z7)) (lp := fun v => Z86 K v = some r) (sh := fun v => ⟨[(0, (.vs 0))], [(0, (.vec 3 (List.map Z1 v)))]⟩) ?_ ?_
  ·intro v h
   revert h
   revert v
   intro v1 h
   try dsimp only at h ⊢
   unfold Z86 at h
   refine Zh <| Zj <| Zf <| Z2 I (Zo (v := (.vs 0)) I I) I <| Z2 I (Zp (v := (.vs 0)) I I) I <| Zi <| Zh <| Z1g ?_
   refine At.ghost (st' := ⟨[(4, (.vs 4))], [(4, (.vec 3 (List.map Z1 v1)))]⟩) (fun a w h => (Z17 ⟨[(4, (.vs 4))], [(4, (.vec 3 (List.map Z1 v1)))]⟩ (Z4z (a := 0) (b := 4) I I a w (Z17 ⟨[(4, (.vs 0))], [(0, (.vec 3 (List.map Z1 v1)))]⟩ h ⟨rfl, trivial⟩ ⟨rfl, trivial⟩)) ⟨rfl, trivial⟩ ⟨rfl, trivial⟩)) ?_
   have h := Option.some.inj h
   subst h
   refine (hret _ ?_).1
   exact ⟨[(.vs 4)], ⟨rfl, trivial⟩, rfl, ⟨rfl, trivial⟩⟩
  ·intro J2
   have hif := Z28 h
   refine Z16 I (fun hc => ?_) (fun hc => ?_)
   ·have h := hif.1 hc
    refine Zf <| Z2 I (Zo (v := (.sl 3 [] true)) I I) I <| Z2 I (Zo (v := (.sl 3 [] true)) I I) I <| Z2 I (st_capF I u60 I) I <| Z2 I (st_sliceNil (kh := .i64) I s60 I I) I <| Z2 I (Zo (v := (.int .i64 (IntKind.i64.wrap (a1 - (IntKind.i64.wrap (0 - (([] : List Z7).length : Int))))))) I I) I ?_
    have ⟨hg3, h⟩ := Z13 h
    refine Z2 I (Zag (ky := .i64) (kn := .i64) (c := (IntKind.i64.wrap (a1 - (IntKind.i64.wrap (0 - (([] : List Z7).length : Int)))))) (n := (IntKind.i64.wrap (a1 - (IntKind.i64.wrap (0 - (([] : List Z7).length : Int))))).toNat) I el60 I u3 ze64 Z21 I I I hg3 I) I <| Z2 I (Zo (v := (.sl 3 [] true)) I I) I <| Z2 I (Z24 (l := ([] : List Z7)) (enc := Z1) I s60 I) I ?_
    have ⟨hg4, h⟩ := Z13 h
    have ⟨hg5, h⟩ := Z13 h
    refine Z2 I (Z9a (v := (.vs 22)) (n := 22) (off := 0) (len := (List.replicate (IntKind.i64.wrap (a1 - (IntKind.i64.wrap (0 - (([] : List Z7).length : Int))))).toNat (Ze : Z7)).length) (l := (List.replicate (IntKind.i64.wrap (a1 - (IntKind.i64.wrap (0 - (([] : List Z7).length : Int))))).toNat (Ze : Z7))) (enc := Z1) (kh := .i64) (hi := (([] : List Z7).length : Int)) I s60 I I (Z43 _ _ _) I hg4 I) I <| Z2 I (Zp (v := (.vsub 22 (0 + (0 : Int).toNat) ((([] : List Z7).length : Int).toNat - (0 : Int).toNat) false)) I I) I <| Zi ?_
    have ⟨hg6, h⟩ := Z13 h
    refine At.ghost (st' := ⟨[(0, (.vs 22))], [(22, (.vec 3 (List.map Z1 (((List.replicate (IntKind.i64.wrap (a1 - (IntKind.i64.wrap (0 - (([] : List Z7).length : Int))))).toNat (Ze : Z7)).drop (0 + (0 : Int).toNat)).take ((([] : List Z7).length : Int).toNat - (0 : Int).toNat)))))]⟩) (fun a w h => (Z17 ⟨[(0, (.vs 22))], [(22, (.vec 3 (List.map Z1 (((List.replicate (IntKind.i64.wrap (a1 - (IntKind.i64.wrap (0 - (([] : List Z7).length : Int))))).toNat (Ze : Z7)).drop (0 + (0 : Int).toNat)).take ((([] : List Z7).length : Int).toNat - (0 : Int).toNat)))))]⟩ (Z9k (k := 0) (m := 22) (sz := 3) (off := (0 + (0 : Int).toNat)) (len := ((([] : List Z7).length : Int).toNat - (0 : Int).toNat)) (enc := Z1) (l := (List.replicate (IntKind.i64.wrap (a1 - (IntKind.i64.wrap (0 - (([] : List Z7).length : Int))))).toNat (Ze : Z7))) I hg6 a w (Z17 ⟨[(0, (.vsub 22 (0 + (0 : Int).toNat) ((([] : List Z7).length : Int).toNat - (0 : Int).toNat) false))], [(22, (.vec 3 (List.map Z1 (List.replicate (IntKind.i64.wrap (a1 - (IntKind.i64.wrap (0 - (([] : List Z7).length : Int))))).toNat (Ze : Z7)))))]⟩ h ⟨rfl, trivial⟩ ⟨rfl, trivial⟩)) ⟨rfl, trivial⟩ ⟨rfl, trivial⟩)) <| At.ghost (st' := ⟨[(0, (.vs 0))], [(0, (.vec 3 (List.map Z1 (((List.replicate (IntKind.i64.wrap (a1 - (IntKind.i64.wrap (0 - (([] : List Z7).length : Int))))).toNat (Ze : Z7)).drop (0 + (0 : Int).toNat)).take ((([] : List Z7).length : Int).toNat - (0 : Int).toNat)))))]⟩) (fun a w h => (Z17 ⟨[(0, (.vs 0))], [(0, (.vec 3 (List.map Z1 (((List.replicate (IntKind.i64.wrap (a1 - (IntKind.i64.wrap (0 - (([] : List Z7).length : Int))))).toNat (Ze : Z7)).drop (0 + (0 : Int).toNat)).take ((([] : List Z7).length : Int).toNat - (0 : Int).toNat)))))]⟩ (Z4z (a := 22) (b := 0) I I a w (Z17 ⟨[(0, (.vs 22))], [(22, (.vec 3 (List.map Z1 (((List.replicate (IntKind.i64.wrap (a1 - (IntKind.i64.wrap (0 - (([] : List Z7).length : Int))))).toNat (Ze : Z7)).drop (0 + (0 : Int).toNat)).take ((([] : List Z7).length : Int).toNat - (0 : Int).toNat)))))]⟩ h ⟨rfl, trivial⟩ ⟨rfl, trivial⟩)) ⟨rfl, trivial⟩ ⟨rfl, trivial⟩)) ?_
    exact Zy (st' := ⟨[(0, (.vs 0))], [(0, (.vec 3 (List.map Z1 (((List.replicate (IntKind.i64.wrap (a1 - (IntKind.i64.wrap (0 - (([] : List Z7).length : Int))))).toNat (Ze : Z7)).drop (0 + (0 : Int).toNat)).take ((([] : List Z7).length : Int).toNat - (0 : Int).toNat)))))]⟩) ⟨rfl, trivial⟩ ⟨rfl, trivial⟩ (J2 (((List.replicate (IntKind.i64.wrap (a1 - (IntKind.i64.wrap (0 - (([] : List Z7).length : Int))))).toNat (Ze : Z7)).drop (0 + (0 : Int).toNat)).take ((([] : List Z7).length : Int).toNat - (0 : Int).toNat)) h)
   ·have h := hif.2 hc
    refine Z1b <| At.ghost (st' := ⟨[(0, (.vs 0))], [(0, (.vec 3 (List.map Z1 ([] : List Z7))))]⟩) (fun a w h => (Z17 ⟨[(0, (.vs 0))], [(0, (.vec 3 (List.map Z1 ([] : List Z7))))]⟩ (Za7 (k := 0) (m := 0) (sz := 3) I I a w (Z17 ⟨[(0, (.sl 3 [] true))], []⟩ h ⟨rfl, trivial⟩ trivial)) ⟨rfl, trivial⟩ ⟨rfl, trivial⟩)) ?_
    exact Zy (st' := ⟨[(0, (.vs 0))], [(0, (.vec 3 (List.map Z1 [])))]⟩) ⟨rfl, trivial⟩ ⟨rfl, trivial⟩ (J2 [] h)
def Z9t (K : Nat) (v12 : (List Z7)) : Option ((List Z7)) :=
 some v12
def Z4g (K : Nat) (a0 : (List (List Z7))) (c14 : (List Z7) → Option ((List Z7))) : Nat → Int → (List Z7) → Option ((List Z7))
 | 0, _, _ => none
 | k11 + 1, v9, v10 =>
  if (decide (v9 < (a0.length : Int))) = true then
   if (0 : Int) ≤ v9 ∧ v9 < a0.length then
    if v10.length + (a0.getD v9.toNat []).length ≤ 1073741824 then
     (Z4g K a0 c14 k11) (IntKind.i64.wrap (v9 + 1)) (v10 ++ (a0.getD v9.toNat []))
    else none
   else none
  else
   c14 v10
def F62_c5 (K : Nat) (a0 : (List (List Z7))) (v4 : Int) : Option ((List Z7)) :=
 (F104 K v4).bind fun v8 =>
  Z4g K a0 (Z9t K) K 0 v8
def Z7i (K : Nat) (a0 : (List (List Z7))) (c6 : Int → Option ((List Z7))) : Nat → Int → Int → Option ((List Z7))
 | 0, _, _ => none
 | k3 + 1, v1, v2 =>
  if (decide (v2 < (a0.length : Int))) = true then
   if (0 : Int) ≤ v2 ∧ v2 < a0.length then
    if (decide ((IntKind.i64.wrap (v1 + ((a0.getD v2.toNat []).length : Int))) < 0)) = true then
     none
    else
     (Z7i K a0 c6 k3) (IntKind.i64.wrap (v1 + ((a0.getD v2.toNat []).length : Int))) (IntKind.i64.wrap (v2 + 1))
   else none
  else
   c6 v1
def F62 (K : Nat) (a0 : (List (List Z7))) : Option ((List Z7)) :=
 Z7i K a0 (F62_c5 K a0) K 0 0
theorem F62_ok (K : Nat) (a0 : (List (List Z7))) (r : (List Z7)) (h : F62 K a0 = some r) : ACall P 62 ⟨[(.sl 1 (a0.map Z15) false)], [], .vs 2, [(2, .vec 3 (List.map Z1 r))], [2]⟩ := by
 refine Z1s Tryz.func62 Tryz.results62 rfl Tryz.ntmps62 rfl rfl rfl ?_
 intro E Q hP hN hro hret
 obtain ⟨P', nt', w0, F0, p0, S0, β0, ro0⟩ := E
 simp only at hP hN
 subst hP hN
 dsimp only [argT]
 unfold F62 at h
 refine Zj <| Zf <| Z2 I (Zp (v := (.sl 3 [] false)) I I) I <| Zi <| Zh <| Zj <| Zf <| Z2 I (Zp (v := (.int .i64 0)) I I) I ?_
 refine Zi <| Zh <| Zj <| Zj <| Zf <| Z2 I (Zo (v := (.sl 1 (a0.map Z15) false)) I I) I <| Z2 I (Z24 (l := a0) (enc := Z15) I s192 I) I <| Z2 I (Zo (v := (.int .i64 0)) I I) I ?_
 refine Zi <| Zh <| AWp.weaken (st' := ⟨[(0, (.sl 1 (a0.map Z15) false)), (3, (.int .i64 0)), (9, (.sl 1 (a0.map Z15) false)), (10, (.int .i64 (a0.length : Int))), (11, (.int .i64 0))], []⟩) ⟨rfl, rfl, rfl, rfl, rfl, trivial⟩ trivial ?_
 refine Z1n (V := Int × Int) (X := Int) (lp := fun k v => Z7i K a0 (F62_c5 K a0) k v.1 v.2 = some r) (sh := fun v => ⟨[(0, (.sl 1 (a0.map Z15) false)), (3, (.int .i64 v.1)), (9, (.sl 1 (a0.map Z15) false)), (10, (.int .i64 (a0.length : Int))), (11, (.int .i64 v.2))], []⟩) (x := fun v => F62_c5 K a0 v = some r) (shx := fun v => ⟨[(0, (.sl 1 (a0.map Z15) false)), (3, (.int .i64 v))], []⟩) (k := K) (v := (0, 0)) h ?_ ?_
 ·intro v h
  revert h
  revert v
  intro v4 h
  try dsimp only at h ⊢
  unfold F62_c5 at h
  refine Zh <| Zj <| Zf <| Z2 I (Zo (v := (.int .i64 v4)) I I) I ?_
  have ⟨v8, hv8, h⟩ := Z1f h
  refine Z2 I (Z8x (sz := 3) (es := (List.map Z1 v8)) (ar := [(.sl 3 [] true), (.int .i64 v4)]) (caps := []) Tryz.call104 ((F104_ok K v4 v8 hv8).sw 4 24) I I ⟨rfl, rfl, trivial⟩ I) I <| Z2 I (Zp (v := (.vs 24)) I I) I <| Zi <| Zh <| Zj <| Zj <| Zf <| Z2 I (Zo (v := (.sl 1 (a0.map Z15) false)) I I) I ?_
  refine Z2 I (Z24 (l := a0) (enc := Z15) I s192 I) I <| Z2 I (Zo (v := (.int .i64 0)) I I) I <| Zi <| Zh <| AWp.ghost (st' := ⟨[(6, (.vs 6)), (25, (.sl 1 (a0.map Z15) false)), (26, (.int .i64 (a0.length : Int))), (27, (.int .i64 0))], [(6, (.vec 3 (List.map Z1 v8)))]⟩) (fun a w h => (Z17 ⟨[(6, (.vs 6)), (25, (.sl 1 (a0.map Z15) false)), (26, (.int .i64 (a0.length : Int))), (27, (.int .i64 0))], [(6, (.vec 3 (List.map Z1 v8)))]⟩ (Z4z (a := 24) (b := 6) I I a w (Z17 ⟨[(6, (.vs 24)), (25, (.sl 1 (a0.map Z15) false)), (26, (.int .i64 (a0.length : Int))), (27, (.int .i64 0))], [(24, (.vec 3 (List.map Z1 v8)))]⟩ h ⟨rfl, rfl, rfl, rfl, trivial⟩ ⟨rfl, trivial⟩)) ⟨rfl, rfl, rfl, rfl, trivial⟩ ⟨rfl, trivial⟩)) <| AWp.weaken (st' := ⟨[(6, (.vs 6)), (25, (.sl 1 (a0.map Z15) false)), (26, (.int .i64 (a0.length : Int))), (27, (.int .i64 0))], [(6, (.vec 3 (List.map Z1 v8)))]⟩) ⟨rfl, rfl, rfl, rfl, trivial⟩ ⟨rfl, trivial⟩ ?_
  refine Z1n (V := Int × (List Z7)) (X := (List Z7)) (lp := fun k v => Z4g K a0 (Z9t K) k v.1 v.2 = some r) (sh := fun v => ⟨[(6, (.vs 6)), (25, (.sl 1 (a0.map Z15) false)), (26, (.int .i64 (a0.length : Int))), (27, (.int .i64 v.1))], [(6, (.vec 3 (List.map Z1 v.2)))]⟩) (x := fun v => Z9t K v = some r) (shx := fun v => ⟨[(6, (.vs 6))], [(6, (.vec 3 (List.map Z1 v)))]⟩) (k := K) (v := (0, v8)) h ?_ ?_
  ·intro v h
   revert h
   revert v
   intro v12 h
   try dsimp only at h ⊢
   unfold Z9t at h
   refine Zh <| Zj <| Zf <| Z2 I (Zo (v := (.vs 6)) I I) I <| Z2 I (Zp (v := (.vs 6)) I I) I <| Zi <| Zh <| Z1g ?_
   refine At.ghost (st' := ⟨[(2, (.vs 2))], [(2, (.vec 3 (List.map Z1 v12)))]⟩) (fun a w h => (Z17 ⟨[(2, (.vs 2))], [(2, (.vec 3 (List.map Z1 v12)))]⟩ (Z4z (a := 6) (b := 2) I I a w (Z17 ⟨[(2, (.vs 6))], [(6, (.vec 3 (List.map Z1 v12)))]⟩ h ⟨rfl, trivial⟩ ⟨rfl, trivial⟩)) ⟨rfl, trivial⟩ ⟨rfl, trivial⟩)) ?_
   have h := Option.some.inj h
   subst h
   refine (hret _ ?_).1
   exact ⟨[(.vs 2)], ⟨rfl, trivial⟩, rfl, ⟨rfl, trivial⟩⟩
  ·intro N k11 v h IH11 J11
   obtain ⟨v9, v10⟩ := v
   try dsimp only at h IH11 J11 ⊢
   cases k11 with
   | zero => cases h
   | succ k11 =>
    rw [Z4g] at h
    refine Zj <| Zf <| Z2 I (Z25 (k := .i64) (a := v9) (b := (a0.length : Int)) (c := (decide (v9 < (a0.length : Int)))) I I I I) I <| Zi <| Zh <| Zj ?_
    have hif := Z28 h
    refine Z16 I (fun hc => ?_) (fun hc => ?_)
    ·have h := hif.1 hc
     refine Z1b <| Zh <| Zj <| AWp.block <| Zj <| Zf ?_
     have ⟨hg16, h⟩ := Z13 h
     refine Z2 I (Z1w (k := .i64) (l := a0) (enc := Z15) (z := []) (n := v9) (cs := [(.sl 3 ((a0.getD v9.toNat []).map Z1) false)]) (full := false) I s192 I I hg16 I) I <| Z2 I (Z2f (cs := [(.sl 3 ((a0.getD v9.toNat []).map Z1) false)]) (v := (.sl 3 ((a0.getD v9.toNat []).map Z1) false)) I o60 I I) I <| Z2 I (Zp (v := (.sl 3 ((a0.getD v9.toNat []).map Z1) false)) I I) I <| Zi <| Zh <| Zf <| Z2 I (Zo (v := (.vs 6)) I I) I <| Z2 I (Zo (v := (.sl 3 ((a0.getD v9.toNat []).map Z1) false)) I I) I ?_
     have ⟨hg17, h⟩ := Z13 h
     refine Z2 I (Z2p (m := 6) (enc := Z1) (l := v10) (l' := (a0.getD v9.toNat [])) (src := (.sl 3 ((a0.getD v9.toNat []).map Z1) false)) (rd := []) I I el60 I u60 I I I ⟨rfl, rfl, rfl⟩ noReads Z21 hg17) I <| Z2 I (Zp (v := (.vs 6)) I I) I <| Zi <| At.end <| Zh <| Zf <| Z2 I (Z1u (k := .i64) (a := v9) (b := 1) (c := (IntKind.i64.wrap (v9 + 1))) I I I I) I <| Z2 I (Zo (v := (.int .i64 (IntKind.i64.wrap (v9 + 1)))) I I) I ?_
     refine Zi ?_
     exact Zy (st' := ⟨[(6, (.vs 6)), (25, (.sl 1 (a0.map Z15) false)), (26, (.int .i64 (a0.length : Int))), (27, (.int .i64 (IntKind.i64.wrap (v9 + 1))))], [(6, (.vec 3 (List.map Z1 (v10 ++ (a0.getD v9.toNat [])))))]⟩) ⟨rfl, rfl, rfl, rfl, trivial⟩ ⟨rfl, trivial⟩ (IH11 _ ((IntKind.i64.wrap (v9 + 1)), (v10 ++ (a0.getD v9.toNat []))) (Nat.lt_succ_self _) h)
    ·have h := hif.2 hc
     refine AWp.exit <| At.thru ?_
     exact Zy (st' := ⟨[(6, (.vs 6))], [(6, (.vec 3 (List.map Z1 v10)))]⟩) ⟨rfl, trivial⟩ ⟨rfl, trivial⟩ (J11 v10 h)
 ·intro N k3 v h IH3 J3
  obtain ⟨v1, v2⟩ := v
  try dsimp only at h IH3 J3 ⊢
  cases k3 with
  | zero => cases h
  | succ k3 =>
   rw [Z7i] at h
   refine Zj <| Zf <| Z2 I (Z25 (k := .i64) (a := v2) (b := (a0.length : Int)) (c := (decide (v2 < (a0.length : Int)))) I I I I) I <| Zi <| Zh <| Zj ?_
   have hif := Z28 h
   refine Z16 I (fun hc => ?_) (fun hc => ?_)
   ·have h := hif.1 hc
    refine Z1b <| Zh <| Zj <| AWp.block <| Zj <| Zf ?_
    have ⟨hg19, h⟩ := Z13 h
    refine Z2 I (Z1w (k := .i64) (l := a0) (enc := Z15) (z := []) (n := v2) (cs := [(.sl 3 ((a0.getD v2.toNat []).map Z1) false)]) (full := false) I s192 I I hg19 I) I <| Z2 I (Z2f (cs := [(.sl 3 ((a0.getD v2.toNat []).map Z1) false)]) (v := (.sl 3 ((a0.getD v2.toNat []).map Z1) false)) I o60 I I) I <| Z2 I (Zp (v := (.sl 3 ((a0.getD v2.toNat []).map Z1) false)) I I) I <| Zi <| Zh <| Zj <| Zf <| Z2 I (Zo (v := (.int .i64 v1)) I I) I ?_
    refine Z2 I (Zo (v := (.sl 3 ((a0.getD v2.toNat []).map Z1) false)) I I) I <| Z2 I (Z24 (l := (a0.getD v2.toNat [])) (enc := Z1) I s60 I) I <| Z2 I (Z1u (k := .i64) (a := v1) (b := ((a0.getD v2.toNat []).length : Int)) (c := (IntKind.i64.wrap (v1 + ((a0.getD v2.toNat []).length : Int)))) I I I I) I <| Z2 I (Zp (v := (.int .i64 (IntKind.i64.wrap (v1 + ((a0.getD v2.toNat []).length : Int))))) I I) I <| Zi <| Zh <| Zj <| Zf ?_
    refine Z2 I (Zo (v := (.int .i64 (IntKind.i64.wrap (v1 + ((a0.getD v2.toNat []).length : Int))))) I I) I <| Z2 I (Z25 (k := .i64) (a := (IntKind.i64.wrap (v1 + ((a0.getD v2.toNat []).length : Int)))) (b := 0) (c := (decide ((IntKind.i64.wrap (v1 + ((a0.getD v2.toNat []).length : Int))) < 0))) I I I I) I <| Zi <| Zh ?_
    have hif := Z28 h
    refine Z16 I (fun hc => ?_) (fun hc => ?_)
    ·have h := hif.1 hc
     cases h
    ·have h := hif.2 hc
     refine Z1b <| At.end <| Zh <| Zf <| Z2 I (Z1u (k := .i64) (a := v2) (b := 1) (c := (IntKind.i64.wrap (v2 + 1))) I I I I) I <| Z2 I (Zo (v := (.int .i64 (IntKind.i64.wrap (v2 + 1)))) I I) I <| Zi ?_
     exact Zy (st' := ⟨[(0, (.sl 1 (a0.map Z15) false)), (3, (.int .i64 (IntKind.i64.wrap (v1 + ((a0.getD v2.toNat []).length : Int))))), (9, (.sl 1 (a0.map Z15) false)), (10, (.int .i64 (a0.length : Int))), (11, (.int .i64 (IntKind.i64.wrap (v2 + 1))))], []⟩) ⟨rfl, rfl, rfl, rfl, rfl, trivial⟩ trivial (IH3 _ ((IntKind.i64.wrap (v1 + ((a0.getD v2.toNat []).length : Int))), (IntKind.i64.wrap (v2 + 1))) (Nat.lt_succ_self _) h)
   ·have h := hif.2 hc
    refine AWp.exit <| At.thru ?_
    exact Zy (st' := ⟨[(0, (.sl 1 (a0.map Z15) false)), (3, (.int .i64 v1))], []⟩) ⟨rfl, rfl, trivial⟩ trivial (J3 v1 h)
def F66 (K : Nat) (a0 : Z7) (a1 : Z7) : Option (Int) :=
 (F68 K a0.Kind a1.Kind).bind fun v2 =>
  (F69 K a0.Service a1.Service).bind fun v4 =>
   (F69 K a0.Target a1.Target).bind fun v6 =>
    (F67 K [v2, v4, v6]).bind fun v8 =>
     some v8
theorem F66_ok (K : Nat) (a0 : Z7) (a1 : Z7) (r : Int) (h : F66 K a0 a1 = some r) : ACall P 66 ⟨[(Z1 a0), (Z1 a1)], [], (.int .i64 r), [], []⟩ := by
 refine Z1s Tryz.func66 Tryz.results66 rfl Tryz.ntmps66 rfl rfl rfl ?_
 intro E Q hP hN hro hret
 obtain ⟨P', nt', w0, F0, p0, S0, β0, ro0⟩ := E
 simp only at hP hN
 subst hP hN
 dsimp only [argT]
 unfold F66 at h
 refine Zj <| Zf <| Z2 I (Z2m (v := (Z1 a0)) (cs := (Z1 a0).cells) I I I I I) I <| Z2 I (Z2m (v := (Z1 a1)) (cs := (Z1 a1).cells) I I I I I) I <| Z2 I (Zp (v := (.int .i64 0)) I I) I <| Zi <| Zh <| Zj ?_
 refine Z1r mixed <| Zb 0 I (Zr (m := 2) (o := 0) I f64_0 I I) <| Zb 1 I (Zt (cs := (Z1 a0).cells) (v := (.int .i64 a0.Kind)) I o3 I I I) <| Zb 2 I (Zr (m := 3) (o := 0) I f64_0 I I) <| Zb 3 I (Zt (cs := (Z1 a1).cells) (v := (.int .i64 a1.Kind)) I o3 I I I) ?_
 have ⟨v2, hv2, h⟩ := Z1f h
 refine Zb 4 I (Z1o (ar := [(.int .i64 a0.Kind), (.int .i64 a1.Kind)]) (caps := []) Tryz.call68 (Z8k K a0.Kind a1.Kind v2 hv2) I I ⟨rfl, rfl, trivial⟩ I) <| Zb 5 I (Zr (m := 2) (o := 0) I f64_1 I I) <| Zb 6 I (Zt (cs := (Z1 a0).cells) (v := (.str a0.Service)) I o9 I I I) <| Zb 7 I (Zr (m := 3) (o := 0) I f64_1 I I) <| Zb 8 I (Zt (cs := (Z1 a1).cells) (v := (.str a1.Service)) I o9 I I I) ?_
 have ⟨v4, hv4, h⟩ := Z1f h
 refine Zb 9 I (Z1o (ar := [(.str a0.Service), (.str a1.Service)]) (caps := []) Tryz.call69 (Z6c K a0.Service a1.Service v4 hv4) I I ⟨rfl, rfl, trivial⟩ I) <| Zb 10 I (Zr (m := 2) (o := 0) I f64_2 I I) <| Zb 11 I (Zt (cs := (Z1 a0).cells) (v := (.str a0.Target)) I o9 I I I) <| Zb 12 I (Zr (m := 3) (o := 0) I f64_2 I I) <| Zb 13 I (Zt (cs := (Z1 a1).cells) (v := (.str a1.Target)) I o9 I I I) ?_
 have ⟨v6, hv6, h⟩ := Z1f h
 refine Zb 14 I (Z1o (ar := [(.str a0.Target), (.str a1.Target)]) (caps := []) Tryz.call69 (Z6c K a0.Target a1.Target v6 hv6) I I ⟨rfl, rfl, trivial⟩ I) <| Zb 15 I (Z1m (vs := [(.int .i64 v2), (.int .i64 v4), (.int .i64 v6)]) (enc := Z2l) (l := [v2, v4, v6]) I el65 I I ⟨rfl, rfl, rfl, trivial⟩ I Z53 I I I I) ?_
 have ⟨v8, hv8, h⟩ := Z1f h
 refine Zb 16 I (Z66 (rd := [(20, (.vec 1 (List.map Z2l [v2, v4, v6])))]) (ar := [(.vs 20)]) (caps := []) Tryz.call67 (Zb6 K [v2, v4, v6] v8 hv8) I I ⟨rfl, trivial⟩ (Z4f ⟨rfl, trivial⟩) I I I) <| Zb 17 I (Zp (v := (.int .i64 v8)) I I) <| AOpsD.nil (by kernel_rfl) I <| Zh <| Z1g ?_
 have h := Option.some.inj h
 subst h
 refine (hret _ ?_).1
 exact ⟨[(.int .i64 v8)], ⟨rfl, trivial⟩, rfl, trivial⟩
theorem F106_keys (kvs : List (Z7 × Bool)) (lr : Go.Loop) (hps : lr.params.size = 1) (hy : ∀ (x : Z7) (l : List Z7), l.length + 1 ≤ 1073741824 → YCall P lr 1000 ⟨[(Z1 x)], [(1000, .loop lr [2] [.ptr 1001 0]), (1001, .box [.vs 9]), (9, .vec 3 (List.map Z1 l))], .bool true, [(1000, .loop lr [2] [.ptr 1001 0]), (1001, .box [.vs 9]), (9, .vec 3 (List.map Z1 (l ++ [x])))], [9]⟩) (hb : kvs.length ≤ 1073741824) :
  ACallX (X := List (Z7 × Bool)) P 106 [.yld 1000, .ptr 2000 0] [(1000, .loop lr [2] [.ptr 1001 0]), (1001, .box [.vs 9]), (9, .vec 3 (List.map Z1 ([] : List Z7))), (2000, .box [.map 2001]), (2001, .fmap (Zu Z1 Z1h kvs))] (fun ω => ω.Perm kvs) (fun _ => .tup []) (fun ω => [(1000, .loop lr [2] [.ptr 1001 0]), (1001, .box [.vs 9]), (9, .vec 3 (List.map Z1 (List.map (fun e => e.1) ω))), (2000, .box [.map 2001]), (2001, .fmap (Zu Z1 Z1h kvs))]) [9] := by
 refine Z75 Tryz.func106 Tryz.results106 rfl Tryz.ntmps106 rfl rfl (fun _ => rfl) ?_
 intro E Q hP hN hro hret
 obtain ⟨P', nt', w0, F0, p0, S0, β0, ro0⟩ := E
 simp only at hP hN
 subst hP hN
 dsimp only [argT]
 refine Zj <| Zf <| Z2 I (Zt (cs := [.map 2001]) (v := .map 2001) I o131 I I I) I <| Z2 I (Z6w (encK := Z1) (encV := Z1h) (l := kvs) I ⟨64, 4, by kernel_rfl⟩ I I) I <| Zi <| Zh <| AWp.weaken (st' := ⟨[(0, .yld 1000), (5, .itr 5)], [(5, .iter none (Zu Z1 Z1h kvs)), (9, .vec 3 (List.map Z1 ([] : List Z7))), (1000, .loop lr [2] [.ptr 1001 0]), (1001, .box [.vs 9]), (2000, .box [.map 2001]), (2001, .fmap (Zu Z1 Z1h kvs))]⟩) ⟨rfl, rfl, trivial⟩ ⟨rfl, rfl, rfl, rfl, rfl, rfl, trivial⟩ ?_
 refine Z1n (V := List (Z7 × Bool) × List (Z7 × Bool)) (X := List (Z7 × Bool)) (lp := fun k v => v.2.length < k ∧ (v.1 ++ v.2).Perm kvs) (sh := fun v => ⟨[(0, .yld 1000), (5, .itr 5)], [(5, .iter none (Zu Z1 Z1h v.2)), (9, .vec 3 (List.map Z1 (List.map (fun e => e.1) v.1))), (1000, .loop lr [2] [.ptr 1001 0]), (1001, .box [.vs 9]), (2000, .box [.map 2001]), (2001, .fmap (Zu Z1 Z1h kvs))]⟩) (x := fun ω => ω.Perm kvs) (shx := fun ω => ⟨[], [(9, .vec 3 (List.map Z1 (List.map (fun e => e.1) ω))), (1000, .loop lr [2] [.ptr 1001 0]), (1001, .box [.vs 9]), (2000, .box [.map 2001]), (2001, .fmap (Zu Z1 Z1h kvs))]⟩) (k := kvs.length + 1) (v := ([], kvs)) ⟨Nat.lt_succ_self _, List.Perm.refl _⟩ ?_ ?_
 ·intro ω hω
  refine (hret _ ω hω ?_).2
  exact ⟨[], trivial, rfl, ⟨rfl, rfl, rfl, rfl, rfl, trivial⟩⟩
 ·intro N k v hv IH J
  obtain ⟨pre, rem⟩ := v
  dsimp only at hv IH J ⊢
  obtain ⟨hk, hperm⟩ := hv
  refine Zj <| Zf ?_
  refine AOps.consNext (encK := Z1) (encV := Z1h) (rem := rem) I I I (fun hc => ?_) (fun p kv q hc => ?_)
  ·subst hc
   rw [List.append_nil] at hperm
   refine Z2 I (Z2g (vs := [.bool false]) (v := .bool false) I I I) I <| Zi <| Zh <| Zj ?_
   refine Z16 (b := false) I (fun hc => ?_) (fun hc => ?_)
   ·cases hc
   refine AWp.exit <| At.thru ?_
   exact Zy (st' := ⟨[], [(9, .vec 3 (List.map Z1 (List.map (fun e => e.1) pre))), (1000, .loop lr [2] [.ptr 1001 0]), (1001, .box [.vs 9]), (2000, .box [.map 2001]), (2001, .fmap (Zu Z1 Z1h kvs))]⟩) trivial ⟨rfl, rfl, rfl, rfl, rfl, trivial⟩ (J pre hperm)
  ·subst hc
   refine Z2 I (Z2g (vs := [.bool true, .undef, .undef]) (v := .bool true) I I I) I <| Zi <| Zh <| Zj ?_
   refine Z16 (b := true) I (fun hc => ?_) (fun hc => ?_)
   rotate_left
   ·cases hc
   refine Z1b <| Zh <| AWp.block <| Zj <| Zf <| Z2 I (Z71 (k := kv.1) (v := kv.2) (encK := Z1) (encV := Z1h) I I I) I <| Z2 I (Z2g (vs := [(Z1 kv.1), (Z1h kv.2)]) (v := (Z1 kv.1)) I I I) I <| Z2 I (Z1v (cs := [(.int .i64 0), (.str []), (.str [])]) I z64 I I I) I ?_
   refine Z2 I (Z1e (cs := [(.int .i64 0), (.str []), (.str [])]) (vs := (Z1 kv.1).cells) (ds := (Z1 kv.1).cells) (v := (Z1 kv.1)) sz64 I I I I I I I I) I <| Zi <| Zh <| Zj <| Zf <| Z2 I (Zo (v := .yld 1000) I I) I <| Z2 I (Z1l (cs := (Z1 kv.1).cells) (vs := (Z1 kv.1).cells) I a64 I I I I) I ?_
   have hlen : (List.map (fun e => e.1) pre).length + 1 ≤ 1073741824 := by
    have := hperm.length_eq
    simp only [List.length_append, List.length_cons, List.length_map] at this ⊢
    omega
   refine Z2 I (st_yield (d := some 12) (ks := [2]) (vs := [.ptr 1001 0]) (c := ⟨[(Z1 kv.1)], [(1000, .loop lr [2] [.ptr 1001 0]), (1001, .box [.vs 9]), (9, .vec 3 (List.map Z1 (List.map (fun e => e.1) pre)))], .bool true, [(1000, .loop lr [2] [.ptr 1001 0]), (1001, .box [.vs 9]), (9, .vec 3 (List.map Z1 ((List.map (fun e => e.1) pre) ++ [kv.1])))], [9]⟩) (ar := [(Z1 kv.1)]) (news := []) (forg := [9]) (hy kv.1 _ hlen) I hps I I ⟨rfl, trivial⟩ I ⟨rfl, rfl, rfl, trivial⟩ I) I <| Z2 I (Zbj (b := true) I I) I <| Zi <| Zh ?_
   refine Z16 (b := false) I (fun hc => ?_) (fun hc => ?_)
   ·cases hc
   refine Z1b <| At.end ?_
   have hstep : (p ++ q).length < (p ++ kv :: q).length := by
    simp only [List.length_append, List.length_cons]
    omega
   have hp2 : ((pre ++ [kv]) ++ (p ++ q)).Perm kvs := by
    refine List.Perm.trans ?_ hperm
    rw [List.append_assoc]
    exact List.Perm.append_left pre (show (kv :: (p ++ q)).Perm (p ++ kv :: q) from List.perm_middle.symm)
   have hm : List.map (fun e : Z7 × Bool => e.1) (pre ++ [kv]) = List.map (fun e => e.1) pre ++ [kv.1] := by rw [List.map_append]; rfl
   have := IH (p ++ q).length.succ (pre ++ [kv], p ++ q) (by omega) ⟨Nat.lt_succ_self _, hp2⟩
   dsimp only at this
   rw [hm] at this
   refine At.ghost (st' := ⟨[(0, .yld 1000), (5, .itr 5)], [(5, .iter none (Zu Z1 Z1h (p ++ q))), (9, .vec 3 (List.map Z1 ((List.map (fun e => e.1) pre) ++ [kv.1]))), (1000, .loop lr [2] [.ptr 1001 0]), (1001, .box [.vs 9]), (2000, .box [.map 2001]), (2001, .fmap (Zu Z1 Z1h kvs))]⟩) (fun a w h => Z17 _ (Z4t (m := 5) (cur := some ((Z1 kv.1), (Z1h kv.2))) (kvs := Zu Z1 Z1h (p ++ q)) a w (Z17 ⟨[(0, .yld 1000), (5, .itr 5)], [(5, .iter (some ((Z1 kv.1), (Z1h kv.2))) (Zu Z1 Z1h (p ++ q))), (9, .vec 3 (List.map Z1 ((List.map (fun e => e.1) pre) ++ [kv.1]))), (1000, .loop lr [2] [.ptr 1001 0]), (1001, .box [.vs 9]), (2000, .box [.map 2001]), (2001, .fmap (Zu Z1 Z1h kvs))]⟩ h ⟨rfl, rfl, trivial⟩ ⟨rfl, rfl, rfl, rfl, rfl, rfl, trivial⟩)) ⟨rfl, rfl, trivial⟩ ⟨rfl, rfl, rfl, rfl, rfl, rfl, trivial⟩) this
theorem F105_keys (kvs : List (Z7 × Bool)) (hb : kvs.length ≤ 1073741824) : ACallX (X := List (Z7 × Bool)) P 105 [(.sl 3 [] true), .clo 106 [.ptr 2000 0]] [(2000, .box [.map 2001]), (2001, .fmap (Zu Z1 Z1h kvs))] (fun ω => ω.Perm kvs) (fun _ => .vs 9) (fun ω => [(9, .vec 3 (List.map Z1 (List.map (fun e => e.1) ω))), (2000, .box [.map 2001]), (2001, .fmap (Zu Z1 Z1h kvs))]) [9] := by
 refine Z75 Tryz.func105 Tryz.results105 rfl Tryz.ntmps105 rfl rfl (fun _ => rfl) ?_
 intro E Q hP hN hro hret
 obtain ⟨P', nt', w0, F0, p0, S0, β0, ro0⟩ := E
 simp only at hP hN
 subst hP hN
 dsimp only [argT]
 refine Zj <| Zf <| Z2 I (Z2m (v := (.sl 3 [] true)) (cs := [(.sl 3 [] true)]) I I I I I) I <| Z2 I (Zp (v := (.sl 3 [] false)) I I) I <| Zi <| Zh <| Zj <| Zj ?_
 refine Zf <| Z2 I (Zo (v := (.clo 106 [.ptr 2000 0])) I I) I <| Zi <| Zh <| AWp.block <| AWp.ghost (st' := ⟨[(2, .ptr 2 0), (6, (.clo 106 [.ptr 2000 0]))], [(2, .box [.vs 9]), (9, .vec 3 (List.map Z1 ([] : List Z7))), (2000, .box [.map 2001]), (2001, .fmap (Zu Z1 Z1h kvs))]⟩) (fun a w h => Z17 _ (Z5s (n := 2) (m := 9) (sz := 3) (j := 0) I I I a w (Z17 ⟨[(2, .ptr 2 0), (6, (.clo 106 [.ptr 2000 0]))], [(2, .box [(.sl 3 [] true)]), (2000, .box [.map 2001]), (2001, .fmap (Zu Z1 Z1h kvs))]⟩ h ⟨rfl, rfl, trivial⟩ ⟨rfl, rfl, rfl, trivial⟩)) ⟨rfl, rfl, trivial⟩ ⟨rfl, rfl, rfl, rfl, trivial⟩) ?_
 refine AWp.rangeFuncX (X := List (Z7 × Bool)) (n := 1) (f := 106) (caps := [.ptr 2000 0]) (ks := [2]) (vs := [.ptr 2 0]) (ins := [(2, .box [.vs 9]), (9, .vec 3 (List.map Z1 ([] : List Z7))), (2000, .box [.map 2001]), (2001, .fmap (Zu Z1 Z1h kvs))]) (ok := fun ω => ω.Perm kvs) (outs := fun ω => [(2, .box [.vs 9]), (9, .vec 3 (List.map Z1 (List.map (fun e => e.1) ω))), (2000, .box [.map 2001]), (2001, .fmap (Zu Z1 Z1h kvs))]) (res := fun _ => .tup []) (mv := [9]) (forg := [9]) (jump := fun _ => none) hro Tryz.call106 I I I I ⟨rfl, trivial⟩ ⟨rfl, rfl, rfl, rfl, trivial⟩ I (fun _ => I) (fun _ => I) I (fun lr hst hpe hpr has hbd hsz => ?_) (fun ω hω _ => ?_) (fun ω c _ hc => by cases hc)
 ·have hend := Z9y hst hpe
  simp only [hend]
  have hps : lr.params.size = 1 := by rw [hpr]; rfl
  have hy : ∀ (x : Z7) (l : List Z7), l.length + 1 ≤ 1073741824 → YCall P lr 1000 ⟨[(Z1 x)], [(1000, .loop lr [2] [.ptr 1001 0]), (1001, .box [.vs 9]), (9, .vec 3 (List.map Z1 l))], .bool true, [(1000, .loop lr [2] [.ptr 1001 0]), (1001, .box [.vs 9]), (9, .vec 3 (List.map Z1 (l ++ [x])))], [9]⟩ := by
   intro x l hl
   refine ycall_of (ks := [2]) (vs := [.ptr 1001 0]) (ps := [7]) rfl hst hsz hpr rfl (by decide) rfl rfl rfl ?_
   intro E Qa Qb hP hN hmid hfin
   obtain ⟨P', nt', w0, F0, p0, S0, β0, ro0⟩ := E
   simp only at hP hN
   subst hP hN
   refine AWp.code has ?_
   dsimp only [List.zip, List.zipWith, List.cons_append, List.nil_append]
   refine Zf <| Z2 I (Z1v (cs := [(.int .i64 0), (.str []), (.str [])]) I z64 I I I) I <| Z2 I (Z1e (cs := [(.int .i64 0), (.str []), (.str [])]) (vs := (Z1 x).cells) (ds := (Z1 x).cells) (v := (Z1 x)) sz64 I I I I I I I I) I <| Zi ?_
   refine hmid _ _ _ rfl ?_
   refine AWp.code hbd <| AWp.block <| Zf <| Z2 I (Zt (cs := [.vs 9]) (v := .vs 9) I o60 I I I) I <| Z2 I (Z1l (cs := (Z1 x).cells) (vs := (Z1 x).cells) I a64 I I I I) I <| Z2 I (Z1m (vs := [(Z1 x)]) (enc := Z1) (l := [x]) I el60 I I ⟨rfl, trivial⟩ I Z21 I I I I) I <| Z2 I (Z2p (m := 9) (enc := Z1) (l := l) (l' := [x]) (src := .vs 10) (rd := [(10, .vec 3 (List.map Z1 [x]))]) I I el60 I u60 I I I I (oneRead I) Z21 hl) I <| Z2 I (Z1e (cs := [.undef]) (vs := [.vs 9]) (ds := [.vs 9]) (v := .vs 9) sz60 I I I I I I I I) I ?_
   refine Zi <| At.end ?_
   refine hfin _ _ _ none .normal rfl rfl rfl ?_
   rw [hend]
   exact ⟨rfl, rfl, rfl, trivial⟩
  exact ((F106_keys kvs lr hps hy hb).sw 1000 1).sw 1001 2
 ·refine Zy (st' := ⟨[(2, .ptr 2 0)], [(2, .box [.vs 9]), (9, .vec 3 (List.map Z1 (List.map (fun e => e.1) ω))), (2000, .box [.map 2001]), (2001, .fmap (Zu Z1 Z1h kvs))]⟩) ⟨rfl, trivial⟩ ⟨rfl, rfl, rfl, rfl, trivial⟩ <| At.end <| Zh <| Zj <| Zf <| Z2 I (Zt (cs := [.vs 9]) (v := .vs 9) I o60 I I I) I <| Z2 I (Zp (v := .vs 9) I I) I <| Zi ?_
  refine Zh <| Z1g ?_
  refine (hret _ ω hω ?_).1
  exact ⟨[.vs 9], ⟨rfl, trivial⟩, rfl, ⟨rfl, rfl, rfl, trivial⟩⟩
theorem F63_keys (kvs : List (Z7 × Bool)) (hb : kvs.length ≤ 1073741824) : ACallX (X := List (Z7 × Bool)) P 63 [.clo 106 [.ptr 2000 0]] [(2000, .box [.map 2001]), (2001, .fmap (Zu Z1 Z1h kvs))] (fun ω => ω.Perm kvs) (fun _ => .vs 4) (fun ω => [(4, .vec 3 (List.map Z1 (List.map (fun e => e.1) ω))), (2000, .box [.map 2001]), (2001, .fmap (Zu Z1 Z1h kvs))]) [4] := by
 refine Z75 Tryz.func63 Tryz.results63 rfl Tryz.ntmps63 rfl rfl (fun _ => rfl) ?_
 intro E Q hP hN hro hret
 obtain ⟨P', nt', w0, F0, p0, S0, β0, ro0⟩ := E
 simp only at hP hN
 subst hP hN
 dsimp only [argT]
 refine Zj <| Zf <| Z2 I (Zp (v := (.sl 3 [] false)) I I) I <| Zi <| Zh <| Zj <| Zf <| Z2 I (Zo (v := (.clo 106 [.ptr 2000 0])) I I) I ?_
 refine AOps.callX (ar := [(.sl 3 [] true), (.clo 106 [.ptr 2000 0])]) (caps := []) (news := [4]) (forg := []) Tryz.call105 ((F105_keys kvs hb).sw 9 4) I I ⟨rfl, rfl, trivial⟩ I ⟨rfl, rfl, trivial⟩ (fun _ => I) I (fun ω hω => ?_)
 refine Z2 I (Zp (v := .vs 4) I I) I <| Zi <| Zh <| Z1g ?_
 refine (hret _ ω hω ?_).1
 exact ⟨[.vs 4], ⟨rfl, trivial⟩, rfl, ⟨rfl, rfl, rfl, trivial⟩⟩
noncomputable def Z94 (K : Nat) (v10 : (List (Z7 × Bool))) (v18 : (List (Z7 × Bool))) : Option ((List Z7)) :=
 (F64 K v10).bind fun v22 =>
  if v10.length ≤ 1073741824 then
   ndPerm v10 fun x24 =>
    (F64 K v18).bind fun v26 =>
     if v18.length ≤ 1073741824 then
      ndPerm v18 fun x28 =>
       (F62 K [(List.map (fun e : Z7 × Bool => e.1) x24), (List.map (fun e : Z7 × Bool => e.1) x28)]).bind fun v30 =>
        (sortF (fun a b => F66 K a b) v30).bind fun v32 =>
         some v32
     else none
  else none
noncomputable def Z83 (K : Nat) (c20 : (List (Z7 × Bool)) → Option ((List Z7))) : Nat → (List (Z7 × Bool)) → (List (Z7 × Bool)) → Option ((List Z7))
 | 0, _, _ => none
 | k17 + 1, v15, v16 =>
  ndNext v16 (
   c20 v15) fun x36 x37 =>
   (Z83 K c20 k17) (mdel Z1a x36.1 v15) x37
noncomputable def Z96 (K : Nat) (a1 : Zc) (v4 : (List (Z7 × Bool))) (v10 : (List (Z7 × Bool))) : Option ((List Z7)) :=
 (F61 K a1 2 4).bind fun v14 =>
  Z83 K (Z94 K v10) K v4 v14
noncomputable def Zbe (K : Nat) (c12 : (List (Z7 × Bool)) → Option ((List Z7))) : Nat → (List (Z7 × Bool)) → (List (Z7 × Bool)) → Option ((List Z7))
 | 0, _, _ => none
 | k9 + 1, v7, v8 =>
  ndNext v8 (
   c12 v7) fun x40 x41 =>
   (Zbe K c12 k9) (mdel Z1a x40.1 v7) x41
noncomputable def F23 (K : Nat) (a0 : Zc) (a1 : Zc) : Option ((List Z7)) :=
 (F61 K a1 1 3).bind fun v2 =>
  (F61 K a0 2 4).bind fun v4 =>
   (F61 K a0 1 3).bind fun v6 =>
    Zbe K (Z96 K a1 v4) K v2 v6
theorem F23_ok (K : Nat) (a0 : Zc) (a1 : Zc) (r : (List Z7)) (h : F23 K a0 a1 = some r) : ACall P 23 ⟨[(Z4 a0), (Z4 a1)], [], (.sl 3 (r.map Z1) false), [], []⟩ := by
 refine Z1s Tryz.func23 Tryz.results23 rfl Tryz.ntmps23 rfl rfl rfl ?_
 intro E Q hP hN hro hret
 obtain ⟨P', nt', w0, F0, p0, S0, β0, ro0⟩ := E
 simp only at hP hN
 subst hP hN
 dsimp only [argT]
 unfold F23 at h
 refine Zj <| Zf <| Z2 I (Z2m (v := (Z4 a0)) (cs := (Z4 a0).cells) I I I I I) I <| Z2 I (Z2m (v := (Z4 a1)) (cs := (Z4 a1).cells) I I I I I) I <| Z2 I (Zp (v := (.sl 3 [] false)) I I) I <| Zi <| Zh <| Zj ?_
 refine Z1r mixed <| Zb 0 I (Z1l (cs := (Z4 a1).cells) (vs := (Z4 a1).cells) I a44 I I I I) ?_
 have ⟨v2, hv2, h⟩ := Z1f h
 refine Zb 1 I (Z2v (d := some 11) (c := ⟨[(Z4 a1), (.int .i64 1), (.int .i64 3)] ++ [], [], (.map 11), [(11, (.map (Zu Z1 Z1h v2)))], [11]⟩) (ar := [(Z4 a1), (.int .i64 1), (.int .i64 3)]) (caps := []) (news := [11]) (forg := []) Tryz.call61 ((F61_ok K a1 1 3 v2 hv2).sw 12 11) I I ⟨rfl, rfl, rfl, trivial⟩ I trivial I) <| Zb 2 I (Z1l (cs := (Z4 a0).cells) (vs := (Z4 a0).cells) I a44 I I I I) ?_
 have ⟨v4, hv4, h⟩ := Z1f h
 refine Zb 3 I (Z2v (d := some 13) (c := ⟨[(Z4 a0), (.int .i64 2), (.int .i64 4)] ++ [], [], (.map 13), [(13, (.map (Zu Z1 Z1h v4)))], [13]⟩) (ar := [(Z4 a0), (.int .i64 2), (.int .i64 4)]) (caps := []) (news := [13]) (forg := []) Tryz.call61 ((F61_ok K a0 2 4 v4 hv4).sw 12 13) I I ⟨rfl, rfl, rfl, trivial⟩ I trivial I) <| Zb 4 I (Zp (v := (.map 11)) I I) <| Zb 5 I (Zp (v := (.map 13)) I I) <| AOpsD.nil (by kernel_rfl) I <| Zh <| Zj <| Zj <| Zf ?_
 refine Z2 I (Z1l (cs := (Z4 a0).cells) (vs := (Z4 a0).cells) I a44 I I I I) I ?_
 have ⟨v6, hv6, h⟩ := Z1f h
 refine Z2 I (Z2v (d := some 15) (c := ⟨[(Z4 a0), (.int .i64 1), (.int .i64 3)] ++ [], [], (.map 15), [(15, (.map (Zu Z1 Z1h v6)))], [15]⟩) (ar := [(Z4 a0), (.int .i64 1), (.int .i64 3)]) (caps := []) (news := [15]) (forg := []) Tryz.call61 ((F61_ok K a0 1 3 v6 hv6).sw 12 15) I I ⟨rfl, rfl, rfl, trivial⟩ I trivial I) I <| AOps.ghost (st' := ⟨[(3, (.ptr 3 0)), (5, (.map 11)), (6, (.map 13)), (15, (.map 15))], [(3, (.box (Z4 a1).cells)), (11, (.map (Zu Z1 Z1h v2))), (13, (.map (Zu Z1 Z1h v4))), (15, (.fmap (Zu Z1 Z1h v6)))]⟩) (fun a w h => (Z17 ⟨[(3, (.ptr 3 0)), (5, (.map 11)), (6, (.map 13)), (15, (.map 15))], [(3, (.box (Z4 a1).cells)), (11, (.map (Zu Z1 Z1h v2))), (13, (.map (Zu Z1 Z1h v4))), (15, (.fmap (Zu Z1 Z1h v6)))]⟩ (Z2t (m := 15) I a w (Z17 ⟨[(3, (.ptr 3 0)), (5, (.map 11)), (6, (.map 13)), (15, (.map 15))], [(15, (.map (Zu Z1 Z1h v6))), (3, (.box (Z4 a1).cells)), (11, (.map (Zu Z1 Z1h v2))), (13, (.map (Zu Z1 Z1h v4)))]⟩ h ⟨rfl, rfl, rfl, rfl, trivial⟩ ⟨rfl, rfl, rfl, rfl, trivial⟩)) ⟨rfl, rfl, rfl, rfl, trivial⟩ ⟨rfl, rfl, rfl, rfl, trivial⟩)) <| Z2 I (Z6w (l := v6) I ⟨64, 4, by kernel_rfl⟩ I I) I <| Zi <| Zh <| AWp.weaken (st' := ⟨[(3, (.ptr 3 0)), (5, (.map 11)), (6, (.map 13)), (16, (.itr 16))], [(3, (.box (Z4 a1).cells)), (11, (.map (Zu Z1 Z1h v2))), (13, (.map (Zu Z1 Z1h v4))), (16, (.iter none (Zu Z1 Z1h v6)))]⟩) ⟨rfl, rfl, rfl, rfl, trivial⟩ ⟨rfl, rfl, rfl, rfl, trivial⟩ ?_
 refine Z1n (V := (List (Z7 × Bool)) × (List (Z7 × Bool))) (X := (List (Z7 × Bool))) (lp := fun k v => Zbe K (Z96 K a1 v4) k v.1 v.2 = some r) (sh := fun v => ⟨[(3, (.ptr 3 0)), (5, (.map 11)), (6, (.map 13)), (16, (.itr 16))], [(3, (.box (Z4 a1).cells)), (11, (.map (Zu Z1 Z1h v.1))), (13, (.map (Zu Z1 Z1h v4))), (16, (.iter none (Zu Z1 Z1h v.2)))]⟩) (x := fun v => Z96 K a1 v4 v = some r) (shx := fun v => ⟨[(3, (.ptr 3 0)), (5, (.map 11)), (6, (.map 13))], [(3, (.box (Z4 a1).cells)), (11, (.map (Zu Z1 Z1h v))), (13, (.map (Zu Z1 Z1h v4)))]⟩) (k := K) (v := (v2, v6)) h ?_ ?_
 ·intro v h
  revert h
  revert v
  intro v10 h
  try dsimp only at h ⊢
  unfold Z96 at h
  refine Zh <| Zj <| Zj <| Zf <| Z2 I (Z1l (cs := (Z4 a1).cells) (vs := (Z4 a1).cells) I a44 I I I I) I ?_
  have ⟨v14, hv14, h⟩ := Z1f h
  refine Z2 I (Z2v (d := some 24) (c := ⟨[(Z4 a1), (.int .i64 2), (.int .i64 4)] ++ [], [], (.map 24), [(24, (.map (Zu Z1 Z1h v14)))], [24]⟩) (ar := [(Z4 a1), (.int .i64 2), (.int .i64 4)]) (caps := []) (news := [24]) (forg := []) Tryz.call61 ((F61_ok K a1 2 4 v14 hv14).sw 12 24) I I ⟨rfl, rfl, rfl, trivial⟩ I trivial I) I <| AOps.ghost (st' := ⟨[(5, (.map 11)), (6, (.map 13)), (24, (.map 24))], [(11, (.map (Zu Z1 Z1h v10))), (13, (.map (Zu Z1 Z1h v4))), (24, (.fmap (Zu Z1 Z1h v14)))]⟩) (fun a w h => (Z17 ⟨[(5, (.map 11)), (6, (.map 13)), (24, (.map 24))], [(11, (.map (Zu Z1 Z1h v10))), (13, (.map (Zu Z1 Z1h v4))), (24, (.fmap (Zu Z1 Z1h v14)))]⟩ (Z2t (m := 24) I a w (Z17 ⟨[(5, (.map 11)), (6, (.map 13)), (24, (.map 24))], [(24, (.map (Zu Z1 Z1h v14))), (11, (.map (Zu Z1 Z1h v10))), (13, (.map (Zu Z1 Z1h v4)))]⟩ h ⟨rfl, rfl, rfl, trivial⟩ ⟨rfl, rfl, rfl, trivial⟩)) ⟨rfl, rfl, rfl, trivial⟩ ⟨rfl, rfl, rfl, trivial⟩)) <| Z2 I (Z6w (l := v14) I ⟨64, 4, by kernel_rfl⟩ I I) I <| Zi <| Zh <| AWp.weaken (st' := ⟨[(5, (.map 11)), (6, (.map 13)), (25, (.itr 25))], [(11, (.map (Zu Z1 Z1h v10))), (13, (.map (Zu Z1 Z1h v4))), (25, (.iter none (Zu Z1 Z1h v14)))]⟩) ⟨rfl, rfl, rfl, trivial⟩ ⟨rfl, rfl, rfl, trivial⟩ ?_
  refine Z1n (V := (List (Z7 × Bool)) × (List (Z7 × Bool))) (X := (List (Z7 × Bool))) (lp := fun k v => Z83 K (Z94 K v10) k v.1 v.2 = some r) (sh := fun v => ⟨[(5, (.map 11)), (6, (.map 13)), (25, (.itr 25))], [(11, (.map (Zu Z1 Z1h v10))), (13, (.map (Zu Z1 Z1h v.1))), (25, (.iter none (Zu Z1 Z1h v.2)))]⟩) (x := fun v => Z94 K v10 v = some r) (shx := fun v => ⟨[(5, (.map 11)), (6, (.map 13))], [(11, (.map (Zu Z1 Z1h v10))), (13, (.map (Zu Z1 Z1h v)))]⟩) (k := K) (v := (v4, v14)) h ?_ ?_
  ·intro v h
   revert h
   revert v
   intro v18 h
   try dsimp only at h ⊢
   unfold Z94 at h
   refine Zh <| Zj <| Zf <| Z2 I (Zo (v := (.map 11)) I I) I ?_
   have ⟨v22, hv22, h⟩ := Z1f h
   refine Z2 I (Z2v (d := some 33) (c := ⟨[(.map 11)] ++ [], [(11, (.map (Zu Z1 Z1h v10)))], (.clo 106 [(.ptr 33 0)]), [(11, (.map (Zu Z1 Z1h v10))), (33, (.box [(.map 11)]))], [33]⟩) (ar := [(.map 11)]) (caps := []) (news := [33]) (forg := []) Tryz.call64 (((F64_ok K v10 v22 hv22).sw 2000 11).sw 1 33) I I ⟨rfl, trivial⟩ I ⟨rfl, trivial⟩ I) I <| AOps.ghost (st' := ⟨[(6, (.map 13)), (33, (.clo 106 [(.ptr 33 0)]))], [(11, (.fmap (Zu Z1 Z1h v10))), (13, (.map (Zu Z1 Z1h v18))), (33, (.box [(.map 11)]))]⟩) (fun a w h => (Z17 ⟨[(6, (.map 13)), (33, (.clo 106 [(.ptr 33 0)]))], [(11, (.fmap (Zu Z1 Z1h v10))), (13, (.map (Zu Z1 Z1h v18))), (33, (.box [(.map 11)]))]⟩ (Z2t (m := 11) I a w (Z17 ⟨[(6, (.map 13)), (33, (.clo 106 [(.ptr 33 0)]))], [(11, (.map (Zu Z1 Z1h v10))), (13, (.map (Zu Z1 Z1h v18))), (33, (.box [(.map 11)]))]⟩ h ⟨rfl, rfl, trivial⟩ ⟨rfl, rfl, rfl, trivial⟩)) ⟨rfl, rfl, trivial⟩ ⟨rfl, rfl, rfl, trivial⟩)) ?_
   have ⟨hg23, h⟩ := Z13 h
   have hp34 := of_ndPerm h
   refine AOps.callX (ar := [(.clo 106 [(.ptr 33 0)])]) (caps := []) (news := [34]) (forg := []) Tryz.call63 ((((F63_keys v10 hg23).sw 2000 33).sw 2001 11).sw 4 34) I I ⟨rfl, trivial⟩ I ⟨rfl, rfl, trivial⟩ (fun _ => I) I (fun x24 hw34 => ?_)
   have h := hp34 x24 hw34
   refine Z2 I (Zo (v := (.map 13)) I I) I ?_
   have ⟨v26, hv26, h⟩ := Z1f h
   refine Z2 I (Z2v (d := some 36) (c := ⟨[(.map 13)] ++ [], [(13, (.map (Zu Z1 Z1h v18)))], (.clo 106 [(.ptr 36 0)]), [(13, (.map (Zu Z1 Z1h v18))), (36, (.box [(.map 13)]))], [36]⟩) (ar := [(.map 13)]) (caps := []) (news := [36]) (forg := []) Tryz.call64 (((F64_ok K v18 v26 hv26).sw 2000 13).sw 1 36) I I ⟨rfl, trivial⟩ I ⟨rfl, trivial⟩ I) I <| AOps.ghost (st' := ⟨[(34, (.vs 34)), (36, (.clo 106 [(.ptr 36 0)]))], [(13, (.fmap (Zu Z1 Z1h v18))), (34, (.vec 3 (List.map Z1 (List.map (fun e : Z7 × Bool => e.1) x24)))), (36, (.box [(.map 13)]))]⟩) (fun a w h => (Z17 ⟨[(34, (.vs 34)), (36, (.clo 106 [(.ptr 36 0)]))], [(13, (.fmap (Zu Z1 Z1h v18))), (34, (.vec 3 (List.map Z1 (List.map (fun e : Z7 × Bool => e.1) x24)))), (36, (.box [(.map 13)]))]⟩ (Z2t (m := 13) I a w (Z17 ⟨[(34, (.vs 34)), (36, (.clo 106 [(.ptr 36 0)]))], [(13, (.map (Zu Z1 Z1h v18))), (34, (.vec 3 (List.map Z1 (List.map (fun e : Z7 × Bool => e.1) x24)))), (36, (.box [(.map 13)]))]⟩ h ⟨rfl, rfl, trivial⟩ ⟨rfl, rfl, rfl, trivial⟩)) ⟨rfl, rfl, trivial⟩ ⟨rfl, rfl, rfl, trivial⟩)) ?_
   have ⟨hg27, h⟩ := Z13 h
   have hp33 := of_ndPerm h
   refine AOps.callX (ar := [(.clo 106 [(.ptr 36 0)])]) (caps := []) (news := [37]) (forg := []) Tryz.call63 ((((F63_keys v18 hg27).sw 2000 36).sw 2001 13).sw 4 37) I I ⟨rfl, trivial⟩ I ⟨rfl, rfl, trivial⟩ (fun _ => I) I (fun x28 hw33 => ?_)
   have h := hp33 x28 hw33
   refine AOps.ghost (st' := ⟨[(34, (.sl 3 ((List.map (fun e : Z7 × Bool => e.1) x24).map Z1) false)), (37, (.vs 37))], [(37, (.vec 3 (List.map Z1 (List.map (fun e : Z7 × Bool => e.1) x28))))]⟩) (fun a w h => (Z17 ⟨[(34, (.sl 3 ((List.map (fun e : Z7 × Bool => e.1) x24).map Z1) false)), (37, (.vs 37))], [(37, (.vec 3 (List.map Z1 (List.map (fun e : Z7 × Bool => e.1) x28))))]⟩ (Z29 (m := 34) (sz := 3) (es := (List.map Z1 (List.map (fun e : Z7 × Bool => e.1) x24))) a w (Z17 ⟨[(34, (.vs 34)), (37, (.vs 37))], [(34, (.vec 3 (List.map Z1 (List.map (fun e : Z7 × Bool => e.1) x24)))), (37, (.vec 3 (List.map Z1 (List.map (fun e : Z7 × Bool => e.1) x28))))]⟩ h ⟨rfl, rfl, trivial⟩ ⟨rfl, rfl, trivial⟩)) ⟨rfl, rfl, trivial⟩ ⟨rfl, trivial⟩)) <| AOps.ghost (st' := ⟨[(34, (.sl 3 ((List.map (fun e : Z7 × Bool => e.1) x24).map Z1) false)), (37, (.sl 3 ((List.map (fun e : Z7 × Bool => e.1) x28).map Z1) false))], []⟩) (fun a w h => (Z17 ⟨[(34, (.sl 3 ((List.map (fun e : Z7 × Bool => e.1) x24).map Z1) false)), (37, (.sl 3 ((List.map (fun e : Z7 × Bool => e.1) x28).map Z1) false))], []⟩ (Z29 (m := 37) (sz := 3) (es := (List.map Z1 (List.map (fun e : Z7 × Bool => e.1) x28))) a w (Z17 ⟨[(34, (.sl 3 ((List.map (fun e : Z7 × Bool => e.1) x24).map Z1) false)), (37, (.vs 37))], [(37, (.vec 3 (List.map Z1 (List.map (fun e : Z7 × Bool => e.1) x28))))]⟩ h ⟨rfl, rfl, trivial⟩ ⟨rfl, trivial⟩)) ⟨rfl, rfl, trivial⟩ trivial)) <| Z2 I (Z1m (vs := [(.sl 3 ((List.map (fun e : Z7 × Bool => e.1) x24).map Z1) false), (.sl 3 ((List.map (fun e : Z7 × Bool => e.1) x28).map Z1) false)]) (enc := Z15) (l := [(List.map (fun e : Z7 × Bool => e.1) x24), (List.map (fun e : Z7 × Bool => e.1) x28)]) I el192 I I ⟨rfl, rfl, trivial⟩ I Z4e I I I I) I ?_
   have ⟨v30, hv30, h⟩ := Z1f h
   refine Z2 I (st_callBO (enc := Z1) (l := v30) (rd := [(38, (.vec 1 (List.map Z15 [(List.map (fun e : Z7 × Bool => e.1) x24), (List.map (fun e : Z7 × Bool => e.1) x28)])))]) (ar := [(.vs 38)]) (caps := []) Tryz.call62 ((F62_ok K [(List.map (fun e : Z7 × Bool => e.1) x24), (List.map (fun e : Z7 × Bool => e.1) x28)] v30 hv30).sw 2 39) I I ⟨rfl, trivial⟩ (Z4f ⟨rfl, trivial⟩) I I (fun _ => I)) I <| Z2 I (Zp (v := (.vs 39)) I I) I <| Zi <| Zh <| Zj <| Zf <| Z2 I (Zo (v := (.vs 39)) I I) I ?_
   have ⟨v32, hv32, h⟩ := Z1f h
   refine Z2 I (Z2v (d := some 41) (c := ⟨[(.vs 39), (.clo 66 [])], [(39, (.vec 3 (List.map Z1 v30)))], .tup [], [(39, .vec 3 (List.map Z1 v32))], []⟩) (ar := [(.vs 39), (.clo 66 [])]) (caps := []) (news := []) (forg := []) Tryz.call65 (sort_ok (n := 39) (enc := Z1) (l := v30) (caps := []) (c := (fun a b => F66 K a b)) sortC65 Tryz.call66 Z21 (fun _ => I) (fun a b m hm => F66_ok K a b m hm) hv32) I I ⟨rfl, rfl, trivial⟩ I ⟨rfl, trivial⟩ I) I <| Zi <| Zh <| Zj <| Zf <| Z2 I (Zo (v := (.vs 39)) I I) I <| Z2 I (Zp (v := (.vs 39)) I I) I <| Zi ?_
   refine Zh <| Z1g <| At.ghost (st' := ⟨[(4, (.sl 3 (v32.map Z1) false))], []⟩) (fun a w h => (Z17 ⟨[(4, (.sl 3 (v32.map Z1) false))], []⟩ (Z29 (m := 39) (sz := 3) (es := (List.map Z1 v32)) a w (Z17 ⟨[(4, (.vs 39))], [(39, (.vec 3 (List.map Z1 v32)))]⟩ h ⟨rfl, trivial⟩ ⟨rfl, trivial⟩)) ⟨rfl, trivial⟩ trivial)) ?_
   have h := Option.some.inj h
   subst h
   refine (hret _ ?_).1
   exact ⟨[(.sl 3 (v32.map Z1) false)], ⟨rfl, trivial⟩, rfl, trivial⟩
  ·intro N k17 v h IH17 J17
   obtain ⟨v15, v16⟩ := v
   try dsimp only at h IH17 J17 ⊢
   cases k17 with
   | zero => cases h
   | succ k17 =>
    rw [Z83] at h
    refine Zj <| Zf ?_
    have hn38 := Z7h h
    refine AOps.consNext (encK := Z1) (encV := Z1h) (rem := v16) I I I (fun hc => ?_) (fun xx37p x36 xx37q hc => ?_)
    ·have h := hn38.1 hc
     refine Z2 I (Z2g (vs := [(.bool false)]) (v := (.bool false)) I I I) I <| Zi <| Zh <| Zj ?_
     refine Z16 (b := false) I (fun hc => ?_) (fun hc => ?_)
     ·cases hc
     refine AWp.exit <| At.thru ?_
     exact Zy (st' := ⟨[(5, (.map 11)), (6, (.map 13))], [(11, (.map (Zu Z1 Z1h v10))), (13, (.map (Zu Z1 Z1h v15)))]⟩) ⟨rfl, rfl, trivial⟩ ⟨rfl, rfl, trivial⟩ (J17 v15 h)
    ·have h := hn38.2 _ _ _ hc
     generalize xx37p ++ xx37q = x37 at h ⊢
     refine Z2 I (Z2g (vs := [(.bool true), .undef, .undef]) (v := (.bool true)) I I I) I <| Zi <| Zh <| Zj ?_
     refine Z16 (b := true) I (fun hc => ?_) (fun hc => ?_)
     rotate_left
     ·cases hc
     refine Z1b <| Zh <| AWp.block <| Zj <| Zf <| Z2 I (Z71 (k := x36.1) (v := x36.2) (encK := Z1) (encV := Z1h) I I I) I <| Z2 I (Z2g (vs := [(Z1 x36.1), (.bool x36.2)]) (v := (Z1 x36.1)) I I I) I <| Z2 I (Z1v (cs := [(.int .i64 0), (.str []), (.str [])]) I z64 I I I) I ?_
     refine Z2 I (Z1e (cs := [(.int .i64 0), (.str []), (.str [])]) (vs := (Z1 x36.1).cells) (ds := (Z1 x36.1).cells) (v := (Z1 x36.1)) sz64 I I I I I I I I) I <| Zi <| Zh <| Zf <| Z2 I (Zo (v := (.map 13)) I I) I <| Z2 I (Z1l (cs := (Z1 x36.1).cells) (vs := (Z1 x36.1).cells) I a64 I I I I) I <| Z2 I (st_delete (l := v15) (a := x36.1) (kv := (Z1 x36.1)) mt131 I I I I) I <| Zi ?_
     refine At.end <| At.ghost (st' := ⟨[(5, (.map 11)), (6, (.map 13)), (25, (.itr 25))], [(11, (.map (Zu Z1 Z1h v10))), (13, (.map (Zu Z1 Z1h (mdel Z1a x36.1 v15)))), (25, (.iter none (Zu Z1 Z1h x37)))]⟩) (fun a w h => (Z17 ⟨[(5, (.map 11)), (6, (.map 13)), (25, (.itr 25))], [(11, (.map (Zu Z1 Z1h v10))), (13, (.map (Zu Z1 Z1h (mdel Z1a x36.1 v15)))), (25, (.iter none (Zu Z1 Z1h x37)))]⟩ (Z4t (m := 25) a w (Z17 ⟨[(5, (.map 11)), (6, (.map 13)), (25, (.itr 25))], [(25, (.iter (some (Z1 x36.1, Z1h x36.2)) (Zu Z1 Z1h x37))), (11, (.map (Zu Z1 Z1h v10))), (13, (.map (Zu Z1 Z1h (mdel Z1a x36.1 v15))))]⟩ h ⟨rfl, rfl, rfl, trivial⟩ ⟨rfl, rfl, rfl, trivial⟩)) ⟨rfl, rfl, rfl, trivial⟩ ⟨rfl, rfl, rfl, trivial⟩)) ?_
     exact Zy (st' := ⟨[(5, (.map 11)), (6, (.map 13)), (25, (.itr 25))], [(11, (.map (Zu Z1 Z1h v10))), (13, (.map (Zu Z1 Z1h (mdel Z1a x36.1 v15)))), (25, (.iter none (Zu Z1 Z1h x37)))]⟩) ⟨rfl, rfl, rfl, trivial⟩ ⟨rfl, rfl, rfl, trivial⟩ (IH17 _ ((mdel Z1a x36.1 v15), x37) (Nat.lt_succ_self _) h)
 ·intro N k9 v h IH9 J9
  obtain ⟨v7, v8⟩ := v
  try dsimp only at h IH9 J9 ⊢
  cases k9 with
  | zero => cases h
  | succ k9 =>
   rw [Zbe] at h
   refine Zj <| Zf ?_
   have hn42 := Z7h h
   refine AOps.consNext (encK := Z1) (encV := Z1h) (rem := v8) I I I (fun hc => ?_) (fun xx41p x40 xx41q hc => ?_)
   ·have h := hn42.1 hc
    refine Z2 I (Z2g (vs := [(.bool false)]) (v := (.bool false)) I I I) I <| Zi <| Zh <| Zj ?_
    refine Z16 (b := false) I (fun hc => ?_) (fun hc => ?_)
    ·cases hc
    refine AWp.exit <| At.thru ?_
    exact Zy (st' := ⟨[(3, (.ptr 3 0)), (5, (.map 11)), (6, (.map 13))], [(3, (.box (Z4 a1).cells)), (11, (.map (Zu Z1 Z1h v7))), (13, (.map (Zu Z1 Z1h v4)))]⟩) ⟨rfl, rfl, rfl, trivial⟩ ⟨rfl, rfl, rfl, trivial⟩ (J9 v7 h)
   ·have h := hn42.2 _ _ _ hc
    generalize xx41p ++ xx41q = x41 at h ⊢
    refine Z2 I (Z2g (vs := [(.bool true), .undef, .undef]) (v := (.bool true)) I I I) I <| Zi <| Zh <| Zj ?_
    refine Z16 (b := true) I (fun hc => ?_) (fun hc => ?_)
    rotate_left
    ·cases hc
    refine Z1b <| Zh <| AWp.block <| Zj <| Zf <| Z2 I (Z71 (k := x40.1) (v := x40.2) (encK := Z1) (encV := Z1h) I I I) I <| Z2 I (Z2g (vs := [(Z1 x40.1), (.bool x40.2)]) (v := (Z1 x40.1)) I I I) I <| Z2 I (Z1v (cs := [(.int .i64 0), (.str []), (.str [])]) I z64 I I I) I ?_
    refine Z2 I (Z1e (cs := [(.int .i64 0), (.str []), (.str [])]) (vs := (Z1 x40.1).cells) (ds := (Z1 x40.1).cells) (v := (Z1 x40.1)) sz64 I I I I I I I I) I <| Zi <| Zh <| Zf <| Z2 I (Zo (v := (.map 11)) I I) I <| Z2 I (Z1l (cs := (Z1 x40.1).cells) (vs := (Z1 x40.1).cells) I a64 I I I I) I <| Z2 I (st_delete (l := v7) (a := x40.1) (kv := (Z1 x40.1)) mt131 I I I I) I <| Zi ?_
    refine At.end <| At.ghost (st' := ⟨[(3, (.ptr 3 0)), (5, (.map 11)), (6, (.map 13)), (16, (.itr 16))], [(3, (.box (Z4 a1).cells)), (11, (.map (Zu Z1 Z1h (mdel Z1a x40.1 v7)))), (13, (.map (Zu Z1 Z1h v4))), (16, (.iter none (Zu Z1 Z1h x41)))]⟩) (fun a w h => (Z17 ⟨[(3, (.ptr 3 0)), (5, (.map 11)), (6, (.map 13)), (16, (.itr 16))], [(3, (.box (Z4 a1).cells)), (11, (.map (Zu Z1 Z1h (mdel Z1a x40.1 v7)))), (13, (.map (Zu Z1 Z1h v4))), (16, (.iter none (Zu Z1 Z1h x41)))]⟩ (Z4t (m := 16) a w (Z17 ⟨[(3, (.ptr 3 0)), (5, (.map 11)), (6, (.map 13)), (16, (.itr 16))], [(16, (.iter (some (Z1 x40.1, Z1h x40.2)) (Zu Z1 Z1h x41))), (3, (.box (Z4 a1).cells)), (11, (.map (Zu Z1 Z1h (mdel Z1a x40.1 v7)))), (13, (.map (Zu Z1 Z1h v4)))]⟩ h ⟨rfl, rfl, rfl, rfl, trivial⟩ ⟨rfl, rfl, rfl, rfl, trivial⟩)) ⟨rfl, rfl, rfl, rfl, trivial⟩ ⟨rfl, rfl, rfl, rfl, trivial⟩)) ?_
    exact Zy (st' := ⟨[(3, (.ptr 3 0)), (5, (.map 11)), (6, (.map 13)), (16, (.itr 16))], [(3, (.box (Z4 a1).cells)), (11, (.map (Zu Z1 Z1h (mdel Z1a x40.1 v7)))), (13, (.map (Zu Z1 Z1h v4))), (16, (.iter none (Zu Z1 Z1h x41)))]⟩) ⟨rfl, rfl, rfl, rfl, trivial⟩ ⟨rfl, rfl, rfl, rfl, trivial⟩ (IH9 _ ((mdel Z1a x40.1 v7), x41) (Nat.lt_succ_self _) h)
def Z5b (K : Nat) (v4 : (List Z7)) : Option ((List Z7)) :=
 some v4
def Z55 (K : Nat) (b7 : Int → (List Z7) → Option ((List Z7))) (v1 : Int) (v20 : (List Z7)) : Option ((List Z7)) :=
 b7 (IntKind.i64.wrap (v1 + 1)) v20
def Z7s (K : Nat) (b23 : Int → (List Z7) → Option ((List Z7))) (v17 : Int) (v28 : (List Z7)) : Option ((List Z7)) :=
 b23 (IntKind.i64.wrap (v17 + 1)) v28
def Z3y (K : Nat) (v9 : Zc) (v1 : Int) (v8 : Zc) (c22 : (List Z7) → Option ((List Z7))) : Nat → Int → (List Z7) → Option ((List Z7))
 | 0, _, _ => none
 | k19 + 1, v17, v18 =>
  if (decide (v17 < (v9.Calls.length : Int))) = true then
   if (decide (v1 > 2)) = true then
    if (0 : Int) ≤ v17 ∧ v17 < v9.Calls.length then
     if (0 : Int) ≤ v17 ∧ v17 < v9.Calls.length then
      (F54 K v8 (v9.Calls.getD v17.toNat Z6).Caller (v9.Calls.getD v17.toNat Z6).Callee).bind fun v27 =>
       if (v27.Count == 0) = true then
        if (0 : Int) ≤ v17 ∧ v17 < v9.Calls.length then
         if (0 : Int) ≤ v17 ∧ v17 < v9.Calls.length then
          if v18.length + [(⟨v1, (v9.Calls.getD v17.toNat Z6).Caller, (v9.Calls.getD v17.toNat Z6).Callee⟩ : Z7)].length ≤ 1073741824 then
           Z7s K (Z3y K v9 v1 v8 c22 k19) v17 (v18 ++ [(⟨v1, (v9.Calls.getD v17.toNat Z6).Caller, (v9.Calls.getD v17.toNat Z6).Callee⟩ : Z7)])
          else none
         else none
        else none
       else
        Z7s K (Z3y K v9 v1 v8 c22 k19) v17 v18
     else none
    else none
   else
    c22 v18
  else
   c22 v18
def Z6q (K : Nat) (v9 : Zc) (v1 : Int) (v8 : Zc) (b7 : Int → (List Z7) → Option ((List Z7))) (v14 : (List Z7)) : Option ((List Z7)) :=
 Z3y K v9 v1 v8 (Z55 K b7 v1) K 0 v14
def Z7q (K : Nat) (b33 : Int → (List Z7) → Option ((List Z7))) (v11 : Int) (v37 : (List Z7)) : Option ((List Z7)) :=
 b33 (IntKind.i64.wrap (v11 + 1)) v37
def Z3w (K : Nat) (v9 : Zc) (v1 : Int) (v8 : Zc) (c16 : (List Z7) → Option ((List Z7))) : Nat → Int → (List Z7) → Option ((List Z7))
 | 0, _, _ => none
 | k13 + 1, v11, v12 =>
  if (decide (v11 < (v9.Services.length : Int))) = true then
   if (decide (v1 ≤ 2)) = true then
    if (0 : Int) ≤ v11 ∧ v11 < v9.Services.length then
     (F31 K v8 (v9.Services.getD v11.toNat Z9).Name).bind fun v36 =>
      if (v36.Spans == 0) = true then
       if (0 : Int) ≤ v11 ∧ v11 < v9.Services.length then
        if v12.length + ([(⟨v1, (v9.Services.getD v11.toNat Z9).Name, []⟩ : Z7)]).length ≤ 1073741824 then
         Z7q K (Z3w K v9 v1 v8 c16 k13) v11 (v12 ++ ([(⟨v1, (v9.Services.getD v11.toNat Z9).Name, []⟩ : Z7)]))
        else none
       else none
      else
       Z7q K (Z3w K v9 v1 v8 c16 k13) v11 v12
    else none
   else
    c16 v12
  else
   c16 v12
def Z5e (K : Nat) (v1 : Int) (b7 : Int → (List Z7) → Option ((List Z7))) (v2 : (List Z7)) (v8 : Zc) (v9 : Zc) : Option ((List Z7)) :=
 Z3w K v9 v1 v8 (Z6q K v9 v1 v8 b7) K 0 v2
def Z3s (K : Nat) (a1 : Zc) (a0 : Zc) (c6 : (List Z7) → Option ((List Z7))) : Nat → Int → (List Z7) → Option ((List Z7))
 | 0, _, _ => none
 | k3 + 1, v1, v2 =>
  if (decide (v1 ≤ 4)) = true then
   if ((v1.tmod 2) == 0) = true then
    Z5e K v1 (Z3s K a1 a0 c6 k3) v2 a1 a0
   else
    Z5e K v1 (Z3s K a1 a0 c6 k3) v2 a0 a1
  else
   c6 v2
def F25 (K : Nat) (a0 : Zc) (a1 : Zc) : Option ((List Z7)) :=
 Z3s K a1 a0 (Z5b K) K 1 []
theorem F25_ok (K : Nat) (a0 : Zc) (a1 : Zc) (r : (List Z7)) (h : F25 K a0 a1 = some r) : ACall P 25 ⟨[(Z4 a0), (Z4 a1)], [], (.sl 3 (r.map Z1) false), [], []⟩ := by
 refine Z1s Tryz.func25 Tryz.results25 rfl Tryz.ntmps25 rfl rfl rfl ?_
 intro E Q hP hN hro hret
 obtain ⟨P', nt', w0, F0, p0, S0, β0, ro0⟩ := E
 simp only at hP hN
 subst hP hN
 dsimp only [argT]
 unfold F25 at h
 refine Zj <| Zf <| Z2 I (Z2m (v := (Z4 a0)) (cs := (Z4 a0).cells) I I I I I) I <| Z2 I (Z2m (v := (Z4 a1)) (cs := (Z4 a1).cells) I I I I I) I <| Z2 I (Zp (v := (.sl 3 [] false)) I I) I <| Zi <| Zh <| Zj ?_
 refine Zf <| Z2 I (Zp (v := (.sl 3 [] true)) I I) I <| Zi <| Zh <| Zj <| Zj <| Zf <| Z2 I (Zp (v := (.int .i64 1)) I I) I ?_
 refine Zi <| Zh <| AWp.ghost (st' := ⟨[(2, (.ptr 2 0)), (3, (.ptr 3 0)), (5, (.vs 5)), (6, (.int .i64 1))], [(2, (.box (Z4 a0).cells)), (3, (.box (Z4 a1).cells)), (5, (.vec 3 (List.map Z1 ([] : List Z7))))]⟩) (fun a w h => (Z17 ⟨[(2, (.ptr 2 0)), (3, (.ptr 3 0)), (5, (.vs 5)), (6, (.int .i64 1))], [(2, (.box (Z4 a0).cells)), (3, (.box (Z4 a1).cells)), (5, (.vec 3 (List.map Z1 ([] : List Z7))))]⟩ (Za7 (k := 5) (m := 5) (sz := 3) I I a w (Z17 ⟨[(5, (.sl 3 [] true)), (2, (.ptr 2 0)), (3, (.ptr 3 0)), (6, (.int .i64 1))], [(2, (.box (Z4 a0).cells)), (3, (.box (Z4 a1).cells))]⟩ h ⟨rfl, rfl, rfl, rfl, trivial⟩ ⟨rfl, rfl, trivial⟩)) ⟨rfl, rfl, rfl, rfl, trivial⟩ ⟨rfl, rfl, rfl, trivial⟩)) <| AWp.weaken (st' := ⟨[(2, (.ptr 2 0)), (3, (.ptr 3 0)), (5, (.vs 5)), (6, (.int .i64 1))], [(2, (.box (Z4 a0).cells)), (3, (.box (Z4 a1).cells)), (5, (.vec 3 (List.map Z1 [])))]⟩) ⟨rfl, rfl, rfl, rfl, trivial⟩ ⟨rfl, rfl, rfl, trivial⟩ ?_
 refine Z1n (V := Int × (List Z7)) (X := (List Z7)) (lp := fun k v => Z3s K a1 a0 (Z5b K) k v.1 v.2 = some r) (sh := fun v => ⟨[(2, (.ptr 2 0)), (3, (.ptr 3 0)), (5, (.vs 5)), (6, (.int .i64 v.1))], [(2, (.box (Z4 a0).cells)), (3, (.box (Z4 a1).cells)), (5, (.vec 3 (List.map Z1 v.2)))]⟩) (x := fun v => Z5b K v = some r) (shx := fun v => ⟨[(5, (.vs 5))], [(5, (.vec 3 (List.map Z1 v)))]⟩) (k := K) (v := (1, [])) h ?_ ?_
 ·intro v h
  revert h
  revert v
  intro v4 h
  try dsimp only at h ⊢
  unfold Z5b at h
  refine Zh <| Zj <| Zf <| Z2 I (Zo (v := (.vs 5)) I I) I <| Z2 I (Zp (v := (.vs 5)) I I) I <| Zi <| Zh <| Z1g ?_
  refine At.ghost (st' := ⟨[(4, (.sl 3 (v4.map Z1) false))], []⟩) (fun a w h => (Z17 ⟨[(4, (.sl 3 (v4.map Z1) false))], []⟩ (Z29 (m := 5) (sz := 3) (es := (List.map Z1 v4)) a w (Z17 ⟨[(4, (.vs 5))], [(5, (.vec 3 (List.map Z1 v4)))]⟩ h ⟨rfl, trivial⟩ ⟨rfl, trivial⟩)) ⟨rfl, trivial⟩ trivial)) ?_
  have h := Option.some.inj h
  subst h
  refine (hret _ ?_).1
  exact ⟨[(.sl 3 (v4.map Z1) false)], ⟨rfl, trivial⟩, rfl, trivial⟩
 ·intro N k3 v h IH3 J3
  obtain ⟨v1, v2⟩ := v
  try dsimp only at h IH3 J3 ⊢
  cases k3 with
  | zero => cases h
  | succ k3 =>
   rw [Z3s] at h
   refine Zj <| Zj <| Zf <| Z2 I (Zo (v := (.int .i64 v1)) I I) I <| Z2 I (Z25 (k := .i64) (a := v1) (b := 4) (c := (decide (v1 ≤ 4))) I I I I) I <| Zi <| Zh ?_
   have hif := Z28 h
   refine Z16 I (fun hc => ?_) (fun hc => ?_)
   ·have h := hif.1 hc
    refine Z1b <| Zh <| Zj <| AWp.block <| Zj <| Z1r mixed <| Zb 0 I (Z1l (cs := (Z4 a0).cells) (vs := (Z4 a0).cells) I a44 I I I I) <| Zb 1 I (Z1l (cs := (Z4 a1).cells) (vs := (Z4 a1).cells) I a44 I I I I) ?_
    refine Zb 2 I (Z1v (cs := [(.sl 4 [] false), (.sl 5 [] false)]) I z44 I I I) <| Zb 3 I (Z1v (cs := [(.sl 4 [] false), (.sl 5 [] false)]) I z44 I I I) <| Zb 4 I (Z1e (cs := [(.sl 4 [] false), (.sl 5 [] false)]) (vs := (Z4 a0).cells) (ds := (Z4 a0).cells) (v := (Z4 a0)) Zau I I I I I I I I) <| Zb 5 I (Z1e (cs := [(.sl 4 [] false), (.sl 5 [] false)]) (vs := (Z4 a1).cells) (ds := (Z4 a1).cells) (v := (Z4 a1)) Zau I I I I I I I I) <| AOpsD.nil (by kernel_rfl) I <| Zh <| Zj <| Zj ?_
    refine Zf <| Z2 I (Zo (v := (.int .i64 v1)) I I) I <| Z2 I (st_div (k := .i64) (a := v1) (b := 2) (c := (v1.tmod 2)) I I I I (by decide)) I <| Z2 I (Z25 (k := .i64) (a := (v1.tmod 2)) (b := 0) (c := ((v1.tmod 2) == 0)) I I I I) I <| Zi <| Zh ?_
    refine AWp.join (V := Zc × Zc) (lp := fun v => Z5e K v1 (Z3s K a1 a0 (Z5b K) k3) v2 v.1 v.2 = some r) (sh := fun v => ⟨[(2, (.ptr 2 0)), (3, (.ptr 3 0)), (5, (.vs 5)), (6, (.int .i64 v1)), (7, (.ptr 7 0)), (8, (.ptr 8 0))], [(2, (.box (Z4 a0).cells)), (3, (.box (Z4 a1).cells)), (5, (.vec 3 (List.map Z1 v2))), (7, (.box (Z4 v.1).cells)), (8, (.box (Z4 v.2).cells))]⟩) ?_ ?_
    ·intro v h
     obtain ⟨v8, v9⟩ := v
     try dsimp only at h ⊢
     unfold Z5e at h
     refine Zh <| Zj <| Zj <| Zf <| Z2 I (Zp (v := (.int .i64 0)) I I) I <| Zi <| Zh <| AWp.weaken (st' := ⟨[(2, (.ptr 2 0)), (3, (.ptr 3 0)), (5, (.vs 5)), (6, (.int .i64 v1)), (7, (.ptr 7 0)), (8, (.ptr 8 0)), (9, (.int .i64 0))], [(2, (.box (Z4 a0).cells)), (3, (.box (Z4 a1).cells)), (5, (.vec 3 (List.map Z1 v2))), (7, (.box (Z4 v8).cells)), (8, (.box (Z4 v9).cells))]⟩) ⟨rfl, rfl, rfl, rfl, rfl, rfl, rfl, trivial⟩ ⟨rfl, rfl, rfl, rfl, rfl, trivial⟩ ?_
     refine Z1n (V := Int × (List Z7)) (X := (List Z7)) (lp := fun k v => Z3w K v9 v1 v8 (Z6q K v9 v1 v8 (Z3s K a1 a0 (Z5b K) k3)) k v.1 v.2 = some r) (sh := fun v => ⟨[(2, (.ptr 2 0)), (3, (.ptr 3 0)), (5, (.vs 5)), (6, (.int .i64 v1)), (7, (.ptr 7 0)), (8, (.ptr 8 0)), (9, (.int .i64 v.1))], [(2, (.box (Z4 a0).cells)), (3, (.box (Z4 a1).cells)), (5, (.vec 3 (List.map Z1 v.2))), (7, (.box (Z4 v8).cells)), (8, (.box (Z4 v9).cells))]⟩) (x := fun v => Z6q K v9 v1 v8 (Z3s K a1 a0 (Z5b K) k3) v = some r) (shx := fun v => ⟨[(2, (.ptr 2 0)), (3, (.ptr 3 0)), (5, (.vs 5)), (6, (.int .i64 v1)), (7, (.ptr 7 0)), (8, (.ptr 8 0))], [(2, (.box (Z4 a0).cells)), (3, (.box (Z4 a1).cells)), (5, (.vec 3 (List.map Z1 v))), (7, (.box (Z4 v8).cells)), (8, (.box (Z4 v9).cells))]⟩) (k := K) (v := (0, v2)) h ?_ ?_
     ·intro v h
      revert h
      revert v
      intro v14 h
      try dsimp only at h ⊢
      unfold Z6q at h
      refine Zh <| Zj <| Zf <| Z2 I (Zp (v := (.int .i64 0)) I I) I <| Zi <| Zh <| AWp.weaken (st' := ⟨[(2, (.ptr 2 0)), (3, (.ptr 3 0)), (5, (.vs 5)), (6, (.int .i64 v1)), (7, (.ptr 7 0)), (8, (.ptr 8 0)), (10, (.int .i64 0))], [(2, (.box (Z4 a0).cells)), (3, (.box (Z4 a1).cells)), (5, (.vec 3 (List.map Z1 v14))), (7, (.box (Z4 v8).cells)), (8, (.box (Z4 v9).cells))]⟩) ⟨rfl, rfl, rfl, rfl, rfl, rfl, rfl, trivial⟩ ⟨rfl, rfl, rfl, rfl, rfl, trivial⟩ ?_
      refine Z1n (V := Int × (List Z7)) (X := (List Z7)) (lp := fun k v => Z3y K v9 v1 v8 (Z55 K (Z3s K a1 a0 (Z5b K) k3) v1) k v.1 v.2 = some r) (sh := fun v => ⟨[(2, (.ptr 2 0)), (3, (.ptr 3 0)), (5, (.vs 5)), (6, (.int .i64 v1)), (7, (.ptr 7 0)), (8, (.ptr 8 0)), (10, (.int .i64 v.1))], [(2, (.box (Z4 a0).cells)), (3, (.box (Z4 a1).cells)), (5, (.vec 3 (List.map Z1 v.2))), (7, (.box (Z4 v8).cells)), (8, (.box (Z4 v9).cells))]⟩) (x := fun v => Z55 K (Z3s K a1 a0 (Z5b K) k3) v1 v = some r) (shx := fun v => ⟨[(2, (.ptr 2 0)), (3, (.ptr 3 0)), (5, (.vs 5)), (6, (.int .i64 v1))], [(2, (.box (Z4 a0).cells)), (3, (.box (Z4 a1).cells)), (5, (.vec 3 (List.map Z1 v)))]⟩) (k := K) (v := (0, v14)) h ?_ ?_
      ·intro v h
       revert h
       revert v
       intro v20 h
       try dsimp only at h ⊢
       unfold Z55 at h
       refine At.end <| Zh <| Zf <| Z2 I (Zo (v := (.int .i64 v1)) I I) I <| Z2 I (Z1u (k := .i64) (a := v1) (b := 1) (c := (IntKind.i64.wrap (v1 + 1))) I I I I) I <| Z2 I (Zp (v := (.int .i64 (IntKind.i64.wrap (v1 + 1)))) I I) I <| Zi ?_
       exact Zy (st' := ⟨[(2, (.ptr 2 0)), (3, (.ptr 3 0)), (5, (.vs 5)), (6, (.int .i64 (IntKind.i64.wrap (v1 + 1))))], [(2, (.box (Z4 a0).cells)), (3, (.box (Z4 a1).cells)), (5, (.vec 3 (List.map Z1 v20)))]⟩) ⟨rfl, rfl, rfl, rfl, trivial⟩ ⟨rfl, rfl, rfl, trivial⟩ (IH3 _ ((IntKind.i64.wrap (v1 + 1)), v20) (Nat.lt_succ_self _) h)
      ·intro N k19 v h IH19 J19
       obtain ⟨v17, v18⟩ := v
       try dsimp only at h IH19 J19 ⊢
       cases k19 with
       | zero => cases h
       | succ k19 =>
        rw [Z3y] at h
        refine Zj <| Zj <| Zf <| Z2 I (Zo (v := (.int .i64 v17)) I I) I <| Z2 I (Zr (m := 8) (o := 0) I Z3i I I) I <| Z2 I (Zt (cs := (Z4 v9).cells) (v := (.sl 5 (v9.Calls.map Z5) false)) I o42 I I I) I <| Z2 I (Z24 (l := v9.Calls) (enc := Z5) I s42 I) I <| Z2 I (Z25 (k := .i64) (a := v17) (b := (v9.Calls.length : Int)) (c := (decide (v17 < (v9.Calls.length : Int)))) I I I I) I ?_
        refine Z2 I (Zo (v := (.bool (decide (v17 < (v9.Calls.length : Int))))) I I) I ?_
        have hif := Z28 h
        refine AOps.split (fun hc => ?_) (fun hc => ?_)
        ·have h := hif.1 hc
         refine Z1j I I I I (Zo (v := (.int .i64 v1)) I I) I <| Z1j I I I I (Z25 (k := .i64) (a := v1) (b := 2) (c := (decide (v1 > 2))) I I I I) I <| Z2 I (Z2w (v := (.bool (decide (v1 > 2)))) I I I) I <| Zi <| Zh ?_
         have hif := Z28 h
         refine Z16 I (fun hc => ?_) (fun hc => ?_)
         ·have h := hif.1 hc
          refine Z1b <| Zh <| Zj <| AWp.block <| Zj <| Z1r mixed <| Zb 0 I (Z1l (cs := (Z4 v8).cells) (vs := (Z4 v8).cells) I a44 I I I I) <| Zb 1 I (Zr (m := 8) (o := 0) I Z3i I I) ?_
          refine Zb 2 I (Zt (cs := (Z4 v9).cells) (v := (.sl 5 (v9.Calls.map Z5) false)) I o42 I I I) <| Zb 3 I (Zo (v := (.int .i64 v17)) I I) ?_
          have ⟨hg24, h⟩ := Z13 h
          refine Zb 4 I (Z1w (k := .i64) (l := v9.Calls) (enc := Z5) (z := Z6) (n := v17) (cs := (Z5 (v9.Calls.getD v17.toNat Z6)).cells) (full := false) I s42 I I hg24 I) <| Zb 5 I (Z2n (cs := (Z5 (v9.Calls.getD v17.toNat Z6)).cells) (ds := (Z5 (v9.Calls.getD v17.toNat Z6)).cells) I Z7d I I I) <| Zb 6 I (Z2f (cs := (Z5 (v9.Calls.getD v17.toNat Z6)).cells) (v := (.str (v9.Calls.getD v17.toNat Z6).Caller)) I o9 I I) <| Zb 7 I (Zr (m := 8) (o := 0) I Z3i I I) <| Zb 8 I (Zt (cs := (Z4 v9).cells) (v := (.sl 5 (v9.Calls.map Z5) false)) I o42 I I I) <| Zb 9 I (Zo (v := (.int .i64 v17)) I I) ?_
          have ⟨hg25, h⟩ := Z13 h
          refine Zb 10 I (Z1w (k := .i64) (l := v9.Calls) (enc := Z5) (z := Z6) (n := v17) (cs := (Z5 (v9.Calls.getD v17.toNat Z6)).cells) (full := false) I s42 I I hg25 I) <| Zb 11 I (Z2n (cs := (Z5 (v9.Calls.getD v17.toNat Z6)).cells) (ds := [(.str (v9.Calls.getD v17.toNat Z6).Callee), (.int .i64 (v9.Calls.getD v17.toNat Z6).Count), (.int .i64 (v9.Calls.getD v17.toNat Z6).Errors), (.int .i64 (v9.Calls.getD v17.toNat Z6).Time)]) I Z7g I I I) <| Zb 12 I (Z2f (cs := [(.str (v9.Calls.getD v17.toNat Z6).Callee), (.int .i64 (v9.Calls.getD v17.toNat Z6).Count), (.int .i64 (v9.Calls.getD v17.toNat Z6).Errors), (.int .i64 (v9.Calls.getD v17.toNat Z6).Time)]) (v := (.str (v9.Calls.getD v17.toNat Z6).Callee)) I o9 I I) ?_
          have ⟨v27, hv27, h⟩ := Z1f h
          refine Zb 13 I (Z1o (ar := [(Z4 v8), (.str (v9.Calls.getD v17.toNat Z6).Caller), (.str (v9.Calls.getD v17.toNat Z6).Callee)]) (caps := []) Tryz.call54 (F54_ok K v8 (v9.Calls.getD v17.toNat Z6).Caller (v9.Calls.getD v17.toNat Z6).Callee v27 hv27) I I ⟨rfl, rfl, rfl, trivial⟩ I) <| Zb 14 I (st_field (cs := (Z5 v27).cells) (v := (.int .i64 v27.Count)) I ft88_2 o3 I I) <| Zb 15 I (Z25 (k := .i64) (a := v27.Count) (b := 0) (c := (v27.Count == 0)) I I I I) <| AOpsD.nil (by kernel_rfl) I <| Zh ?_
          refine AWp.join (V := (List Z7)) (lp := fun v => Z7s K (Z3y K v9 v1 v8 (Z55 K (Z3s K a1 a0 (Z5b K) k3) v1) k19) v17 v = some r) (sh := fun v => ⟨[(2, (.ptr 2 0)), (3, (.ptr 3 0)), (5, (.vs 5)), (6, (.int .i64 v1)), (7, (.ptr 7 0)), (8, (.ptr 8 0)), (10, (.int .i64 v17))], [(2, (.box (Z4 a0).cells)), (3, (.box (Z4 a1).cells)), (5, (.vec 3 (List.map Z1 v))), (7, (.box (Z4 v8).cells)), (8, (.box (Z4 v9).cells))]⟩) ?_ ?_
          ·intro v h
           revert h
           revert v
           intro v28 h
           try dsimp only at h ⊢
           unfold Z7s at h
           refine At.end <| Zh <| Zf <| Z2 I (Zo (v := (.int .i64 v17)) I I) I <| Z2 I (Z1u (k := .i64) (a := v17) (b := 1) (c := (IntKind.i64.wrap (v17 + 1))) I I I I) I <| Z2 I (Zp (v := (.int .i64 (IntKind.i64.wrap (v17 + 1)))) I I) I <| Zi ?_
           exact Zy (st' := ⟨[(2, (.ptr 2 0)), (3, (.ptr 3 0)), (5, (.vs 5)), (6, (.int .i64 v1)), (7, (.ptr 7 0)), (8, (.ptr 8 0)), (10, (.int .i64 (IntKind.i64.wrap (v17 + 1))))], [(2, (.box (Z4 a0).cells)), (3, (.box (Z4 a1).cells)), (5, (.vec 3 (List.map Z1 v28))), (7, (.box (Z4 v8).cells)), (8, (.box (Z4 v9).cells))]⟩) ⟨rfl, rfl, rfl, rfl, rfl, rfl, rfl, trivial⟩ ⟨rfl, rfl, rfl, rfl, rfl, trivial⟩ (IH19 _ ((IntKind.i64.wrap (v17 + 1)), v28) (Nat.lt_succ_self _) h)
          ·intro J29
           have hif := Z28 h
           refine Z16 I (fun hc => ?_) (fun hc => ?_)
           ·have h := hif.1 hc
            refine Z1r mixed <| Zb 0 I (Zo (v := (.vs 5)) I I) <| Zb 1 I (Zo (v := (.int .i64 v1)) I I) <| Zb 2 I (Zr (m := 8) (o := 0) I Z3i I I) <| Zb 3 I (Zt (cs := (Z4 v9).cells) (v := (.sl 5 (v9.Calls.map Z5) false)) I o42 I I I) <| Zb 4 I (Zo (v := (.int .i64 v17)) I I) ?_
            have ⟨hg30, h⟩ := Z13 h
            refine Zb 5 I (Z1w (k := .i64) (l := v9.Calls) (enc := Z5) (z := Z6) (n := v17) (cs := (Z5 (v9.Calls.getD v17.toNat Z6)).cells) (full := false) I s42 I I hg30 I) <| Zb 6 I (Z2n (cs := (Z5 (v9.Calls.getD v17.toNat Z6)).cells) (ds := (Z5 (v9.Calls.getD v17.toNat Z6)).cells) I Z7d I I I) <| Zb 7 I (Z2f (cs := (Z5 (v9.Calls.getD v17.toNat Z6)).cells) (v := (.str (v9.Calls.getD v17.toNat Z6).Caller)) I o9 I I) <| Zb 8 I (Zr (m := 8) (o := 0) I Z3i I I) <| Zb 9 I (Zt (cs := (Z4 v9).cells) (v := (.sl 5 (v9.Calls.map Z5) false)) I o42 I I I) <| Zb 10 I (Zo (v := (.int .i64 v17)) I I) ?_
            have ⟨hg31, h⟩ := Z13 h
            refine Zb 11 I (Z1w (k := .i64) (l := v9.Calls) (enc := Z5) (z := Z6) (n := v17) (cs := (Z5 (v9.Calls.getD v17.toNat Z6)).cells) (full := false) I s42 I I hg31 I) <| Zb 12 I (Z2n (cs := (Z5 (v9.Calls.getD v17.toNat Z6)).cells) (ds := [(.str (v9.Calls.getD v17.toNat Z6).Callee), (.int .i64 (v9.Calls.getD v17.toNat Z6).Count), (.int .i64 (v9.Calls.getD v17.toNat Z6).Errors), (.int .i64 (v9.Calls.getD v17.toNat Z6).Time)]) I Z7g I I I) <| Zb 13 I (Z2f (cs := [(.str (v9.Calls.getD v17.toNat Z6).Callee), (.int .i64 (v9.Calls.getD v17.toNat Z6).Count), (.int .i64 (v9.Calls.getD v17.toNat Z6).Errors), (.int .i64 (v9.Calls.getD v17.toNat Z6).Time)]) (v := (.str (v9.Calls.getD v17.toNat Z6).Callee)) I o9 I I) <| Zb 14 I (Z27 (vs := [(0, (.int .i64 v1)), (1, (.str (v9.Calls.getD v17.toNat Z6).Caller)), (2, (.str (v9.Calls.getD v17.toNat Z6).Callee))]) (cs := [(.int .i64 v1), (.str (v9.Calls.getD v17.toNat Z6).Caller), (.str (v9.Calls.getD v17.toNat Z6).Callee)]) I st64 ⟨rfl, rfl, rfl, rfl, rfl, rfl, trivial⟩ I) <| Zb 15 I (Z1m (vs := [(.ag [(.int .i64 v1), (.str (v9.Calls.getD v17.toNat Z6).Caller), (.str (v9.Calls.getD v17.toNat Z6).Callee)])]) (enc := Z1) (l := [(⟨v1, (v9.Calls.getD v17.toNat Z6).Caller, (v9.Calls.getD v17.toNat Z6).Callee⟩ : Z7)]) I el60 I I ⟨rfl, trivial⟩ I Z21 I I I I) ?_
            have ⟨hg32, h⟩ := Z13 h
            refine Zb 16 I (Z2p (m := 5) (enc := Z1) (l := v18) (l' := [(⟨v1, (v9.Calls.getD v17.toNat Z6).Caller, (v9.Calls.getD v17.toNat Z6).Callee⟩ : Z7)]) (src := (.vs 96)) (rd := [(96, (.vec 3 (List.map Z1 [(⟨v1, (v9.Calls.getD v17.toNat Z6).Caller, (v9.Calls.getD v17.toNat Z6).Callee⟩ : Z7)])))]) I I el60 I u60 I I I I (oneRead I) Z21 hg32) <| Zb 17 I (Zp (v := (.vs 5)) I I) <| AOpsD.nil (by kernel_rfl) I ?_
            exact Zy (st' := ⟨[(2, (.ptr 2 0)), (3, (.ptr 3 0)), (5, (.vs 5)), (6, (.int .i64 v1)), (7, (.ptr 7 0)), (8, (.ptr 8 0)), (10, (.int .i64 v17))], [(2, (.box (Z4 a0).cells)), (3, (.box (Z4 a1).cells)), (5, (.vec 3 (List.map Z1 (v18 ++ [(⟨v1, (v9.Calls.getD v17.toNat Z6).Caller, (v9.Calls.getD v17.toNat Z6).Callee⟩ : Z7)])))), (7, (.box (Z4 v8).cells)), (8, (.box (Z4 v9).cells))]⟩) ⟨rfl, rfl, rfl, rfl, rfl, rfl, rfl, trivial⟩ ⟨rfl, rfl, rfl, rfl, rfl, trivial⟩ (J29 (v18 ++ [(⟨v1, (v9.Calls.getD v17.toNat Z6).Caller, (v9.Calls.getD v17.toNat Z6).Callee⟩ : Z7)]) h)
           ·have h := hif.2 hc
            refine Z1b ?_
            exact Zy (st' := ⟨[(2, (.ptr 2 0)), (3, (.ptr 3 0)), (5, (.vs 5)), (6, (.int .i64 v1)), (7, (.ptr 7 0)), (8, (.ptr 8 0)), (10, (.int .i64 v17))], [(2, (.box (Z4 a0).cells)), (3, (.box (Z4 a1).cells)), (5, (.vec 3 (List.map Z1 v18))), (7, (.box (Z4 v8).cells)), (8, (.box (Z4 v9).cells))]⟩) ⟨rfl, rfl, rfl, rfl, rfl, rfl, rfl, trivial⟩ ⟨rfl, rfl, rfl, rfl, rfl, trivial⟩ (J29 v18 h)
         ·have h := hif.2 hc
          refine AWp.exit <| At.thru ?_
          exact Zy (st' := ⟨[(2, (.ptr 2 0)), (3, (.ptr 3 0)), (5, (.vs 5)), (6, (.int .i64 v1))], [(2, (.box (Z4 a0).cells)), (3, (.box (Z4 a1).cells)), (5, (.vec 3 (List.map Z1 v18)))]⟩) ⟨rfl, rfl, rfl, rfl, trivial⟩ ⟨rfl, rfl, rfl, trivial⟩ (J19 v18 h)
        ·have h := hif.2 hc
         refine Z1d I I I I I I I <| Z1d I I I I I I I <| Z2 I (Z2u (v := (.bool false)) I I I) I <| Zi <| Zh ?_
         refine Z16 (b := false) I (fun hc => ?_) (fun hc => ?_)
         ·cases hc
         refine AWp.exit <| At.thru ?_
         exact Zy (st' := ⟨[(2, (.ptr 2 0)), (3, (.ptr 3 0)), (5, (.vs 5)), (6, (.int .i64 v1))], [(2, (.box (Z4 a0).cells)), (3, (.box (Z4 a1).cells)), (5, (.vec 3 (List.map Z1 v18)))]⟩) ⟨rfl, rfl, rfl, rfl, trivial⟩ ⟨rfl, rfl, rfl, trivial⟩ (J19 v18 h)
     ·intro N k13 v h IH13 J13
      obtain ⟨v11, v12⟩ := v
      try dsimp only at h IH13 J13 ⊢
      cases k13 with
      | zero => cases h
      | succ k13 =>
       rw [Z3w] at h
       refine Zj <| Zj <| Zf <| Z2 I (Zo (v := (.int .i64 v11)) I I) I <| Z2 I (Zr (m := 8) (o := 0) I Z3v I I) I <| Z2 I (Zt (cs := (Z4 v9).cells) (v := (.sl 4 (v9.Services.map Z3) false)) I o41 I I I) I <| Z2 I (Z24 (l := v9.Services) (enc := Z3) I s41 I) I <| Z2 I (Z25 (k := .i64) (a := v11) (b := (v9.Services.length : Int)) (c := (decide (v11 < (v9.Services.length : Int)))) I I I I) I ?_
       refine Z2 I (Zo (v := (.bool (decide (v11 < (v9.Services.length : Int))))) I I) I ?_
       have hif := Z28 h
       refine AOps.split (fun hc => ?_) (fun hc => ?_)
       ·have h := hif.1 hc
        refine Z1j I I I I (Zo (v := (.int .i64 v1)) I I) I <| Z1j I I I I (Z25 (k := .i64) (a := v1) (b := 2) (c := (decide (v1 ≤ 2))) I I I I) I <| Z2 I (Z2w (v := (.bool (decide (v1 ≤ 2)))) I I I) I <| Zi <| Zh ?_
        have hif := Z28 h
        refine Z16 I (fun hc => ?_) (fun hc => ?_)
        ·have h := hif.1 hc
         refine Z1b <| Zh <| Zj <| AWp.block <| Zj <| Z1r mixed <| Zb 0 I (Z1l (cs := (Z4 v8).cells) (vs := (Z4 v8).cells) I a44 I I I I) <| Zb 1 I (Zr (m := 8) (o := 0) I Z3v I I) ?_
         refine Zb 2 I (Zt (cs := (Z4 v9).cells) (v := (.sl 4 (v9.Services.map Z3) false)) I o41 I I I) <| Zb 3 I (Zo (v := (.int .i64 v11)) I I) ?_
         have ⟨hg34, h⟩ := Z13 h
         refine Zb 4 I (Z1w (k := .i64) (l := v9.Services) (enc := Z3) (z := Z9) (n := v11) (cs := (Z3 (v9.Services.getD v11.toNat Z9)).cells) (full := false) I s41 I I hg34 I) <| Zb 5 I (Z2n (cs := (Z3 (v9.Services.getD v11.toNat Z9)).cells) (ds := (Z3 (v9.Services.getD v11.toNat Z9)).cells) I Z6s I I I) <| Zb 6 I (Z2f (cs := (Z3 (v9.Services.getD v11.toNat Z9)).cells) (v := (.str (v9.Services.getD v11.toNat Z9).Name)) I o9 I I) ?_
         have ⟨v36, hv36, h⟩ := Z1f h
         refine Zb 7 I (Z1o (ar := [(Z4 v8), (.str (v9.Services.getD v11.toNat Z9).Name)]) (caps := []) Tryz.call31 (F31_ok K v8 (v9.Services.getD v11.toNat Z9).Name v36 hv36) I I ⟨rfl, rfl, trivial⟩ I) <| Zb 8 I (st_field (cs := (Z3 v36).cells) (v := (.int .i64 v36.Spans)) I ft68_1 o3 I I) <| Zb 9 I (Z25 (k := .i64) (a := v36.Spans) (b := 0) (c := (v36.Spans == 0)) I I I I) <| AOpsD.nil (by kernel_rfl) I <| Zh ?_
         refine AWp.join (V := (List Z7)) (lp := fun v => Z7q K (Z3w K v9 v1 v8 (Z6q K v9 v1 v8 (Z3s K a1 a0 (Z5b K) k3)) k13) v11 v = some r) (sh := fun v => ⟨[(2, (.ptr 2 0)), (3, (.ptr 3 0)), (5, (.vs 5)), (6, (.int .i64 v1)), (7, (.ptr 7 0)), (8, (.ptr 8 0)), (9, (.int .i64 v11))], [(2, (.box (Z4 a0).cells)), (3, (.box (Z4 a1).cells)), (5, (.vec 3 (List.map Z1 v))), (7, (.box (Z4 v8).cells)), (8, (.box (Z4 v9).cells))]⟩) ?_ ?_
         ·intro v h
          revert h
          revert v
          intro v37 h
          try dsimp only at h ⊢
          unfold Z7q at h
          refine At.end <| Zh <| Zf <| Z2 I (Zo (v := (.int .i64 v11)) I I) I <| Z2 I (Z1u (k := .i64) (a := v11) (b := 1) (c := (IntKind.i64.wrap (v11 + 1))) I I I I) I <| Z2 I (Zp (v := (.int .i64 (IntKind.i64.wrap (v11 + 1)))) I I) I <| Zi ?_
          exact Zy (st' := ⟨[(2, (.ptr 2 0)), (3, (.ptr 3 0)), (5, (.vs 5)), (6, (.int .i64 v1)), (7, (.ptr 7 0)), (8, (.ptr 8 0)), (9, (.int .i64 (IntKind.i64.wrap (v11 + 1))))], [(2, (.box (Z4 a0).cells)), (3, (.box (Z4 a1).cells)), (5, (.vec 3 (List.map Z1 v37))), (7, (.box (Z4 v8).cells)), (8, (.box (Z4 v9).cells))]⟩) ⟨rfl, rfl, rfl, rfl, rfl, rfl, rfl, trivial⟩ ⟨rfl, rfl, rfl, rfl, rfl, trivial⟩ (IH13 _ ((IntKind.i64.wrap (v11 + 1)), v37) (Nat.lt_succ_self _) h)
         ·intro J38
          have hif := Z28 h
          refine Z16 I (fun hc => ?_) (fun hc => ?_)
          ·have h := hif.1 hc
           refine Zf <| Z2 I (Zo (v := (.vs 5)) I I) I <| Z2 I (Zo (v := (.int .i64 v1)) I I) I <| Z2 I (Zr (m := 8) (o := 0) I Z3v I I) I <| Z2 I (Zt (cs := (Z4 v9).cells) (v := (.sl 4 (v9.Services.map Z3) false)) I o41 I I I) I <| Z2 I (Zo (v := (.int .i64 v11)) I I) I ?_
           have ⟨hg39, h⟩ := Z13 h
           refine Z2 I (Z1w (k := .i64) (l := v9.Services) (enc := Z3) (z := Z9) (n := v11) (cs := (Z3 (v9.Services.getD v11.toNat Z9)).cells) (full := false) I s41 I I hg39 I) I <| Z2 I (Z2n (cs := (Z3 (v9.Services.getD v11.toNat Z9)).cells) (ds := (Z3 (v9.Services.getD v11.toNat Z9)).cells) I Z6s I I I) I <| Z2 I (Z2f (cs := (Z3 (v9.Services.getD v11.toNat Z9)).cells) (v := (.str (v9.Services.getD v11.toNat Z9).Name)) I o9 I I) I <| Z2 I (Z27 (vs := [(0, (.int .i64 v1)), (1, (.str (v9.Services.getD v11.toNat Z9).Name))]) (cs := [(.int .i64 v1), (.str (v9.Services.getD v11.toNat Z9).Name), (.str [])]) I st64 ⟨rfl, rfl, rfl, rfl, trivial⟩ I) I <| Z2 I (Z1m (vs := [(.ag [(.int .i64 v1), (.str (v9.Services.getD v11.toNat Z9).Name), (.str [])])]) (enc := Z1) (l := [(⟨v1, (v9.Services.getD v11.toNat Z9).Name, []⟩ : Z7)]) I el60 I I ⟨rfl, trivial⟩ I Z21 I I I I) I ?_
           have ⟨hg40, h⟩ := Z13 h
           refine Z2 I (Z2p (m := 5) (enc := Z1) (l := v12) (l' := ([(⟨v1, (v9.Services.getD v11.toNat Z9).Name, []⟩ : Z7)])) (src := (.vs 52)) (rd := [(52, (.vec 3 (List.map Z1 ([(⟨v1, (v9.Services.getD v11.toNat Z9).Name, []⟩ : Z7)]))))]) I I el60 I u60 I I I I (oneRead I) Z21 hg40) I <| Z2 I (Zp (v := (.vs 5)) I I) I <| Zi ?_
           exact Zy (st' := ⟨[(2, (.ptr 2 0)), (3, (.ptr 3 0)), (5, (.vs 5)), (6, (.int .i64 v1)), (7, (.ptr 7 0)), (8, (.ptr 8 0)), (9, (.int .i64 v11))], [(2, (.box (Z4 a0).cells)), (3, (.box (Z4 a1).cells)), (5, (.vec 3 (List.map Z1 (v12 ++ ([(⟨v1, (v9.Services.getD v11.toNat Z9).Name, []⟩ : Z7)]))))), (7, (.box (Z4 v8).cells)), (8, (.box (Z4 v9).cells))]⟩) ⟨rfl, rfl, rfl, rfl, rfl, rfl, rfl, trivial⟩ ⟨rfl, rfl, rfl, rfl, rfl, trivial⟩ (J38 (v12 ++ ([(⟨v1, (v9.Services.getD v11.toNat Z9).Name, []⟩ : Z7)])) h)
          ·have h := hif.2 hc
           refine Z1b ?_
           exact Zy (st' := ⟨[(2, (.ptr 2 0)), (3, (.ptr 3 0)), (5, (.vs 5)), (6, (.int .i64 v1)), (7, (.ptr 7 0)), (8, (.ptr 8 0)), (9, (.int .i64 v11))], [(2, (.box (Z4 a0).cells)), (3, (.box (Z4 a1).cells)), (5, (.vec 3 (List.map Z1 v12))), (7, (.box (Z4 v8).cells)), (8, (.box (Z4 v9).cells))]⟩) ⟨rfl, rfl, rfl, rfl, rfl, rfl, rfl, trivial⟩ ⟨rfl, rfl, rfl, rfl, rfl, trivial⟩ (J38 v12 h)
        ·have h := hif.2 hc
         refine AWp.exit <| At.thru ?_
         exact Zy (st' := ⟨[(2, (.ptr 2 0)), (3, (.ptr 3 0)), (5, (.vs 5)), (6, (.int .i64 v1)), (7, (.ptr 7 0)), (8, (.ptr 8 0))], [(2, (.box (Z4 a0).cells)), (3, (.box (Z4 a1).cells)), (5, (.vec 3 (List.map Z1 v12))), (7, (.box (Z4 v8).cells)), (8, (.box (Z4 v9).cells))]⟩) ⟨rfl, rfl, rfl, rfl, rfl, rfl, trivial⟩ ⟨rfl, rfl, rfl, rfl, rfl, trivial⟩ (J13 v12 h)
       ·have h := hif.2 hc
        refine Z1d I I I I I I I <| Z1d I I I I I I I <| Z2 I (Z2u (v := (.bool false)) I I I) I <| Zi <| Zh ?_
        refine Z16 (b := false) I (fun hc => ?_) (fun hc => ?_)
        ·cases hc
        refine AWp.exit <| At.thru ?_
        exact Zy (st' := ⟨[(2, (.ptr 2 0)), (3, (.ptr 3 0)), (5, (.vs 5)), (6, (.int .i64 v1)), (7, (.ptr 7 0)), (8, (.ptr 8 0))], [(2, (.box (Z4 a0).cells)), (3, (.box (Z4 a1).cells)), (5, (.vec 3 (List.map Z1 v12))), (7, (.box (Z4 v8).cells)), (8, (.box (Z4 v9).cells))]⟩) ⟨rfl, rfl, rfl, rfl, rfl, rfl, trivial⟩ ⟨rfl, rfl, rfl, rfl, rfl, trivial⟩ (J13 v12 h)
    ·intro J10
     have hif := Z28 h
     refine Z16 I (fun hc => ?_) (fun hc => ?_)
     ·have h := hif.1 hc
      refine Z1r mixed <| Zb 0 I (Z1l (cs := (Z4 a1).cells) (vs := (Z4 a1).cells) I a44 I I I I) <| Zb 1 I (Z1l (cs := (Z4 a0).cells) (vs := (Z4 a0).cells) I a44 I I I I) <| Zb 2 I (Z1e (cs := (Z4 a0).cells) (vs := (Z4 a1).cells) (ds := (Z4 a1).cells) (v := (Z4 a1)) Zau I I I I I I I I) <| Zb 3 I (Z1e (cs := (Z4 a1).cells) (vs := (Z4 a0).cells) (ds := (Z4 a0).cells) (v := (Z4 a0)) Zau I I I I I I I I) <| AOpsD.nil (by kernel_rfl) I ?_
      exact Zy (st' := ⟨[(2, (.ptr 2 0)), (3, (.ptr 3 0)), (5, (.vs 5)), (6, (.int .i64 v1)), (7, (.ptr 7 0)), (8, (.ptr 8 0))], [(2, (.box (Z4 a0).cells)), (3, (.box (Z4 a1).cells)), (5, (.vec 3 (List.map Z1 v2))), (7, (.box (Z4 a1).cells)), (8, (.box (Z4 a0).cells))]⟩) ⟨rfl, rfl, rfl, rfl, rfl, rfl, trivial⟩ ⟨rfl, rfl, rfl, rfl, rfl, trivial⟩ (J10 (a1, a0) h)
     ·have h := hif.2 hc
      refine Z1b ?_
      exact Zy (st' := ⟨[(2, (.ptr 2 0)), (3, (.ptr 3 0)), (5, (.vs 5)), (6, (.int .i64 v1)), (7, (.ptr 7 0)), (8, (.ptr 8 0))], [(2, (.box (Z4 a0).cells)), (3, (.box (Z4 a1).cells)), (5, (.vec 3 (List.map Z1 v2))), (7, (.box (Z4 a0).cells)), (8, (.box (Z4 a1).cells))]⟩) ⟨rfl, rfl, rfl, rfl, rfl, rfl, trivial⟩ ⟨rfl, rfl, rfl, rfl, rfl, trivial⟩ (J10 (a0, a1) h)
   ·have h := hif.2 hc
    refine AWp.exit <| At.thru ?_
    exact Zy (st' := ⟨[(5, (.vs 5))], [(5, (.vec 3 (List.map Z1 v2)))]⟩) ⟨rfl, trivial⟩ ⟨rfl, trivial⟩ (J3 v2 h)
def Zax (K : Nat) : Option (Bool) :=
 some true
def Z9i (K : Nat) (a0 : (List Z7)) (a1 : (List Z7)) (c4 : Option (Bool)) : Nat → Int → Option (Bool)
 | 0, _ => none
 | k2 + 1, v1 =>
  if (decide (v1 < (a0.length : Int))) = true then
   if (0 : Int) ≤ v1 ∧ v1 < a0.length then
    if (0 : Int) ≤ v1 ∧ v1 < a1.length then
     if (!(((a0.getD v1.toNat Ze).Kind == (a1.getD v1.toNat Ze).Kind) && (((a0.getD v1.toNat Ze).Service == (a1.getD v1.toNat Ze).Service) && (((a0.getD v1.toNat Ze).Target == (a1.getD v1.toNat Ze).Target) && true)))) = true then
      some false
     else
      (Z9i K a0 a1 c4 k2) (IntKind.i64.wrap (v1 + 1))
    else none
   else none
  else
   c4
def F24 (K : Nat) (a0 : (List Z7)) (a1 : (List Z7)) : Option (Bool) :=
 if ((a0.length : Int) != (a1.length : Int)) = true then
  some false
 else
  Z9i K a0 a1 (Zax K) K 0
theorem F24_ok (K : Nat) (a0 : (List Z7)) (a1 : (List Z7)) (r : Bool) (h : F24 K a0 a1 = some r) : ACall P 24 ⟨[(.sl 3 (a0.map Z1) false), (.sl 3 (a1.map Z1) false)], [], (.bool r), [], []⟩ := by
 refine Z1s Tryz.func24 Tryz.results24 rfl Tryz.ntmps24 rfl rfl rfl ?_
 intro E Q hP hN hro hret
 obtain ⟨P', nt', w0, F0, p0, S0, β0, ro0⟩ := E
 simp only at hP hN
 subst hP hN
 dsimp only [argT]
 unfold F24 at h
 refine Zj <| Zf <| Z2 I (Zp (v := (.bool false)) I I) I <| Zi <| Zh <| Zj <| Zj <| Zf ?_
 refine Z2 I (Zo (v := (.sl 3 (a0.map Z1) false)) I I) I <| Z2 I (Z24 (l := a0) (enc := Z1) I s60 I) I <| Z2 I (Zo (v := (.sl 3 (a1.map Z1) false)) I I) I <| Z2 I (Z24 (l := a1) (enc := Z1) I s60 I) I <| Z2 I (Z25 (k := .i64) (a := (a0.length : Int)) (b := (a1.length : Int)) (c := ((a0.length : Int) != (a1.length : Int))) I I I I) I <| Zi <| Zh ?_
 have hif := Z28 h
 refine Z16 I (fun hc => ?_) (fun hc => ?_)
 ·have h := hif.1 hc
  refine Zj <| Zf <| Z2 I (Zp (v := (.bool false)) I I) I <| Zi <| Zh <| Z1g <| Z1k ?_
  have h := Option.some.inj h
  subst h
  refine (hret _ ?_).1
  exact ⟨[(.bool false)], ⟨rfl, trivial⟩, rfl, trivial⟩
 ·have h := hif.2 hc
  refine Z1b <| Zh <| Zj <| Zj <| Zf <| Z2 I (Zp (v := (.int .i64 0)) I I) I <| Zi <| Zh ?_
  refine AWp.weaken (st' := ⟨[(0, (.sl 3 (a0.map Z1) false)), (1, (.sl 3 (a1.map Z1) false)), (5, (.int .i64 0))], []⟩) ⟨rfl, rfl, rfl, trivial⟩ trivial ?_
  refine Z1n (V := Int) (X := Unit) (lp := fun k v => Z9i K a0 a1 (Zax K) k v = some r) (sh := fun v => ⟨[(0, (.sl 3 (a0.map Z1) false)), (1, (.sl 3 (a1.map Z1) false)), (5, (.int .i64 v))], []⟩) (x := fun v => Zax K = some r) (shx := fun v => ⟨[], []⟩) (k := K) (v := 0) h ?_ ?_
  ·intro v h
   try dsimp only at h ⊢
   unfold Zax at h
   refine Zh <| Zj <| Zf <| Z2 I (Zp (v := (.bool true)) I I) I <| Zi <| Zh <| Z1g ?_
   have h := Option.some.inj h
   subst h
   refine (hret _ ?_).1
   exact ⟨[(.bool true)], ⟨rfl, trivial⟩, rfl, trivial⟩
  ·intro N k2 v h IH2 J2
   revert h
   revert v
   intro v1 h
   try dsimp only at h IH2 J2 ⊢
   cases k2 with
   | zero => cases h
   | succ k2 =>
    rw [Z9i] at h
    refine Zj <| Zj <| Zf <| Z2 I (Zo (v := (.int .i64 v1)) I I) I <| Z2 I (Zo (v := (.sl 3 (a0.map Z1) false)) I I) I <| Z2 I (Z24 (l := a0) (enc := Z1) I s60 I) I <| Z2 I (Z25 (k := .i64) (a := v1) (b := (a0.length : Int)) (c := (decide (v1 < (a0.length : Int)))) I I I I) I <| Zi ?_
    refine Zh ?_
    have hif := Z28 h
    refine Z16 I (fun hc => ?_) (fun hc => ?_)
    ·have h := hif.1 hc
     refine Z1b <| Zh <| Zj <| AWp.block <| Zj <| Z1r mixed <| Zb 0 I (Zo (v := (.sl 3 (a0.map Z1) false)) I I) <| Zb 1 I (Zo (v := (.int .i64 v1)) I I) ?_
     have ⟨hg6, h⟩ := Z13 h
     refine Zb 2 I (Z1w (k := .i64) (l := a0) (enc := Z1) (z := Ze) (n := v1) (cs := (Z1 (a0.getD v1.toNat Ze)).cells) (full := false) I s60 I I hg6 I) <| Zb 3 I (Z2i (cs := (Z1 (a0.getD v1.toNat Ze)).cells) (vs := (Z1 (a0.getD v1.toNat Ze)).cells) I a64 I I I) <| Zb 4 I (Zo (v := (.sl 3 (a1.map Z1) false)) I I) <| Zb 5 I (Zo (v := (.int .i64 v1)) I I) ?_
     have ⟨hg7, h⟩ := Z13 h
     refine Zb 6 I (Z1w (k := .i64) (l := a1) (enc := Z1) (z := Ze) (n := v1) (cs := (Z1 (a1.getD v1.toNat Ze)).cells) (full := false) I s60 I I hg7 I) <| Zb 7 I (Z2i (cs := (Z1 (a1.getD v1.toNat Ze)).cells) (vs := (Z1 (a1.getD v1.toNat Ze)).cells) I a64 I I I) <| Zb 8 I (Zad (xs := (Z1 (a0.getD v1.toNat Ze)).cells) (ys := (Z1 (a1.getD v1.toNat Ze)).cells) (b := (((a0.getD v1.toNat Ze).Kind == (a1.getD v1.toNat Ze).Kind) && (((a0.getD v1.toNat Ze).Service == (a1.getD v1.toNat Ze).Service) && (((a0.getD v1.toNat Ze).Target == (a1.getD v1.toNat Ze).Target) && true)))) (c := (!(((a0.getD v1.toNat Ze).Kind == (a1.getD v1.toNat Ze).Kind) && (((a0.getD v1.toNat Ze).Service == (a1.getD v1.toNat Ze).Service) && (((a0.getD v1.toNat Ze).Target == (a1.getD v1.toNat Ze).Target) && true))))) I eq64 I I I I) <| AOpsD.nil (by kernel_rfl) I <| Zh ?_
     have hif := Z28 h
     refine Z16 I (fun hc => ?_) (fun hc => ?_)
     ·have h := hif.1 hc
      refine Zj <| Zf <| Z2 I (Zp (v := (.bool false)) I I) I <| Zi <| Zh <| Z1g <| At.overR <| Z1k ?_
      refine Z1k (At.overR ?_)
      refine Z1k ?_
      have h := Option.some.inj h
      subst h
      refine (hret _ ?_).1
      exact ⟨[(.bool false)], ⟨rfl, trivial⟩, rfl, trivial⟩
     ·have h := hif.2 hc
      refine Z1b <| At.end <| Zh <| Zf <| Z2 I (Zo (v := (.int .i64 v1)) I I) I <| Z2 I (Z1u (k := .i64) (a := v1) (b := 1) (c := (IntKind.i64.wrap (v1 + 1))) I I I I) I <| Z2 I (Zp (v := (.int .i64 (IntKind.i64.wrap (v1 + 1)))) I I) I <| Zi ?_
      exact Zy (st' := ⟨[(0, (.sl 3 (a0.map Z1) false)), (1, (.sl 3 (a1.map Z1) false)), (5, (.int .i64 (IntKind.i64.wrap (v1 + 1))))], []⟩) ⟨rfl, rfl, rfl, trivial⟩ trivial (IH2 _ (IntKind.i64.wrap (v1 + 1)) (Nat.lt_succ_self _) h)
    ·have h := hif.2 hc
     refine AWp.exit <| At.thru ?_
     exact Zy (st' := ⟨[], []⟩) trivial trivial (J2 () h)
def Z5h (K : Nat) : Option (Bool) :=
 some true
def Z93 (K : Nat) (b17 : Int → Option (Bool)) (v13 : Int) (v24 : Bool) : Option (Bool) :=
 if (!v24) = true then
  some false
 else
  b17 (IntKind.i64.wrap (v13 + 1))
def Zap (K : Nat) (b27 : Bool → Int → Option (Bool)) (v22 : Int) (v28 : Bool) : Option (Bool) :=
 b27 v28 (IntKind.i64.wrap (v22 + 1))
def Z6f (K : Nat) (v10 : (List Z7)) (v8 : (List Z7)) (v13 : Int) (c26 : Bool → Option (Bool)) : Nat → Bool → Int → Option (Bool)
 | 0, _, _ => none
 | k23 + 1, v21, v22 =>
  if (decide (v22 < (v10.length : Int))) = true then
   if v21 = true then
    Zap K (Z6f K v10 v8 v13 c26 k23) v22 true
   else
    if (0 : Int) ≤ v22 ∧ v22 < v10.length then
     Zap K (Z6f K v10 v8 v13 c26 k23) v22 (((v10.getD v22.toNat Ze).Kind == ([0, 2, 1, 4, 3].getD (v8.getD v13.toNat Ze).Kind.toNat 0)) && (((v10.getD v22.toNat Ze).Service == (v8.getD v13.toNat Ze).Service) && (((v10.getD v22.toNat Ze).Target == (v8.getD v13.toNat Ze).Target) && true)))
    else none
  else
   c26 v21
def Z5c (K : Nat) (v8 : (List Z7)) (v10 : (List Z7)) (c16 : Option (Bool)) : Nat → Int → Option (Bool)
 | 0, _ => none
 | k14 + 1, v13 =>
  if (decide (v13 < (v8.length : Int))) = true then
   if (0 : Int) ≤ v13 ∧ v13 < v8.length then
    if (0 : Int) ≤ (v8.getD v13.toNat Ze).Kind ∧ (v8.getD v13.toNat Ze).Kind < ([0, 2, 1, 4, 3].length : Nat) then
     if (v8.getD v13.toNat Ze).Kind.toNat < [0, 2, 1, 4, 3].length then
      Z6f K v10 v8 v13 (Z93 K (Z5c K v8 v10 c16 k14) v13) K false 0
     else none
    else none
   else none
  else
   c16
def Zbg (K : Nat) (v8 : (List Z7)) (v10 : (List Z7)) (v11 : Bool) : Option (Bool) :=
 if v11 = true then
  some false
 else
  Z5c K v8 v10 (Z5h K) K 0
noncomputable def F5 (K : Nat) (a0 : (List Z18)) (a1 : (List Z18)) : Option (Bool) :=
 (F11 K).bind fun v2 =>
  if (!v2) = true then
   some false
  else
   (F22 K a0).bind fun v4 =>
    (F22 K a1).bind fun v6 =>
     (F23 K v4 v6).bind fun v8 =>
      (F23 K v6 v4).bind fun v10 =>
       (F25 K v4 v6).bind fun v32 =>
        (F24 K v8 v32).bind fun v34 =>
         if (!v34) = true then
          Zbg K v8 v10 true
         else
          (F23 K v4 v4).bind fun v36 =>
           if ((v36.length : Int) != 0) = true then
            Zbg K v8 v10 true
           else
            Zbg K v8 v10 ((v10.length : Int) != (v8.length : Int))
theorem F5_ok (K : Nat) (a0 : (List Z18)) (a1 : (List Z18)) (r : Bool) (h : F5 K a0 a1 = some r) : ACall P 5 ⟨[(.sl 3 (a0.map Zx) false), (.sl 3 (a1.map Zx) false)], [], (.bool r), [], []⟩ := by
 refine Z1s Tryz.func5 Tryz.results5 rfl Tryz.ntmps5 rfl rfl rfl ?_
 intro E Q hP hN hro hret
 obtain ⟨P', nt', w0, F0, p0, S0, β0, ro0⟩ := E
 simp only at hP hN
 subst hP hN
 dsimp only [argT]
 unfold F5 at h
 refine Zj <| Zf <| Z2 I (Zp (v := (.bool false)) I I) I <| Zi <| Zh <| Zj <| Zj <| Zf ?_
 have ⟨v2, hv2, h⟩ := Z1f h
 refine Z2 I (Z1o (ar := []) (caps := []) Tryz.call11 (F11_ok K v2 hv2) I I trivial I) I <| Z2 I (Zbj (b := v2) I I) I <| Zi <| Zh ?_
 have hif := Z28 h
 refine Z16 I (fun hc => ?_) (fun hc => ?_)
 ·have h := hif.1 hc
  refine Zj <| Zf <| Z2 I (Zp (v := (.bool false)) I I) I <| Zi <| Zh <| Z1g <| Z1k ?_
  have h := Option.some.inj h
  subst h
  refine (hret _ ?_).1
  exact ⟨[(.bool false)], ⟨rfl, trivial⟩, rfl, trivial⟩
 ·have h := hif.2 hc
  refine Z1b <| Zh <| Zj <| Zf <| Z2 I (Zo (v := (.sl 3 (a0.map Zx) false)) I I) I ?_
  have ⟨v4, hv4, h⟩ := Z1f h
  refine Z2 I (Z1o (ar := [(.sl 3 (a0.map Zx) false)]) (caps := []) Tryz.call22 (F22_ok K a0 v4 hv4) I I ⟨rfl, trivial⟩ I) I <| Z2 I (Zo (v := (.sl 3 (a1.map Zx) false)) I I) I ?_
  have ⟨v6, hv6, h⟩ := Z1f h
  refine Z2 I (Z1o (ar := [(.sl 3 (a1.map Zx) false)]) (caps := []) Tryz.call22 (F22_ok K a1 v6 hv6) I I ⟨rfl, trivial⟩ I) I <| Z2 I (Z1v (cs := [(.sl 4 [] false), (.sl 5 [] false)]) I z44 I I I) I <| Z2 I (Z1v (cs := [(.sl 4 [] false), (.sl 5 [] false)]) I z44 I I I) I <| Z2 I (Z1e (cs := [(.sl 4 [] false), (.sl 5 [] false)]) (vs := (Z4 v4).cells) (ds := (Z4 v4).cells) (v := (Z4 v4)) Zau I I I I I I I I) I <| Z2 I (Z1e (cs := [(.sl 4 [] false), (.sl 5 [] false)]) (vs := (Z4 v6).cells) (ds := (Z4 v6).cells) (v := (Z4 v6)) Zau I I I I I I I I) I <| Zi <| Zh <| Zj ?_
  refine Z1r mixed <| Zb 0 I (Z1l (cs := (Z4 v4).cells) (vs := (Z4 v4).cells) I a44 I I I I) <| Zb 1 I (Z1l (cs := (Z4 v6).cells) (vs := (Z4 v6).cells) I a44 I I I I) ?_
  have ⟨v8, hv8, h⟩ := Z1f h
  refine Zb 2 I (Z1o (ar := [(Z4 v4), (Z4 v6)]) (caps := []) Tryz.call23 (F23_ok K v4 v6 v8 hv8) I I ⟨rfl, rfl, trivial⟩ I) <| Zb 3 I (Z1l (cs := (Z4 v6).cells) (vs := (Z4 v6).cells) I a44 I I I I) <| Zb 4 I (Z1l (cs := (Z4 v4).cells) (vs := (Z4 v4).cells) I a44 I I I I) ?_
  have ⟨v10, hv10, h⟩ := Z1f h
  refine Zb 5 I (Z1o (ar := [(Z4 v6), (Z4 v4)]) (caps := []) Tryz.call23 (F23_ok K v6 v4 v10 hv10) I I ⟨rfl, rfl, trivial⟩ I) <| Zb 6 I (Zp (v := (.sl 3 (v8.map Z1) false)) I I) <| Zb 7 I (Zp (v := (.sl 3 (v10.map Z1) false)) I I) <| AOpsD.nil (by kernel_rfl) I <| Zh <| Zj <| Zj ?_
  refine AWp.join (V := Bool) (lp := fun v => Zbg K v8 v10 v = some r) (sh := fun v => ⟨[(7, (.sl 3 (v8.map Z1) false)), (8, (.sl 3 (v10.map Z1) false)), (44, (.bool v))], []⟩) ?_ ?_
  ·intro v h
   revert h
   revert v
   intro v11 h
   try dsimp only at h ⊢
   unfold Zbg at h
   refine Zh ?_
   have hif := Z28 h
   refine Z16 I (fun hc => ?_) (fun hc => ?_)
   ·have h := hif.1 hc
    refine Zj <| Zf <| Z2 I (Zp (v := (.bool false)) I I) I <| Zi <| Zh <| Z1g <| Z1k ?_
    have h := Option.some.inj h
    subst h
    refine (hret _ ?_).1
    exact ⟨[(.bool false)], ⟨rfl, trivial⟩, rfl, trivial⟩
   ·have h := hif.2 hc
    refine Z1b <| Zh <| Zj <| Zj <| Zf <| Z2 I (Zp (v := (.int .i64 0)) I I) I <| Zi <| Zh ?_
    refine AWp.weaken (st' := ⟨[(7, (.sl 3 (v8.map Z1) false)), (8, (.sl 3 (v10.map Z1) false)), (9, (.int .i64 0))], []⟩) ⟨rfl, rfl, rfl, trivial⟩ trivial ?_
    refine Z1n (V := Int) (X := Unit) (lp := fun k v => Z5c K v8 v10 (Z5h K) k v = some r) (sh := fun v => ⟨[(7, (.sl 3 (v8.map Z1) false)), (8, (.sl 3 (v10.map Z1) false)), (9, (.int .i64 v))], []⟩) (x := fun v => Z5h K = some r) (shx := fun v => ⟨[], []⟩) (k := K) (v := 0) h ?_ ?_
    ·intro v h
     try dsimp only at h ⊢
     unfold Z5h at h
     refine Zh <| Zj <| Zf <| Z2 I (Zp (v := (.bool true)) I I) I <| Zi <| Zh <| Z1g ?_
     have h := Option.some.inj h
     subst h
     refine (hret _ ?_).1
     exact ⟨[(.bool true)], ⟨rfl, trivial⟩, rfl, trivial⟩
    ·intro N k14 v h IH14 J14
     revert h
     revert v
     intro v13 h
     try dsimp only at h IH14 J14 ⊢
     cases k14 with
     | zero => cases h
     | succ k14 =>
      rw [Z5c] at h
      refine Zj <| Zj <| Zf <| Z2 I (Zo (v := (.int .i64 v13)) I I) I <| Z2 I (Zo (v := (.sl 3 (v8.map Z1) false)) I I) I <| Z2 I (Z24 (l := v8) (enc := Z1) I s60 I) I <| Z2 I (Z25 (k := .i64) (a := v13) (b := (v8.length : Int)) (c := (decide (v13 < (v8.length : Int)))) I I I I) I <| Zi ?_
      refine Zh ?_
      have hif := Z28 h
      refine Z16 I (fun hc => ?_) (fun hc => ?_)
      ·have h := hif.1 hc
       refine Z1b <| Zh <| Zj <| AWp.block <| Zj <| Zf <| Z2 I (Zo (v := (.sl 3 (v8.map Z1) false)) I I) I <| Z2 I (Zo (v := (.int .i64 v13)) I I) I ?_
       have ⟨hg18, h⟩ := Z13 h
       refine Z2 I (Z1w (k := .i64) (l := v8) (enc := Z1) (z := Ze) (n := v13) (cs := (Z1 (v8.getD v13.toNat Ze)).cells) (full := false) I s60 I I hg18 I) I <| Z2 I (Z2i (cs := (Z1 (v8.getD v13.toNat Ze)).cells) (vs := (Z1 (v8.getD v13.toNat Ze)).cells) I a64 I I I) I <| Z2 I (Z1v (cs := [(.int .i64 0), (.str []), (.str [])]) I z64 I I I) I <| Z2 I (Z1e (cs := [(.int .i64 0), (.str []), (.str [])]) (vs := (Z1 (v8.getD v13.toNat Ze)).cells) (ds := (Z1 (v8.getD v13.toNat Ze)).cells) (v := (Z1 (v8.getD v13.toNat Ze))) sz64 I I I I I I I I) I <| Zi <| Zh <| Zj <| Zf ?_
       refine Z2 I (Z1m (vs := [(.int .i64 0), (.int .i64 2), (.int .i64 1), (.int .i64 4), (.int .i64 3)]) (enc := Z2l) (l := [0, 2, 1, 4, 3]) I el65 I I ⟨rfl, rfl, rfl, rfl, rfl, trivial⟩ I Z53 I I I I) I <| Z2 I (Zr (m := 10) (o := 0) I f64_0 I I) I <| Z2 I (Zt (cs := (Z1 (v8.getD v13.toNat Ze)).cells) (v := (.int .i64 (v8.getD v13.toNat Ze).Kind)) I o3 I I I) I ?_
       have ⟨hg19, h⟩ := Z13 h
       refine Z2 I (Z3t (k := .i64) (v := (.vs 55)) (n := 55) (off := 0) (len := ([0, 2, 1, 4, 3].length)) (es := (List.map Z2l [0, 2, 1, 4, 3])) (j := (v8.getD v13.toNat Ze).Kind) (m := (v8.getD v13.toNat Ze).Kind.toNat) I s65 I I (Z43 _ _ _) I hg19 (Nat.zero_add _)) I ?_
       have ⟨hg20, h⟩ := Z13 h
       refine Z2 I (st_loadV (l := [0, 2, 1, 4, 3]) (enc := Z2l) (z := 0) (v := (.int .i64 ([0, 2, 1, 4, 3].getD (v8.getD v13.toNat Ze).Kind.toNat 0))) I o3 I I hg20 I) I <| Z2 I (Zr (m := 10) (o := 0) I f64_0 I I) I <| Z2 I (Z1e (cs := (Z1 (v8.getD v13.toNat Ze)).cells) (vs := [(.int .i64 ([0, 2, 1, 4, 3].getD (v8.getD v13.toNat Ze).Kind.toNat 0))]) (ds := [(.int .i64 ([0, 2, 1, 4, 3].getD (v8.getD v13.toNat Ze).Kind.toNat 0)), (.str (v8.getD v13.toNat Ze).Service), (.str (v8.getD v13.toNat Ze).Target)]) (v := (.int .i64 ([0, 2, 1, 4, 3].getD (v8.getD v13.toNat Ze).Kind.toNat 0))) sz3 I I I I I I I I) I <| Zi <| Zh <| Zj <| Zf <| Z2 I (Zp (v := (.bool false)) I I) I ?_
       refine Zi <| Zh <| Zj <| Zj <| Zf <| Z2 I (Zp (v := (.int .i64 0)) I I) I <| Zi <| Zh ?_
       refine AWp.weaken (st' := ⟨[(7, (.sl 3 (v8.map Z1) false)), (8, (.sl 3 (v10.map Z1) false)), (9, (.int .i64 v13)), (10, (.ptr 10 0)), (11, (.bool false)), (12, (.int .i64 0))], [(10, (.box [(.int .i64 ([0, 2, 1, 4, 3].getD (v8.getD v13.toNat Ze).Kind.toNat 0)), (.str (v8.getD v13.toNat Ze).Service), (.str (v8.getD v13.toNat Ze).Target)]))]⟩) ⟨rfl, rfl, rfl, rfl, rfl, rfl, trivial⟩ ⟨rfl, trivial⟩ ?_
       refine Z1n (V := Bool × Int) (X := Bool) (lp := fun k v => Z6f K v10 v8 v13 (Z93 K (Z5c K v8 v10 (Z5h K) k14) v13) k v.1 v.2 = some r) (sh := fun v => ⟨[(7, (.sl 3 (v8.map Z1) false)), (8, (.sl 3 (v10.map Z1) false)), (9, (.int .i64 v13)), (10, (.ptr 10 0)), (11, (.bool v.1)), (12, (.int .i64 v.2))], [(10, (.box [(.int .i64 ([0, 2, 1, 4, 3].getD (v8.getD v13.toNat Ze).Kind.toNat 0)), (.str (v8.getD v13.toNat Ze).Service), (.str (v8.getD v13.toNat Ze).Target)]))]⟩) (x := fun v => Z93 K (Z5c K v8 v10 (Z5h K) k14) v13 v = some r) (shx := fun v => ⟨[(7, (.sl 3 (v8.map Z1) false)), (8, (.sl 3 (v10.map Z1) false)), (9, (.int .i64 v13)), (11, (.bool v))], []⟩) (k := K) (v := (false, 0)) h ?_ ?_
       ·intro v h
        revert h
        revert v
        intro v24 h
        try dsimp only at h ⊢
        unfold Z93 at h
        refine Zh <| Zj <| Zf <| Z2 I (Zo (v := (.bool v24)) I I) I <| Z2 I (Zbj (b := v24) I I) I <| Zi <| Zh ?_
        have hif := Z28 h
        refine Z16 I (fun hc => ?_) (fun hc => ?_)
        ·have h := hif.1 hc
         refine Zj <| Zf <| Z2 I (Zp (v := (.bool false)) I I) I <| Zi <| Zh <| Z1g <| At.overR <| Z1k ?_
         refine Z1k (At.overR ?_)
         refine Z1k ?_
         have h := Option.some.inj h
         subst h
         refine (hret _ ?_).1
         exact ⟨[(.bool false)], ⟨rfl, trivial⟩, rfl, trivial⟩
        ·have h := hif.2 hc
         refine Z1b <| At.end <| Zh <| Zf <| Z2 I (Zo (v := (.int .i64 v13)) I I) I <| Z2 I (Z1u (k := .i64) (a := v13) (b := 1) (c := (IntKind.i64.wrap (v13 + 1))) I I I I) I <| Z2 I (Zp (v := (.int .i64 (IntKind.i64.wrap (v13 + 1)))) I I) I <| Zi ?_
         exact Zy (st' := ⟨[(7, (.sl 3 (v8.map Z1) false)), (8, (.sl 3 (v10.map Z1) false)), (9, (.int .i64 (IntKind.i64.wrap (v13 + 1))))], []⟩) ⟨rfl, rfl, rfl, trivial⟩ trivial (IH14 _ (IntKind.i64.wrap (v13 + 1)) (Nat.lt_succ_self _) h)
       ·intro N k23 v h IH23 J23
        obtain ⟨v21, v22⟩ := v
        try dsimp only at h IH23 J23 ⊢
        cases k23 with
        | zero => cases h
        | succ k23 =>
         rw [Z6f] at h
         refine Zj <| Zj <| Zf <| Z2 I (Zo (v := (.int .i64 v22)) I I) I <| Z2 I (Zo (v := (.sl 3 (v10.map Z1) false)) I I) I <| Z2 I (Z24 (l := v10) (enc := Z1) I s60 I) I <| Z2 I (Z25 (k := .i64) (a := v22) (b := (v10.length : Int)) (c := (decide (v22 < (v10.length : Int)))) I I I I) I <| Zi ?_
         refine Zh ?_
         have hif := Z28 h
         refine Z16 I (fun hc => ?_) (fun hc => ?_)
         ·have h := hif.1 hc
          refine Z1b <| Zh <| Zj ?_
          refine AWp.blockJoin (V := Bool) (lp := fun v => Zap K (Z6f K v10 v8 v13 (Z93 K (Z5c K v8 v10 (Z5h K) k14) v13) k23) v22 v = some r) (sh := fun v => ⟨[(7, (.sl 3 (v8.map Z1) false)), (8, (.sl 3 (v10.map Z1) false)), (9, (.int .i64 v13)), (10, (.ptr 10 0)), (11, (.bool v)), (12, (.int .i64 v22))], [(10, (.box [(.int .i64 ([0, 2, 1, 4, 3].getD (v8.getD v13.toNat Ze).Kind.toNat 0)), (.str (v8.getD v13.toNat Ze).Service), (.str (v8.getD v13.toNat Ze).Target)]))]⟩) ?_ ?_
          ·intro v h
           revert h
           revert v
           intro v28 h
           try dsimp only at h ⊢
           unfold Zap at h
           refine Zh <| Zf <| Z2 I (Zo (v := (.int .i64 v22)) I I) I <| Z2 I (Z1u (k := .i64) (a := v22) (b := 1) (c := (IntKind.i64.wrap (v22 + 1))) I I I I) I <| Z2 I (Zp (v := (.int .i64 (IntKind.i64.wrap (v22 + 1)))) I I) I <| Zi ?_
           exact Zy (st' := ⟨[(7, (.sl 3 (v8.map Z1) false)), (8, (.sl 3 (v10.map Z1) false)), (9, (.int .i64 v13)), (10, (.ptr 10 0)), (11, (.bool v28)), (12, (.int .i64 (IntKind.i64.wrap (v22 + 1))))], [(10, (.box [(.int .i64 ([0, 2, 1, 4, 3].getD (v8.getD v13.toNat Ze).Kind.toNat 0)), (.str (v8.getD v13.toNat Ze).Service), (.str (v8.getD v13.toNat Ze).Target)]))]⟩) ⟨rfl, rfl, rfl, rfl, rfl, rfl, trivial⟩ ⟨rfl, trivial⟩ (IH23 _ (v28, (IntKind.i64.wrap (v22 + 1))) (Nat.lt_succ_self _) h)
          ·intro J29
           refine Z1r mixed <| Zb 0 I (Zo (v := (.bool v21)) I I) <| Zb 1 I (Zo (v := (.bool v21)) I I) ?_
           have hif := Z28 h
           refine AOpsD.split (fun hc => ?_) (fun hc => ?_)
           ·have h := hif.1 hc
            refine Z12 2 I I I I I I I <| Z12 3 I I I I I I I <| Z12 4 I I I I I I I <| Z12 5 I I I I I I I <| Z12 6 I I I I I I I <| Z12 7 I I I I I I I <| Zb 8 I (Z2w (v := (.bool true)) I I I) <| Zb 9 I (Zp (v := (.bool true)) I I) ?_
            refine AOpsD.nil (by kernel_rfl) I <| At.end ?_
            exact Zy (st' := ⟨[(7, (.sl 3 (v8.map Z1) false)), (8, (.sl 3 (v10.map Z1) false)), (9, (.int .i64 v13)), (10, (.ptr 10 0)), (11, (.bool true)), (12, (.int .i64 v22))], [(10, (.box [(.int .i64 ([0, 2, 1, 4, 3].getD (v8.getD v13.toNat Ze).Kind.toNat 0)), (.str (v8.getD v13.toNat Ze).Service), (.str (v8.getD v13.toNat Ze).Target)]))]⟩) ⟨rfl, rfl, rfl, rfl, rfl, rfl, trivial⟩ ⟨rfl, trivial⟩ (J29 true h)
           ·have h := hif.2 hc
            refine Z14 2 I I I I (Zo (v := (.sl 3 (v10.map Z1) false)) I I) <| Z14 3 I I I I (Zo (v := (.int .i64 v22)) I I) ?_
            have ⟨hg30, h⟩ := Z13 h
            refine Z14 4 I I I I (Z1w (k := .i64) (l := v10) (enc := Z1) (z := Ze) (n := v22) (cs := (Z1 (v10.getD v22.toNat Ze)).cells) (full := false) I s60 I I hg30 I) <| Z14 5 I I I I (Z2i (cs := (Z1 (v10.getD v22.toNat Ze)).cells) (vs := (Z1 (v10.getD v22.toNat Ze)).cells) I a64 I I I) <| Z14 6 I I I I (Z1l (cs := [(.int .i64 ([0, 2, 1, 4, 3].getD (v8.getD v13.toNat Ze).Kind.toNat 0)), (.str (v8.getD v13.toNat Ze).Service), (.str (v8.getD v13.toNat Ze).Target)]) (vs := [(.int .i64 ([0, 2, 1, 4, 3].getD (v8.getD v13.toNat Ze).Kind.toNat 0)), (.str (v8.getD v13.toNat Ze).Service), (.str (v8.getD v13.toNat Ze).Target)]) I a64 I I I I) <| Z14 7 I I I I (Zad (xs := (Z1 (v10.getD v22.toNat Ze)).cells) (ys := [(.int .i64 ([0, 2, 1, 4, 3].getD (v8.getD v13.toNat Ze).Kind.toNat 0)), (.str (v8.getD v13.toNat Ze).Service), (.str (v8.getD v13.toNat Ze).Target)]) (b := (((v10.getD v22.toNat Ze).Kind == ([0, 2, 1, 4, 3].getD (v8.getD v13.toNat Ze).Kind.toNat 0)) && (((v10.getD v22.toNat Ze).Service == (v8.getD v13.toNat Ze).Service) && (((v10.getD v22.toNat Ze).Target == (v8.getD v13.toNat Ze).Target) && true)))) (c := (((v10.getD v22.toNat Ze).Kind == ([0, 2, 1, 4, 3].getD (v8.getD v13.toNat Ze).Kind.toNat 0)) && (((v10.getD v22.toNat Ze).Service == (v8.getD v13.toNat Ze).Service) && (((v10.getD v22.toNat Ze).Target == (v8.getD v13.toNat Ze).Target) && true)))) I eq64 I I I I) <| Zb 8 I (Z2u (v := (.bool (((v10.getD v22.toNat Ze).Kind == ([0, 2, 1, 4, 3].getD (v8.getD v13.toNat Ze).Kind.toNat 0)) && (((v10.getD v22.toNat Ze).Service == (v8.getD v13.toNat Ze).Service) && (((v10.getD v22.toNat Ze).Target == (v8.getD v13.toNat Ze).Target) && true))))) I I I) <| Zb 9 I (Zp (v := (.bool (((v10.getD v22.toNat Ze).Kind == ([0, 2, 1, 4, 3].getD (v8.getD v13.toNat Ze).Kind.toNat 0)) && (((v10.getD v22.toNat Ze).Service == (v8.getD v13.toNat Ze).Service) && (((v10.getD v22.toNat Ze).Target == (v8.getD v13.toNat Ze).Target) && true))))) I I) <| AOpsD.nil (by kernel_rfl) I <| At.end ?_
            exact Zy (st' := ⟨[(7, (.sl 3 (v8.map Z1) false)), (8, (.sl 3 (v10.map Z1) false)), (9, (.int .i64 v13)), (10, (.ptr 10 0)), (11, (.bool (((v10.getD v22.toNat Ze).Kind == ([0, 2, 1, 4, 3].getD (v8.getD v13.toNat Ze).Kind.toNat 0)) && (((v10.getD v22.toNat Ze).Service == (v8.getD v13.toNat Ze).Service) && (((v10.getD v22.toNat Ze).Target == (v8.getD v13.toNat Ze).Target) && true))))), (12, (.int .i64 v22))], [(10, (.box [(.int .i64 ([0, 2, 1, 4, 3].getD (v8.getD v13.toNat Ze).Kind.toNat 0)), (.str (v8.getD v13.toNat Ze).Service), (.str (v8.getD v13.toNat Ze).Target)]))]⟩) ⟨rfl, rfl, rfl, rfl, rfl, rfl, trivial⟩ ⟨rfl, trivial⟩ (J29 (((v10.getD v22.toNat Ze).Kind == ([0, 2, 1, 4, 3].getD (v8.getD v13.toNat Ze).Kind.toNat 0)) && (((v10.getD v22.toNat Ze).Service == (v8.getD v13.toNat Ze).Service) && (((v10.getD v22.toNat Ze).Target == (v8.getD v13.toNat Ze).Target) && true))) h)
         ·have h := hif.2 hc
          refine AWp.exit <| At.thru ?_
          exact Zy (st' := ⟨[(7, (.sl 3 (v8.map Z1) false)), (8, (.sl 3 (v10.map Z1) false)), (9, (.int .i64 v13)), (11, (.bool v21))], []⟩) ⟨rfl, rfl, rfl, rfl, trivial⟩ trivial (J23 v21 h)
      ·have h := hif.2 hc
       refine AWp.exit <| At.thru ?_
       exact Zy (st' := ⟨[], []⟩) trivial trivial (J14 () h)
  ·intro J12
   refine Zf <| Z2 I (Zo (v := (.sl 3 (v8.map Z1) false)) I I) I <| Z2 I (Z1l (cs := (Z4 v4).cells) (vs := (Z4 v4).cells) I a44 I I I I) I <| Z2 I (Z1l (cs := (Z4 v6).cells) (vs := (Z4 v6).cells) I a44 I I I I) I ?_
   have ⟨v32, hv32, h⟩ := Z1f h
   refine Z2 I (Z1o (ar := [(Z4 v4), (Z4 v6)]) (caps := []) Tryz.call25 (F25_ok K v4 v6 v32 hv32) I I ⟨rfl, rfl, trivial⟩ I) I ?_
   have ⟨v34, hv34, h⟩ := Z1f h
   refine Z2 I (Z1o (ar := [(.sl 3 (v8.map Z1) false), (.sl 3 (v32.map Z1) false)]) (caps := []) Tryz.call24 (F24_ok K v8 v32 v34 hv34) I I ⟨rfl, rfl, trivial⟩ I) I <| Z2 I (Zbj (b := v34) I I) I <| Z2 I (Zo (v := (.bool (!v34))) I I) I ?_
   have hif := Z28 h
   refine AOps.split (fun hc => ?_) (fun hc => ?_)
   ·have h := hif.1 hc
    refine Z1d I I I I I I I <| Z1d I I I I I I I <| Z1d I I I I I I I <| Z1d I I I I I I I <| Z1d I I I I I I I <| Z2 I (Z2w (v := (.bool true)) I I I) I <| Z2 I (Zo (v := (.bool true)) I I) I <| Z1d I I I I I I I ?_
    refine Z1d I I I I I I I <| Z1d I I I I I I I <| Z1d I I I I I I I <| Z1d I I I I I I I <| Z2 I (Z2w (v := (.bool true)) I I I) I <| Zi ?_
    exact Zy (st' := ⟨[(7, (.sl 3 (v8.map Z1) false)), (8, (.sl 3 (v10.map Z1) false)), (44, (.bool true))], []⟩) ⟨rfl, rfl, rfl, trivial⟩ trivial (J12 true h)
   ·have h := hif.2 hc
    refine Z1j I I I I (Z1l (cs := (Z4 v4).cells) (vs := (Z4 v4).cells) I a44 I I I I) I <| Z1j I I I I (Z1l (cs := (Z4 v4).cells) (vs := (Z4 v4).cells) I a44 I I I I) I ?_
    have ⟨v36, hv36, h⟩ := Z1f h
    refine Z1j I I I I (Z1o (ar := [(Z4 v4), (Z4 v4)]) (caps := []) Tryz.call23 (F23_ok K v4 v4 v36 hv36) I I ⟨rfl, rfl, trivial⟩ I) I <| Z1j I I I I (Z24 (l := v36) (enc := Z1) I s60 I) I <| Z1j I I I I (Z25 (k := .i64) (a := (v36.length : Int)) (b := 0) (c := ((v36.length : Int) != 0)) I I I I) I <| Z2 I (Z2u (v := (.bool ((v36.length : Int) != 0))) I I I) I <| Z2 I (Zo (v := (.bool ((v36.length : Int) != 0))) I I) I ?_
    have hif := Z28 h
    refine AOps.split (fun hc => ?_) (fun hc => ?_)
    ·have h := hif.1 hc
     refine Z1d I I I I I I I <| Z1d I I I I I I I <| Z1d I I I I I I I <| Z1d I I I I I I I <| Z1d I I I I I I I <| Z2 I (Z2w (v := (.bool true)) I I I) I <| Zi ?_
     exact Zy (st' := ⟨[(7, (.sl 3 (v8.map Z1) false)), (8, (.sl 3 (v10.map Z1) false)), (44, (.bool true))], []⟩) ⟨rfl, rfl, rfl, trivial⟩ trivial (J12 true h)
    ·have h := hif.2 hc
     refine Z1j I I I I (Zo (v := (.sl 3 (v10.map Z1) false)) I I) I <| Z1j I I I I (Z24 (l := v10) (enc := Z1) I s60 I) I <| Z1j I I I I (Zo (v := (.sl 3 (v8.map Z1) false)) I I) I <| Z1j I I I I (Z24 (l := v8) (enc := Z1) I s60 I) I <| Z1j I I I I (Z25 (k := .i64) (a := (v10.length : Int)) (b := (v8.length : Int)) (c := ((v10.length : Int) != (v8.length : Int))) I I I I) I <| Z2 I (Z2u (v := (.bool ((v10.length : Int) != (v8.length : Int)))) I I I) I <| Zi ?_
     exact Zy (st' := ⟨[(7, (.sl 3 (v8.map Z1) false)), (8, (.sl 3 (v10.map Z1) false)), (44, (.bool ((v10.length : Int) != (v8.length : Int))))], []⟩) ⟨rfl, rfl, rfl, trivial⟩ trivial (J12 ((v10.length : Int) != (v8.length : Int)) h)
end Go.AM.TopZ
