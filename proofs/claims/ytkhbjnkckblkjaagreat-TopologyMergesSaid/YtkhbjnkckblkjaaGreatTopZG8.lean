/- What these functions compute, each with its walk: F3. -/
import Derived.Test.YtkhbjnkckblkjaaGreatTopZT
import Derived.Test.YtkhbjnkckblkjaaGreatTopZG1
import Derived.Test.YtkhbjnkckblkjaaGreatTopZG4
import Derived.Test.YtkhbjnkckblkjaaGreatTopZG7
namespace Go.AM.TopZ
open Go Go.AM Go.Proofs
set_option maxRecDepth 100000
set_option maxHeartbeats 2000000
def Z8n (K : Nat) (v29 : Bool) : Option (Bool) :=
 some v29
noncomputable def Zdf (K : Nat) (v12 : (List Zt)) (v14 : (List Zt)) (v10 : (List Zt)) : Option (Bool) :=
 (Zau K v12).bind fun v22 =>
  (Zau K v14).bind fun v24 =>
   (F18 K v22.1 v24.1).bind fun v26 =>
    (F18 K v24.1 v22.1).bind fun v28 =>
     if (v22.2 == 0) = true then
      if (v24.2 == 0) = true then
       if (v26.2 == 0) = true then
        if (v28.2 == 0) = true then
         (F20 K v10).bind fun v32 =>
          (F19 K v26.1 v32).bind fun v34 =>
           if v34 = true then
            (F19 K v28.1 v26.1).bind fun v36 =>
             Z8n K v36
           else
            Z8n K false
        else
         Z8n K false
       else
        Z8n K false
      else
       Z8n K false
     else
      Z8n K false
def Z8d (K : Nat) (b37 : Int → Option (Bool)) (v17 : Int) (v42 : Bool) : Option (Bool) :=
 if v42 = true then
  some false
 else
  b37 (IntKind.i64.wrap (v17 + 1))
def Z5h (K : Nat) (v10 : (List Zt)) (v12 : (List Zt)) (v14 : (List Zt)) (a2 : Int) (c20 : Option (Bool)) : Nat → Int → Option (Bool)
 | 0, _ => none
 | k18 + 1, v17 =>
  if (decide (v17 < (v10.length : Int))) = true then
   if ([] : List Zt).length + v12.length ≤ 1073741824 then
    if v12.length + v14.length ≤ 1073741824 then
     if (0 : Int) ≤ v17 ∧ v17 < ((v12 ++ v14).length : Nat) then
      if v17.toNat < (v12 ++ v14).length then
       if (0 : Int) ≤ v17 ∧ v17 < v10.length then
        if (((v12 ++ v14).getD v17.toNat Z9).Id != (v10.getD v17.toNat Z9).Id) = true then
         Z8d K (Z5h K v10 v12 v14 a2 c20 k18) v17 true
        else
         if (0 : Int) ≤ v17 ∧ v17 < v10.length then
          if (((v12 ++ v14).getD v17.toNat Z9).Weight != (v10.getD v17.toNat Z9).Weight) = true then
           Z8d K (Z5h K v10 v12 v14 a2 c20 k18) v17 true
          else
           if (0 : Int) ≤ v17 ∧ v17 < v10.length then
            if ((((v12 ++ v14).getD v17.toNat Z9).Spans.length : Int) != ((v10.getD v17.toNat Z9).Spans.length : Int)) = true then
             Z8d K (Z5h K v10 v12 v14 a2 c20 k18) v17 true
            else
             (F16 K ((v12 ++ v14).getD v17.toNat Z9).Id).bind fun v48 =>
              if (decide (v48 < (IntKind.i64.wrap (a2.tmod 64)))) = true then
               Z8d K (Z5h K v10 v12 v14 a2 c20 k18) v17 (decide (v17 ≥ (v12.length : Int)))
              else
               Z8d K (Z5h K v10 v12 v14 a2 c20 k18) v17 false
           else none
         else none
       else none
      else none
     else none
    else none
   else none
  else
   c20
noncomputable def F3 (K : Nat) (a0 : Zy) (a1 : Z3p) (a2 : Int) : Option (Bool) :=
 (F11 K).bind fun v2 =>
  if (!v2) = true then
   (F11 K).bind fun v4 =>
    some v4
  else
   (F12 K a0).bind fun v6 =>
    if (!v6) = true then
     (F11 K).bind fun v8 =>
      some v8
    else
     (F13 K a0 a1).bind fun v10 =>
      (F14 K v10 (⟨0, (IntKind.i64.wrap (a2.tmod 64))⟩ : Z35)).bind fun v12 =>
       (F14 K v10 (⟨(IntKind.i64.wrap (a2.tmod 64)), 1048576⟩ : Z35)).bind fun v14 =>
        (F15 K v10 0 (IntKind.i64.wrap (a2.tmod 64))).bind fun v16 =>
         if ((v12.length : Int) != (v16.length : Int)) = true then
          some false
         else
          if ((IntKind.i64.wrap ((v12.length : Int) + (v14.length : Int))) != (v10.length : Int)) = true then
           some false
          else
           Z5h K v10 v12 v14 a2 (Zdf K v12 v14 v10) K 0
theorem F3_ok (K : Nat) (a0 : Zy) (a1 : Z3p) (a2 : Int) (r : Bool) (h : F3 K a0 a1 a2 = some r) : ACall P 3 ⟨[(Zo a0), (Z30 a1), (.int .u8 a2)], [], (.bool r), [], []⟩ := by
 refine Z1v Tryz.func3 Tryz.results3 rfl Tryz.ntmps3 rfl rfl rfl ?_
 intro E Q hP hN hro hret
 obtain ⟨P', nt', w0, F0, p0, S0, β0, ro0⟩ := E
 simp only at hP hN
 subst hP hN
 dsimp only [argT]
 unfold F3 at h
 refine Zl <| Zd <| Z2 I (Z2s (v := (Zo a0)) (cs := (Zo a0).cells) I I I I I) I <| Z2 I (Z2s (v := (Z30 a1)) (cs := (Z30 a1).cells) I I I I I) I <| Z2 I (Zq (v := (.bool false)) I I) I <| Zi <| Zj <| Zl ?_
 refine Zl <| Zd ?_
 have ⟨v2, hv2, h⟩ := Z1c h
 refine Z2 I (Z1e (ar := []) (caps := []) Tryz.call11 (F11_ok K v2 hv2) I I trivial I) I <| Z2 I (Zcq (b := v2) I I) I <| Z2 I (Zn (v := (.bool (!v2))) I I) I ?_
 have hif := Z21 h
 refine AOps.split (fun hc => ?_) (fun hc => ?_)
 ·have h := hif.1 hc
  refine Z13 I I I I I I I <| Z13 I I I I I I I <| Z13 I I I I I I I <| Z2 I (Z2f (v := (.bool true)) I I I) I <| Zi <| Zj ?_
  refine Z18 (b := true) I (fun hc => ?_) (fun hc => ?_)
  rotate_left
  ·cases hc
  refine Zl <| Zd ?_
  have ⟨v4, hv4, h⟩ := Z1c h
  refine Z2 I (Z1e (ar := []) (caps := []) Tryz.call11 (F11_ok K v4 hv4) I I trivial I) I <| Z2 I (Zq (v := (.bool v4)) I I) I <| Zi <| Zj <| Z1g <| Z1o ?_
  have h := Option.some.inj h
  subst h
  refine (hret _ ?_).1
  exact ⟨[(.bool v4)], ⟨rfl, trivial⟩, rfl, trivial⟩
 ·have h := hif.2 hc
  refine Z17 I I I I (Z1k (cs := (Zo a0).cells) (vs := (Zo a0).cells) I a27 I I I I) I ?_
  have ⟨v6, hv6, h⟩ := Z1c h
  refine Z17 I I I I (Z1e (ar := [(Zo a0)]) (caps := []) Tryz.call12 (F12_ok K a0 v6 hv6) I I ⟨rfl, trivial⟩ I) I <| Z17 I I I I (Zcq (b := v6) I I) I <| Z2 I (Z20 (v := (.bool (!v6))) I I I) I <| Zi <| Zj ?_
  have hif := Z21 h
  refine Z18 I (fun hc => ?_) (fun hc => ?_)
  ·have h := hif.1 hc
   refine Zl <| Zd ?_
   have ⟨v8, hv8, h⟩ := Z1c h
   refine Z2 I (Z1e (ar := []) (caps := []) Tryz.call11 (F11_ok K v8 hv8) I I trivial I) I <| Z2 I (Zq (v := (.bool v8)) I I) I <| Zi <| Zj <| Z1g <| Z1o ?_
   have h := Option.some.inj h
   subst h
   refine (hret _ ?_).1
   exact ⟨[(.bool v8)], ⟨rfl, trivial⟩, rfl, trivial⟩
  ·have h := hif.2 hc
   refine Z1b <| Zj <| Zl <| Zd <| Z2 I (Z1k (cs := (Zo a0).cells) (vs := (Zo a0).cells) I a27 I I I I) I <| Z2 I (Z1k (cs := (Z30 a1).cells) (vs := (Z30 a1).cells) I a28 I I I I) I ?_
   have ⟨v10, hv10, h⟩ := Z1c h
   refine Z2 I (Z7k (sz := 3) (es := (List.map Zb v10)) (ar := [(Zo a0), (Z30 a1)]) (caps := []) Tryz.call13 ((F13_ok K a0 a1 v10 hv10).sw 4 31) I I ⟨rfl, rfl, trivial⟩ I) I <| Z2 I (Zq (v := (.vs 31)) I I) I <| Zi <| Zj <| Zl <| Zd <| Z2 I (Zn (v := (.int .u8 a2)) I I) I <| Z2 I (Z39 (k := .u8) (a := a2) (b := 64) (c := (a2.tmod 64)) I I I I (by decide)) I ?_
   refine Z2 I (Z3c I us5 u3 I) I <| Z2 I (Zq (v := (.int .i64 (IntKind.i64.wrap (a2.tmod 64)))) I I) I <| Zi <| Zj <| Zl <| Zd <| Z2 I (Zn (v := (.vs 31)) I I) I <| Z2 I (Zn (v := (.int .i64 (IntKind.i64.wrap (a2.tmod 64)))) I I) I ?_
   refine Z2 I (Z29 (vs := [(0, (.int .i64 0)), (1, (.int .i64 (IntKind.i64.wrap (a2.tmod 64))))]) (cs := [(.int .i64 0), (.int .i64 (IntKind.i64.wrap (a2.tmod 64)))]) I st35 ⟨rfl, rfl, rfl, rfl, trivial⟩ I) I <| AOps.ghost (st' := ⟨[(7, (.sl 3 (v10.map Zb) false)), (8, (.int .i64 (IntKind.i64.wrap (a2.tmod 64)))), (35, (.sl 3 (v10.map Zb) false)), (37, (.ag [(.int .i64 0), (.int .i64 (IntKind.i64.wrap (a2.tmod 64)))]))], []⟩) (fun a w h => (Z1d ⟨[(7, (.sl 3 (v10.map Zb) false)), (8, (.int .i64 (IntKind.i64.wrap (a2.tmod 64)))), (35, (.sl 3 (v10.map Zb) false)), (37, (.ag [(.int .i64 0), (.int .i64 (IntKind.i64.wrap (a2.tmod 64)))]))], []⟩ (Z2c (m := 31) (sz := 3) (es := (List.map Zb v10)) a w (Z1d ⟨[(7, (.vs 31)), (8, (.int .i64 (IntKind.i64.wrap (a2.tmod 64)))), (35, (.vs 31)), (37, (.ag [(.int .i64 0), (.int .i64 (IntKind.i64.wrap (a2.tmod 64)))]))], [(31, (.vec 3 (List.map Zb v10)))]⟩ h ⟨rfl, rfl, rfl, rfl, trivial⟩ ⟨rfl, trivial⟩)) ⟨rfl, rfl, rfl, rfl, trivial⟩ trivial)) ?_
   have ⟨v12, hv12, h⟩ := Z1c h
   refine Z2 I (Z1e (ar := [(.sl 3 (v10.map Zb) false), (.ag [(.int .i64 0), (.int .i64 (IntKind.i64.wrap (a2.tmod 64)))])]) (caps := []) Tryz.call14 (F14_ok K v10 (⟨0, (IntKind.i64.wrap (a2.tmod 64))⟩ : Z35) v12 hv12) I I ⟨rfl, rfl, trivial⟩ I) I <| Z2 I (Zn (v := (.sl 3 (v10.map Zb) false)) I I) I <| Z2 I (Zn (v := (.int .i64 (IntKind.i64.wrap (a2.tmod 64)))) I I) I <| Z2 I (Z29 (vs := [(0, (.int .i64 (IntKind.i64.wrap (a2.tmod 64)))), (1, (.int .i64 1048576))]) (cs := [(.int .i64 (IntKind.i64.wrap (a2.tmod 64))), (.int .i64 1048576)]) I st35 ⟨rfl, rfl, rfl, rfl, trivial⟩ I) I ?_
   have ⟨v14, hv14, h⟩ := Z1c h
   refine Z2 I (Z1e (ar := [(.sl 3 (v10.map Zb) false), (.ag [(.int .i64 (IntKind.i64.wrap (a2.tmod 64))), (.int .i64 1048576)])]) (caps := []) Tryz.call14 (F14_ok K v10 (⟨(IntKind.i64.wrap (a2.tmod 64)), 1048576⟩ : Z35) v14 hv14) I I ⟨rfl, rfl, trivial⟩ I) I <| Z2 I (Zq (v := (.sl 3 (v12.map Zb) false)) I I) I <| Z2 I (Zq (v := (.sl 3 (v14.map Zb) false)) I I) I <| Zi <| Zj <| Zl <| Zl <| Zd ?_
   refine Z2 I (Zn (v := (.sl 3 (v12.map Zb) false)) I I) I <| Z2 I (Z23 (l := v12) (enc := Zb) I s31 I) I <| Z2 I (Zn (v := (.sl 3 (v10.map Zb) false)) I I) I <| Z2 I (Zn (v := (.int .i64 (IntKind.i64.wrap (a2.tmod 64)))) I I) I ?_
   have ⟨v16, hv16, h⟩ := Z1c h
   refine Z2 I (Z1e (ar := [(.sl 3 (v10.map Zb) false), (.int .i64 0), (.int .i64 (IntKind.i64.wrap (a2.tmod 64)))]) (caps := []) Tryz.call15 (F15_ok K v10 0 (IntKind.i64.wrap (a2.tmod 64)) v16 hv16) I I ⟨rfl, rfl, rfl, trivial⟩ I) I <| Z2 I (Z23 (l := v16) (enc := Zb) I s31 I) I <| Z2 I (Z1y (k := .i64) (a := (v12.length : Int)) (b := (v16.length : Int)) (c := ((v12.length : Int) != (v16.length : Int))) I I I I) I <| Z2 I (Zn (v := (.bool ((v12.length : Int) != (v16.length : Int)))) I I) I ?_
   have hif := Z21 h
   refine AOps.split (fun hc => ?_) (fun hc => ?_)
   ·have h := hif.1 hc
    refine Z13 I I I I I I I <| Z13 I I I I I I I <| Z13 I I I I I I I <| Z13 I I I I I I I <| Z13 I I I I I I I <| Z13 I I I I I I I <| Z13 I I I I I I I <| Z13 I I I I I I I ?_
    refine Z2 I (Z2f (v := (.bool true)) I I I) I <| Zi <| Zj ?_
    refine Z18 (b := true) I (fun hc => ?_) (fun hc => ?_)
    rotate_left
    ·cases hc
    refine Zl <| Zd <| Z2 I (Zq (v := (.bool false)) I I) I <| Zi <| Zj <| Z1g <| Z1o ?_
    have h := Option.some.inj h
    subst h
    refine (hret _ ?_).1
    exact ⟨[(.bool false)], ⟨rfl, trivial⟩, rfl, trivial⟩
   ·have h := hif.2 hc
    refine Z17 I I I I (Zn (v := (.sl 3 (v12.map Zb) false)) I I) I <| Z17 I I I I (Z23 (l := v12) (enc := Zb) I s31 I) I <| Z17 I I I I (Zn (v := (.sl 3 (v14.map Zb) false)) I I) I <| Z17 I I I I (Z23 (l := v14) (enc := Zb) I s31 I) I <| Z17 I I I I (Z1m (k := .i64) (a := (v12.length : Int)) (b := (v14.length : Int)) (c := (IntKind.i64.wrap ((v12.length : Int) + (v14.length : Int)))) I I I I) I <| Z17 I I I I (Zn (v := (.sl 3 (v10.map Zb) false)) I I) I <| Z17 I I I I (Z23 (l := v10) (enc := Zb) I s31 I) I <| Z17 I I I I (Z1y (k := .i64) (a := (IntKind.i64.wrap ((v12.length : Int) + (v14.length : Int)))) (b := (v10.length : Int)) (c := ((IntKind.i64.wrap ((v12.length : Int) + (v14.length : Int))) != (v10.length : Int))) I I I I) I ?_
    refine Z2 I (Z20 (v := (.bool ((IntKind.i64.wrap ((v12.length : Int) + (v14.length : Int))) != (v10.length : Int)))) I I I) I <| Zi <| Zj ?_
    have hif := Z21 h
    refine Z18 I (fun hc => ?_) (fun hc => ?_)
    ·have h := hif.1 hc
     refine Zl <| Zd <| Z2 I (Zq (v := (.bool false)) I I) I <| Zi <| Zj <| Z1g <| Z1o ?_
     have h := Option.some.inj h
     subst h
     refine (hret _ ?_).1
     exact ⟨[(.bool false)], ⟨rfl, trivial⟩, rfl, trivial⟩
    ·have h := hif.2 hc
     refine Z1b <| Zj <| Zl <| Zl <| Zd <| Z2 I (Zq (v := (.int .i64 0)) I I) I <| Zi <| Zj ?_
     refine AWp.weaken (st' := ⟨[(7, (.sl 3 (v10.map Zb) false)), (8, (.int .i64 (IntKind.i64.wrap (a2.tmod 64)))), (9, (.sl 3 (v12.map Zb) false)), (10, (.sl 3 (v14.map Zb) false)), (11, (.int .i64 0))], []⟩) ⟨rfl, rfl, rfl, rfl, rfl, trivial⟩ trivial ?_
     refine Z1l (V := Int) (X := Unit) (lp := fun k v => Z5h K v10 v12 v14 a2 (Zdf K v12 v14 v10) k v = some r) (sh := fun v => ⟨[(7, (.sl 3 (v10.map Zb) false)), (8, (.int .i64 (IntKind.i64.wrap (a2.tmod 64)))), (9, (.sl 3 (v12.map Zb) false)), (10, (.sl 3 (v14.map Zb) false)), (11, (.int .i64 v))], []⟩) (x := fun v => Zdf K v12 v14 v10 = some r) (shx := fun v => ⟨[(7, (.sl 3 (v10.map Zb) false)), (9, (.sl 3 (v12.map Zb) false)), (10, (.sl 3 (v14.map Zb) false))], []⟩) (k := K) (v := 0) h ?_ ?_
     ·intro v h
      try dsimp only at h ⊢
      unfold Zdf at h
      refine Zj <| Zl <| Zd <| Z2 I (Zn (v := (.sl 3 (v12.map Zb) false)) I I) I ?_
      have ⟨v22, hv22, h⟩ := Z1c h
      refine Z2 I (Z1e (ar := [(.sl 3 (v12.map Zb) false)]) (caps := []) Tryz.call17 (F17_i1_ok K v12 v22 hv22) I I ⟨rfl, trivial⟩ I) I <| Z2 I (Zn (v := (.tup [(Za v22.1), (.int .i64 v22.2)])) I I) I <| Z2 I (Z2b (vs := [(Za v22.1), (.int .i64 v22.2)]) (v := (Za v22.1)) I I I) I <| Z2 I (Z2b (vs := [(Za v22.1), (.int .i64 v22.2)]) (v := (.int .i64 v22.2)) I I I) I <| Z2 I (Z1x (cs := [(.sl 4 [] false), (.sl 5 [] false)]) I z44 I I I) I <| Z2 I (Z1a (cs := [(.sl 4 [] false), (.sl 5 [] false)]) (vs := (Za v22.1).cells) (ds := (Za v22.1).cells) (v := (Za v22.1)) sz44 I I I I I I I I) I <| Z2 I (Zq (v := (.int .i64 v22.2)) I I) I <| Zi ?_
      refine Zj <| Zl <| Zd <| Z2 I (Zn (v := (.sl 3 (v14.map Zb) false)) I I) I ?_
      have ⟨v24, hv24, h⟩ := Z1c h
      refine Z2 I (Z1e (ar := [(.sl 3 (v14.map Zb) false)]) (caps := []) Tryz.call17 (F17_i1_ok K v14 v24 hv24) I I ⟨rfl, trivial⟩ I) I <| Z2 I (Zn (v := (.tup [(Za v24.1), (.int .i64 v24.2)])) I I) I <| Z2 I (Z2b (vs := [(Za v24.1), (.int .i64 v24.2)]) (v := (Za v24.1)) I I I) I <| Z2 I (Z2b (vs := [(Za v24.1), (.int .i64 v24.2)]) (v := (.int .i64 v24.2)) I I I) I <| Z2 I (Z1x (cs := [(.sl 4 [] false), (.sl 5 [] false)]) I z44 I I I) I <| Z2 I (Z1a (cs := [(.sl 4 [] false), (.sl 5 [] false)]) (vs := (Za v24.1).cells) (ds := (Za v24.1).cells) (v := (Za v24.1)) sz44 I I I I I I I I) I <| Z2 I (Zq (v := (.int .i64 v24.2)) I I) I <| Zi ?_
      refine Zj <| Zl <| Zd <| Z2 I (Z1k (cs := (Za v22.1).cells) (vs := (Za v22.1).cells) I a44 I I I I) I <| Z2 I (Z1k (cs := (Za v24.1).cells) (vs := (Za v24.1).cells) I a44 I I I I) I ?_
      have ⟨v26, hv26, h⟩ := Z1c h
      refine Z2 I (Z1e (ar := [(Za v22.1), (Za v24.1)]) (caps := []) Tryz.call18 (F18_ok K v22.1 v24.1 v26 hv26) I I ⟨rfl, rfl, trivial⟩ I) I <| Z2 I (Zn (v := (.tup [(Za v26.1), (.int .i64 v26.2)])) I I) I <| Z2 I (Z2b (vs := [(Za v26.1), (.int .i64 v26.2)]) (v := (Za v26.1)) I I I) I <| Z2 I (Z2b (vs := [(Za v26.1), (.int .i64 v26.2)]) (v := (.int .i64 v26.2)) I I I) I <| Z2 I (Z1x (cs := [(.sl 4 [] false), (.sl 5 [] false)]) I z44 I I I) I <| Z2 I (Z1a (cs := [(.sl 4 [] false), (.sl 5 [] false)]) (vs := (Za v26.1).cells) (ds := (Za v26.1).cells) (v := (Za v26.1)) sz44 I I I I I I I I) I <| Z2 I (Zq (v := (.int .i64 v26.2)) I I) I <| Zi ?_
      refine Zj <| Zl <| Zd <| Z2 I (Z1k (cs := (Za v24.1).cells) (vs := (Za v24.1).cells) I a44 I I I I) I <| Z2 I (Z1k (cs := (Za v22.1).cells) (vs := (Za v22.1).cells) I a44 I I I I) I ?_
      have ⟨v28, hv28, h⟩ := Z1c h
      refine Z2 I (Z1e (ar := [(Za v24.1), (Za v22.1)]) (caps := []) Tryz.call18 (F18_ok K v24.1 v22.1 v28 hv28) I I ⟨rfl, rfl, trivial⟩ I) I <| Z2 I (Zn (v := (.tup [(Za v28.1), (.int .i64 v28.2)])) I I) I <| Z2 I (Z2b (vs := [(Za v28.1), (.int .i64 v28.2)]) (v := (Za v28.1)) I I I) I <| Z2 I (Z2b (vs := [(Za v28.1), (.int .i64 v28.2)]) (v := (.int .i64 v28.2)) I I I) I <| Z2 I (Z1x (cs := [(.sl 4 [] false), (.sl 5 [] false)]) I z44 I I I) I <| Z2 I (Z1a (cs := [(.sl 4 [] false), (.sl 5 [] false)]) (vs := (Za v28.1).cells) (ds := (Za v28.1).cells) (v := (Za v28.1)) sz44 I I I I I I I I) I <| Z2 I (Zq (v := (.int .i64 v28.2)) I I) I <| Zi ?_
      refine Zj <| Zl ?_
      refine AWp.join (V := Bool) (lp := fun v => Z8n K v = some r) (sh := fun v => ⟨[(6, (.bool v))], []⟩) ?_ ?_
      ·intro v h
       revert h
       revert v
       intro v29 h
       try dsimp only at h ⊢
       unfold Z8n at h
       refine Zj <| Z1g ?_
       have h := Option.some.inj h
       subst h
       refine (hret _ ?_).1
       exact ⟨[(.bool v29)], ⟨rfl, trivial⟩, rfl, trivial⟩
      ·intro J30
       refine Z1u mixed <| Z8 0 I (Zn (v := (.int .i64 v22.2)) I I) <| Z8 1 I (Z1y (k := .i64) (a := v22.2) (b := 0) (c := (v22.2 == 0)) I I I I) <| Z8 2 I (Zn (v := (.bool (v22.2 == 0))) I I) ?_
       have hif := Z21 h
       refine AOpsD.split (fun hc => ?_) (fun hc => ?_)
       ·have h := hif.1 hc
        refine Zx 3 I I I I (Zn (v := (.int .i64 v24.2)) I I) <| Zx 4 I I I I (Z1y (k := .i64) (a := v24.2) (b := 0) (c := (v24.2 == 0)) I I I I) <| Z8 5 I (Z2f (v := (.bool (v24.2 == 0))) I I I) <| Z8 6 I (Zn (v := (.bool (v24.2 == 0))) I I) ?_
        have hif := Z21 h
        refine AOpsD.split (fun hc => ?_) (fun hc => ?_)
        ·have h := hif.1 hc
         refine Zx 7 I I I I (Zn (v := (.int .i64 v26.2)) I I) <| Zx 8 I I I I (Z1y (k := .i64) (a := v26.2) (b := 0) (c := (v26.2 == 0)) I I I I) <| Z8 9 I (Z2f (v := (.bool (v26.2 == 0))) I I I) <| Z8 10 I (Zn (v := (.bool (v26.2 == 0))) I I) ?_
         have hif := Z21 h
         refine AOpsD.split (fun hc => ?_) (fun hc => ?_)
         ·have h := hif.1 hc
          refine Zx 11 I I I I (Zn (v := (.int .i64 v28.2)) I I) <| Zx 12 I I I I (Z1y (k := .i64) (a := v28.2) (b := 0) (c := (v28.2 == 0)) I I I I) <| Z8 13 I (Z2f (v := (.bool (v28.2 == 0))) I I I) <| Z8 14 I (Zn (v := (.bool (v28.2 == 0))) I I) ?_
          have hif := Z21 h
          refine AOpsD.split (fun hc => ?_) (fun hc => ?_)
          ·have h := hif.1 hc
           refine Zx 15 I I I I (Z1k (cs := (Za v26.1).cells) (vs := (Za v26.1).cells) I a44 I I I I) <| Zx 16 I I I I (Zn (v := (.sl 3 (v10.map Zb) false)) I I) ?_
           have ⟨v32, hv32, h⟩ := Z1c h
           refine Zx 17 I I I I (Z1e (ar := [(.sl 3 (v10.map Zb) false)]) (caps := []) Tryz.call20 (F20_ok K v10 v32 hv32) I I ⟨rfl, trivial⟩ I) ?_
           have ⟨v34, hv34, h⟩ := Z1c h
           refine Zx 18 I I I I (Z1e (ar := [(Za v26.1), (Za v32)]) (caps := []) Tryz.call19 (F19_ok K v26.1 v32 v34 hv34) I I ⟨rfl, rfl, trivial⟩ I) <| Z8 19 I (Z2f (v := (.bool v34)) I I I) <| Z8 20 I (Zn (v := (.bool v34)) I I) ?_
           have hif := Z21 h
           refine AOpsD.split (fun hc => ?_) (fun hc => ?_)
           ·have h := hif.1 hc
            refine Zx 21 I I I I (Z1k (cs := (Za v28.1).cells) (vs := (Za v28.1).cells) I a44 I I I I) <| Zx 22 I I I I (Z1k (cs := (Za v26.1).cells) (vs := (Za v26.1).cells) I a44 I I I I) ?_
            have ⟨v36, hv36, h⟩ := Z1c h
            refine Zx 23 I I I I (Z1e (ar := [(Za v28.1), (Za v26.1)]) (caps := []) Tryz.call19 (F19_ok K v28.1 v26.1 v36 hv36) I I ⟨rfl, rfl, trivial⟩ I) <| Z8 24 I (Z2f (v := (.bool v36)) I I I) <| Z8 25 I (Zq (v := (.bool v36)) I I) <| Z1q (by kernel_rfl) I ?_
            exact Z11 (st' := ⟨[(6, (.bool v36))], []⟩) ⟨rfl, trivial⟩ trivial (J30 v36 h)
           ·have h := hif.2 hc
            refine Zr 21 I I I I I I I <| Zr 22 I I I I I I I <| Zr 23 I I I I I I I <| Z8 24 I (Z20 (v := (.bool false)) I I I) <| Z8 25 I (Zq (v := (.bool false)) I I) <| Z1q (by kernel_rfl) I ?_
            exact Z11 (st' := ⟨[(6, (.bool false))], []⟩) ⟨rfl, trivial⟩ trivial (J30 false h)
          ·have h := hif.2 hc
           refine Zr 15 I I I I I I I <| Zr 16 I I I I I I I <| Zr 17 I I I I I I I <| Zr 18 I I I I I I I <| Z8 19 I (Z20 (v := (.bool false)) I I I) <| Z8 20 I (Zn (v := (.bool false)) I I) <| Zr 21 I I I I I I I <| Zr 22 I I I I I I I ?_
           refine Zr 23 I I I I I I I <| Z8 24 I (Z20 (v := (.bool false)) I I I) <| Z8 25 I (Zq (v := (.bool false)) I I) <| Z1q (by kernel_rfl) I ?_
           exact Z11 (st' := ⟨[(6, (.bool false))], []⟩) ⟨rfl, trivial⟩ trivial (J30 false h)
         ·have h := hif.2 hc
          refine Zr 11 I I I I I I I <| Zr 12 I I I I I I I <| Z8 13 I (Z20 (v := (.bool false)) I I I) <| Z8 14 I (Zn (v := (.bool false)) I I) <| Zr 15 I I I I I I I <| Zr 16 I I I I I I I <| Zr 17 I I I I I I I <| Zr 18 I I I I I I I ?_
          refine Z8 19 I (Z20 (v := (.bool false)) I I I) <| Z8 20 I (Zn (v := (.bool false)) I I) <| Zr 21 I I I I I I I <| Zr 22 I I I I I I I <| Zr 23 I I I I I I I <| Z8 24 I (Z20 (v := (.bool false)) I I I) <| Z8 25 I (Zq (v := (.bool false)) I I) <| Z1q (by kernel_rfl) I ?_
          exact Z11 (st' := ⟨[(6, (.bool false))], []⟩) ⟨rfl, trivial⟩ trivial (J30 false h)
        ·have h := hif.2 hc
         refine Zr 7 I I I I I I I <| Zr 8 I I I I I I I <| Z8 9 I (Z20 (v := (.bool false)) I I I) <| Z8 10 I (Zn (v := (.bool false)) I I) <| Zr 11 I I I I I I I <| Zr 12 I I I I I I I <| Z8 13 I (Z20 (v := (.bool false)) I I I) <| Z8 14 I (Zn (v := (.bool false)) I I) ?_
         refine Zr 15 I I I I I I I <| Zr 16 I I I I I I I <| Zr 17 I I I I I I I <| Zr 18 I I I I I I I <| Z8 19 I (Z20 (v := (.bool false)) I I I) <| Z8 20 I (Zn (v := (.bool false)) I I) <| Zr 21 I I I I I I I <| Zr 22 I I I I I I I ?_
         refine Zr 23 I I I I I I I <| Z8 24 I (Z20 (v := (.bool false)) I I I) <| Z8 25 I (Zq (v := (.bool false)) I I) <| Z1q (by kernel_rfl) I ?_
         exact Z11 (st' := ⟨[(6, (.bool false))], []⟩) ⟨rfl, trivial⟩ trivial (J30 false h)
       ·have h := hif.2 hc
        refine Zr 3 I I I I I I I <| Zr 4 I I I I I I I <| Z8 5 I (Z20 (v := (.bool false)) I I I) <| Z8 6 I (Zn (v := (.bool false)) I I) <| Zr 7 I I I I I I I <| Zr 8 I I I I I I I <| Z8 9 I (Z20 (v := (.bool false)) I I I) <| Z8 10 I (Zn (v := (.bool false)) I I) ?_
        refine Zr 11 I I I I I I I <| Zr 12 I I I I I I I <| Z8 13 I (Z20 (v := (.bool false)) I I I) <| Z8 14 I (Zn (v := (.bool false)) I I) <| Zr 15 I I I I I I I <| Zr 16 I I I I I I I <| Zr 17 I I I I I I I <| Zr 18 I I I I I I I ?_
        refine Z8 19 I (Z20 (v := (.bool false)) I I I) <| Z8 20 I (Zn (v := (.bool false)) I I) <| Zr 21 I I I I I I I <| Zr 22 I I I I I I I <| Zr 23 I I I I I I I <| Z8 24 I (Z20 (v := (.bool false)) I I I) <| Z8 25 I (Zq (v := (.bool false)) I I) <| Z1q (by kernel_rfl) I ?_
        exact Z11 (st' := ⟨[(6, (.bool false))], []⟩) ⟨rfl, trivial⟩ trivial (J30 false h)
     ·intro N k18 v h IH18 J18
      revert h
      revert v
      intro v17 h
      try dsimp only at h IH18 J18 ⊢
      cases k18 with
      | zero => cases h
      | succ k18 =>
       rw [Z5h] at h
       refine Zl <| Zl <| Zd <| Z2 I (Zn (v := (.int .i64 v17)) I I) I <| Z2 I (Zn (v := (.sl 3 (v10.map Zb) false)) I I) I <| Z2 I (Z23 (l := v10) (enc := Zb) I s31 I) I <| Z2 I (Z1y (k := .i64) (a := v17) (b := (v10.length : Int)) (c := (decide (v17 < (v10.length : Int)))) I I I I) I <| Zi ?_
       refine Zj ?_
       have hif := Z21 h
       refine Z18 I (fun hc => ?_) (fun hc => ?_)
       ·have h := hif.1 hc
        refine Z1b <| Zj <| Zl <| AWp.block <| Zl <| Zd <| Z2 I (Z1j (vs := []) (enc := Zb) (l := ([] : List Zt)) I el31 I I trivial I Z2j I I I I) I <| Z2 I (Zn (v := (.sl 3 (v12.map Zb) false)) I I) I ?_
        have ⟨hg38, h⟩ := Z14 h
        refine Z2 I (Z2l (m := 66) (enc := Zb) (l := ([] : List Zt)) (l' := v12) (src := (.sl 3 (v12.map Zb) false)) (rd := []) I I el31 I u31 I I I ⟨rfl, rfl, rfl⟩ noReads Z2j hg38) I <| Z2 I (Zn (v := (.sl 3 (v14.map Zb) false)) I I) I ?_
        have ⟨hg39, h⟩ := Z14 h
        refine Z2 I (Z2l (m := 66) (enc := Zb) (l := v12) (l' := v14) (src := (.sl 3 (v14.map Zb) false)) (rd := []) I I el31 I u31 I I I ⟨rfl, rfl, rfl⟩ noReads Z2j hg39) I <| Z2 I (Zn (v := (.int .i64 v17)) I I) I ?_
        have ⟨hg40, h⟩ := Z14 h
        refine Z2 I (Z2v (k := .i64) (v := (.vs 66)) (n := 66) (off := 0) (len := (v12 ++ v14).length) (es := (List.map Zb (v12 ++ v14))) (j := v17) (m := v17.toNat) I s31 I I (Z2x _ _ _) I hg40 (Nat.zero_add _)) I ?_
        have ⟨hg41, h⟩ := Z14 h
        refine Z2 I (Z3y (l := (v12 ++ v14)) (enc := Zb) (z := Z9) (vs := (Zb ((v12 ++ v14).getD v17.toNat Z9)).cells) I a39 I I hg41 I I) I <| Z2 I (Z1x (cs := [(.int .i64 0), (.int .i64 0), (.sl 14 [] false)]) I z39 I I I) I <| Z2 I (Z1a (cs := [(.int .i64 0), (.int .i64 0), (.sl 14 [] false)]) (vs := (Zb ((v12 ++ v14).getD v17.toNat Z9)).cells) (ds := (Zb ((v12 ++ v14).getD v17.toNat Z9)).cells) (v := (Zb ((v12 ++ v14).getD v17.toNat Z9))) sz39 I I I I I I I I) I <| Zi <| Zj <| Zl ?_
        refine AWp.join (V := Bool) (lp := fun v => Z8d K (Z5h K v10 v12 v14 a2 (Zdf K v12 v14 v10) k18) v17 v = some r) (sh := fun v => ⟨[(7, (.sl 3 (v10.map Zb) false)), (8, (.int .i64 (IntKind.i64.wrap (a2.tmod 64)))), (9, (.sl 3 (v12.map Zb) false)), (10, (.sl 3 (v14.map Zb) false)), (11, (.int .i64 v17)), (116, (.bool v))], []⟩) ?_ ?_
        ·intro v h
         revert h
         revert v
         intro v42 h
         try dsimp only at h ⊢
         unfold Z8d at h
         refine Zj ?_
         have hif := Z21 h
         refine Z18 I (fun hc => ?_) (fun hc => ?_)
         ·have h := hif.1 hc
          refine Zl <| Zd <| Z2 I (Zq (v := (.bool false)) I I) I <| Zi <| Zj <| Z1g <| At.overR <| Z1o ?_
          refine Z1o (At.overR ?_)
          refine Z1o ?_
          have h := Option.some.inj h
          subst h
          refine (hret _ ?_).1
          exact ⟨[(.bool false)], ⟨rfl, trivial⟩, rfl, trivial⟩
         ·have h := hif.2 hc
          refine Z1b <| At.end <| Zj <| Zd <| Z2 I (Zn (v := (.int .i64 v17)) I I) I <| Z2 I (Z1m (k := .i64) (a := v17) (b := 1) (c := (IntKind.i64.wrap (v17 + 1))) I I I I) I <| Z2 I (Zq (v := (.int .i64 (IntKind.i64.wrap (v17 + 1)))) I I) I <| Zi ?_
          exact Z11 (st' := ⟨[(7, (.sl 3 (v10.map Zb) false)), (8, (.int .i64 (IntKind.i64.wrap (a2.tmod 64)))), (9, (.sl 3 (v12.map Zb) false)), (10, (.sl 3 (v14.map Zb) false)), (11, (.int .i64 (IntKind.i64.wrap (v17 + 1))))], []⟩) ⟨rfl, rfl, rfl, rfl, rfl, trivial⟩ trivial (IH18 _ (IntKind.i64.wrap (v17 + 1)) (Nat.lt_succ_self _) h)
        ·intro J43
         refine Z1u mixed <| Z8 0 I (Zu (m := 12) (o := 0) I f39_0 I I) <| Z8 1 I (Zz (cs := (Zb ((v12 ++ v14).getD v17.toNat Z9)).cells) (v := (.int .i64 ((v12 ++ v14).getD v17.toNat Z9).Id)) I o3 I I I) <| Z8 2 I (Zn (v := (.sl 3 (v10.map Zb) false)) I I) <| Z8 3 I (Zn (v := (.int .i64 v17)) I I) ?_
         have ⟨hg44, h⟩ := Z14 h
         refine Z8 4 I (Z1s (k := .i64) (l := v10) (enc := Zb) (z := Z9) (n := v17) (cs := (Zb (v10.getD v17.toNat Z9)).cells) (full := false) I s31 I I hg44 I) <| Z8 5 I (Z2d (cs := (Zb (v10.getD v17.toNat Z9)).cells) (ds := (Zb (v10.getD v17.toNat Z9)).cells) I f39_0 I I I) <| Z8 6 I (Z24 (cs := (Zb (v10.getD v17.toNat Z9)).cells) (v := (.int .i64 (v10.getD v17.toNat Z9).Id)) I o3 I I) <| Z8 7 I (Z1y (k := .i64) (a := ((v12 ++ v14).getD v17.toNat Z9).Id) (b := (v10.getD v17.toNat Z9).Id) (c := (((v12 ++ v14).getD v17.toNat Z9).Id != (v10.getD v17.toNat Z9).Id)) I I I I) <| Z8 8 I (Zn (v := (.bool (((v12 ++ v14).getD v17.toNat Z9).Id != (v10.getD v17.toNat Z9).Id))) I I) ?_
         have hif := Z21 h
         refine AOpsD.split (fun hc => ?_) (fun hc => ?_)
         ·have h := hif.1 hc
          refine Zr 9 I I I I I I I <| Zr 10 I I I I I I I <| Zr 11 I I I I I I I <| Zr 12 I I I I I I I <| Zr 13 I I I I I I I <| Zr 14 I I I I I I I <| Zr 15 I I I I I I I <| Zr 16 I I I I I I I ?_
          refine Z8 17 I (Z2f (v := (.bool true)) I I I) <| Z8 18 I (Zn (v := (.bool true)) I I) <| Zr 19 I I I I I I I <| Zr 20 I I I I I I I <| Zr 21 I I I I I I I <| Zr 22 I I I I I I I <| Zr 23 I I I I I I I <| Zr 24 I I I I I I I ?_
          refine Zr 25 I I I I I I I <| Zr 26 I I I I I I I <| Zr 27 I I I I I I I <| Zr 28 I I I I I I I <| Z8 29 I (Z2f (v := (.bool true)) I I I) <| Z8 30 I (Zn (v := (.bool true)) I I) <| Zr 31 I I I I I I I <| Zr 32 I I I I I I I ?_
          refine Zr 33 I I I I I I I <| Zr 34 I I I I I I I <| Zr 35 I I I I I I I <| Zr 36 I I I I I I I <| Zr 37 (u := .tup []) I I I I I I I <| Zr 38 (u := .tup []) I I I I I I I <| Zr 39 (u := .tup []) I I I I I I I <| Zr 40 (u := .tup []) I I I I I I I ?_
          refine Zr 41 I I I I I I I <| Z8 42 I (Z2f (v := (.bool true)) I I I) <| Z1q (by kernel_rfl) I ?_
          exact Z11 (st' := ⟨[(7, (.sl 3 (v10.map Zb) false)), (8, (.int .i64 (IntKind.i64.wrap (a2.tmod 64)))), (9, (.sl 3 (v12.map Zb) false)), (10, (.sl 3 (v14.map Zb) false)), (11, (.int .i64 v17)), (116, (.bool true))], []⟩) ⟨rfl, rfl, rfl, rfl, rfl, rfl, trivial⟩ trivial (J43 true h)
         ·have h := hif.2 hc
          refine Zx 9 I I I I (Zu (m := 12) (o := 0) I f39_1 I I) <| Zx 10 I I I I (Zz (cs := (Zb ((v12 ++ v14).getD v17.toNat Z9)).cells) (v := (.int .i64 ((v12 ++ v14).getD v17.toNat Z9).Weight)) I o3 I I I) <| Zx 11 I I I I (Zn (v := (.sl 3 (v10.map Zb) false)) I I) <| Zx 12 I I I I (Zn (v := (.int .i64 v17)) I I) ?_
          have ⟨hg45, h⟩ := Z14 h
          refine Zx 13 I I I I (Z1s (k := .i64) (l := v10) (enc := Zb) (z := Z9) (n := v17) (cs := (Zb (v10.getD v17.toNat Z9)).cells) (full := false) I s31 I I hg45 I) <| Zx 14 I I I I (Z2d (cs := (Zb (v10.getD v17.toNat Z9)).cells) (ds := [(.int .i64 (v10.getD v17.toNat Z9).Weight), (.sl 14 ((v10.getD v17.toNat Z9).Spans.map Z5) false)]) I f39_1 I I I) <| Zx 15 I I I I (Z24 (cs := [(.int .i64 (v10.getD v17.toNat Z9).Weight), (.sl 14 ((v10.getD v17.toNat Z9).Spans.map Z5) false)]) (v := (.int .i64 (v10.getD v17.toNat Z9).Weight)) I o3 I I) <| Zx 16 I I I I (Z1y (k := .i64) (a := ((v12 ++ v14).getD v17.toNat Z9).Weight) (b := (v10.getD v17.toNat Z9).Weight) (c := (((v12 ++ v14).getD v17.toNat Z9).Weight != (v10.getD v17.toNat Z9).Weight)) I I I I) <| Z8 17 I (Z20 (v := (.bool (((v12 ++ v14).getD v17.toNat Z9).Weight != (v10.getD v17.toNat Z9).Weight))) I I I) <| Z8 18 I (Zn (v := (.bool (((v12 ++ v14).getD v17.toNat Z9).Weight != (v10.getD v17.toNat Z9).Weight))) I I) ?_
          have hif := Z21 h
          refine AOpsD.split (fun hc => ?_) (fun hc => ?_)
          ·have h := hif.1 hc
           refine Zr 19 I I I I I I I <| Zr 20 I I I I I I I <| Zr 21 I I I I I I I <| Zr 22 I I I I I I I <| Zr 23 I I I I I I I <| Zr 24 I I I I I I I <| Zr 25 I I I I I I I <| Zr 26 I I I I I I I ?_
           refine Zr 27 I I I I I I I <| Zr 28 I I I I I I I <| Z8 29 I (Z2f (v := (.bool true)) I I I) <| Z8 30 I (Zn (v := (.bool true)) I I) <| Zr 31 I I I I I I I <| Zr 32 I I I I I I I <| Zr 33 I I I I I I I <| Zr 34 I I I I I I I ?_
           refine Zr 35 I I I I I I I <| Zr 36 I I I I I I I <| Zr 37 (u := .tup []) I I I I I I I <| Zr 38 (u := .tup []) I I I I I I I <| Zr 39 (u := .tup []) I I I I I I I <| Zr 40 (u := .tup []) I I I I I I I <| Zr 41 I I I I I I I <| Z8 42 I (Z2f (v := (.bool true)) I I I) ?_
           refine Z1q (by kernel_rfl) I ?_
           exact Z11 (st' := ⟨[(7, (.sl 3 (v10.map Zb) false)), (8, (.int .i64 (IntKind.i64.wrap (a2.tmod 64)))), (9, (.sl 3 (v12.map Zb) false)), (10, (.sl 3 (v14.map Zb) false)), (11, (.int .i64 v17)), (116, (.bool true))], []⟩) ⟨rfl, rfl, rfl, rfl, rfl, rfl, trivial⟩ trivial (J43 true h)
          ·have h := hif.2 hc
           refine Zx 19 I I I I (Zu (m := 12) (o := 0) I f39_2 I I) <| Zx 20 I I I I (Zz (cs := (Zb ((v12 ++ v14).getD v17.toNat Z9)).cells) (v := (.sl 14 (((v12 ++ v14).getD v17.toNat Z9).Spans.map Z5) false)) I o37 I I I) <| Zx 21 I I I I (Z23 (l := ((v12 ++ v14).getD v17.toNat Z9).Spans) (enc := Z5) I s37 I) <| Zx 22 I I I I (Zn (v := (.sl 3 (v10.map Zb) false)) I I) <| Zx 23 I I I I (Zn (v := (.int .i64 v17)) I I) ?_
           have ⟨hg46, h⟩ := Z14 h
           refine Zx 24 I I I I (Z1s (k := .i64) (l := v10) (enc := Zb) (z := Z9) (n := v17) (cs := (Zb (v10.getD v17.toNat Z9)).cells) (full := false) I s31 I I hg46 I) <| Zx 25 I I I I (Z2d (cs := (Zb (v10.getD v17.toNat Z9)).cells) (ds := [(.sl 14 ((v10.getD v17.toNat Z9).Spans.map Z5) false)]) I f39_2 I I I) <| Zx 26 I I I I (Z24 (cs := [(.sl 14 ((v10.getD v17.toNat Z9).Spans.map Z5) false)]) (v := (.sl 14 ((v10.getD v17.toNat Z9).Spans.map Z5) false)) I o37 I I) <| Zx 27 I I I I (Z23 (l := (v10.getD v17.toNat Z9).Spans) (enc := Z5) I s37 I) <| Zx 28 I I I I (Z1y (k := .i64) (a := (((v12 ++ v14).getD v17.toNat Z9).Spans.length : Int)) (b := ((v10.getD v17.toNat Z9).Spans.length : Int)) (c := ((((v12 ++ v14).getD v17.toNat Z9).Spans.length : Int) != ((v10.getD v17.toNat Z9).Spans.length : Int))) I I I I) <| Z8 29 I (Z20 (v := (.bool ((((v12 ++ v14).getD v17.toNat Z9).Spans.length : Int) != ((v10.getD v17.toNat Z9).Spans.length : Int)))) I I I) <| Z8 30 I (Zn (v := (.bool ((((v12 ++ v14).getD v17.toNat Z9).Spans.length : Int) != ((v10.getD v17.toNat Z9).Spans.length : Int)))) I I) ?_
           have hif := Z21 h
           refine AOpsD.split (fun hc => ?_) (fun hc => ?_)
           ·have h := hif.1 hc
            refine Zr 31 I I I I I I I <| Zr 32 I I I I I I I <| Zr 33 I I I I I I I <| Zr 34 I I I I I I I <| Zr 35 I I I I I I I <| Zr 36 I I I I I I I <| Zr 37 (u := .tup []) I I I I I I I <| Zr 38 (u := .tup []) I I I I I I I ?_
            refine Zr 39 (u := .tup []) I I I I I I I <| Zr 40 (u := .tup []) I I I I I I I <| Zr 41 I I I I I I I <| Z8 42 I (Z2f (v := (.bool true)) I I I) <| Z1q (by kernel_rfl) I ?_
            exact Z11 (st' := ⟨[(7, (.sl 3 (v10.map Zb) false)), (8, (.int .i64 (IntKind.i64.wrap (a2.tmod 64)))), (9, (.sl 3 (v12.map Zb) false)), (10, (.sl 3 (v14.map Zb) false)), (11, (.int .i64 v17)), (116, (.bool true))], []⟩) ⟨rfl, rfl, rfl, rfl, rfl, rfl, trivial⟩ trivial (J43 true h)
           ·have h := hif.2 hc
            refine Zx 31 I I I I (Zu (m := 12) (o := 0) I f39_0 I I) <| Zx 32 I I I I (Zz (cs := (Zb ((v12 ++ v14).getD v17.toNat Z9)).cells) (v := (.int .i64 ((v12 ++ v14).getD v17.toNat Z9).Id)) I o3 I I I) ?_
            have ⟨v48, hv48, h⟩ := Z1c h
            refine Zx 33 I I I I (Z1e (ar := [(.int .i64 ((v12 ++ v14).getD v17.toNat Z9).Id)]) (caps := []) Tryz.call16 (F16_ok K ((v12 ++ v14).getD v17.toNat Z9).Id v48 hv48) I I ⟨rfl, trivial⟩ I) <| Zx 34 I I I I (Zn (v := (.int .i64 (IntKind.i64.wrap (a2.tmod 64)))) I I) <| Zx 35 I I I I (Z1y (k := .i64) (a := v48) (b := (IntKind.i64.wrap (a2.tmod 64))) (c := (decide (v48 < (IntKind.i64.wrap (a2.tmod 64))))) I I I I) <| Zx 36 I I I I (Zn (v := (.bool (decide (v48 < (IntKind.i64.wrap (a2.tmod 64)))))) I I) ?_
            have hif := Z21 h
            refine AOpsD.split (fun hc => ?_) (fun hc => ?_)
            ·have h := hif.1 hc
             refine Zx 37 I I I I (Zn (v := (.int .i64 v17)) I I) <| Zx 38 I I I I (Zn (v := (.sl 3 (v12.map Zb) false)) I I) <| Zx 39 I I I I (Z23 (l := v12) (enc := Zb) I s31 I) <| Zx 40 I I I I (Z1y (k := .i64) (a := v17) (b := (v12.length : Int)) (c := (decide (v17 ≥ (v12.length : Int)))) I I I I) <| Zx 41 I I I I (Z2f (v := (.bool (decide (v17 ≥ (v12.length : Int))))) I I I) <| Z8 42 I (Z20 (v := (.bool (decide (v17 ≥ (v12.length : Int))))) I I I) <| Z1q (by kernel_rfl) I ?_
             exact Z11 (st' := ⟨[(7, (.sl 3 (v10.map Zb) false)), (8, (.int .i64 (IntKind.i64.wrap (a2.tmod 64)))), (9, (.sl 3 (v12.map Zb) false)), (10, (.sl 3 (v14.map Zb) false)), (11, (.int .i64 v17)), (116, (.bool (decide (v17 ≥ (v12.length : Int)))))], []⟩) ⟨rfl, rfl, rfl, rfl, rfl, rfl, trivial⟩ trivial (J43 (decide (v17 ≥ (v12.length : Int))) h)
            ·have h := hif.2 hc
             refine Zr 37 I I I I I I I <| Zr 38 I I I I I I I <| Zr 39 I I I I I I I <| Zr 40 I I I I I I I <| Zx 41 I I I I (Z20 (v := (.bool false)) I I I) <| Z8 42 I (Z20 (v := (.bool false)) I I I) <| Z1q (by kernel_rfl) I ?_
             exact Z11 (st' := ⟨[(7, (.sl 3 (v10.map Zb) false)), (8, (.int .i64 (IntKind.i64.wrap (a2.tmod 64)))), (9, (.sl 3 (v12.map Zb) false)), (10, (.sl 3 (v14.map Zb) false)), (11, (.int .i64 v17)), (116, (.bool false))], []⟩) ⟨rfl, rfl, rfl, rfl, rfl, rfl, trivial⟩ trivial (J43 false h)
       ·have h := hif.2 hc
        refine AWp.exit <| At.thru ?_
        exact Z11 (st' := ⟨[(7, (.sl 3 (v10.map Zb) false)), (9, (.sl 3 (v12.map Zb) false)), (10, (.sl 3 (v14.map Zb) false))], []⟩) ⟨rfl, rfl, rfl, trivial⟩ trivial (J18 () h)
end Go.AM.TopZ
