/- What these functions compute, each with its walk: F10. -/
import Derived.Test.YtcfcnnkaiboddaaGraT
import Derived.Test.YtcfcnnkaiboddaaGraG0
import Derived.Test.YtcfcnnkaiboddaaGraG1
import Derived.Test.YtcfcnnkaiboddaaGraG2
import Derived.Test.YtcfcnnkaiboddaaGraG10
import Derived.Test.YtcfcnnkaiboddaaGraG11
namespace Go.AM.Gra
open Go Go.AM Go.Proofs
set_option maxRecDepth 100000
set_option maxHeartbeats 2000000
def F10_j34 (K : Nat) (v33 : Bool) : Option (Bool) :=
 some v33
def F10_c31 (K : Nat) (a2 : Int) (v2 : (List (List Bool))) (v14 : (List Int) × Int) (a1 : Int) (v18 : (List Int) × Int) (v22 : Za × (List Int)) (v20 : (List Int) × Int) : Option (Bool) :=
 if (0 : Int) ≤ ((IntKind.i64.wrap a2).tmod (v2.length : Int)) ∧ ((IntKind.i64.wrap a2).tmod (v2.length : Int)) < v14.1.length then
  if (0 : Int) ≤ ((IntKind.i64.wrap a1).tmod (v2.length : Int)) ∧ ((IntKind.i64.wrap a1).tmod (v2.length : Int)) < v18.1.length then
   if ((v14.1.getD ((IntKind.i64.wrap a2).tmod (v2.length : Int)).toNat 0) == (v18.1.getD ((IntKind.i64.wrap a1).tmod (v2.length : Int)).toNat 0)) = true then
    if (0 : Int) ≤ ((IntKind.i64.wrap a1).tmod (v2.length : Int)) ∧ ((IntKind.i64.wrap a1).tmod (v2.length : Int)) < v22.2.length then
     if (0 : Int) ≤ ((IntKind.i64.wrap a2).tmod (v2.length : Int)) ∧ ((IntKind.i64.wrap a2).tmod (v2.length : Int)) < v22.2.length then
      if (0 : Int) ≤ ((IntKind.i64.wrap a2).tmod (v2.length : Int)) ∧ ((IntKind.i64.wrap a2).tmod (v2.length : Int)) < v14.1.length then
       if (decide ((v14.1.getD ((IntKind.i64.wrap a2).tmod (v2.length : Int)).toNat 0) ≥ 0)) = true then
        if (0 : Int) ≤ ((IntKind.i64.wrap a1).tmod (v2.length : Int)) ∧ ((IntKind.i64.wrap a1).tmod (v2.length : Int)) < v20.1.length then
         F10_j34 K (((v22.2.getD ((IntKind.i64.wrap a1).tmod (v2.length : Int)).toNat 0) == (v22.2.getD ((IntKind.i64.wrap a2).tmod (v2.length : Int)).toNat 0)) == (decide ((v20.1.getD ((IntKind.i64.wrap a1).tmod (v2.length : Int)).toNat 0) ≥ 0)))
        else none
       else
        F10_j34 K (((v22.2.getD ((IntKind.i64.wrap a1).tmod (v2.length : Int)).toNat 0) == (v22.2.getD ((IntKind.i64.wrap a2).tmod (v2.length : Int)).toNat 0)) == false)
      else none
     else none
    else none
   else
    F10_j34 K false
  else none
 else none
def F10_j44 (K : Nat) (b41 : Int → Option (Bool)) (v29 : Int) (v43 : Bool) : Option (Bool) :=
 if v43 = true then
  some false
 else
  b41 (IntKind.i64.wrap (v29 + 1))
def F10_l30 (K : Nat) (v10 : Za) (v14 : (List Int) × Int) (c32 : Option (Bool)) : Nat → Int → Option (Bool)
 | 0, _ => none
 | k30 + 1, v29 =>
  if (decide (v29 < (v10.Edges.length : Int))) = true then
   if (0 : Int) ≤ v29 ∧ v29 < v10.Edges.length then
    if (0 : Int) ≤ (v10.Edges.getD v29.toNat Z2).From ∧ (v10.Edges.getD v29.toNat Z2).From < v14.1.length then
     if (decide ((v14.1.getD (v10.Edges.getD v29.toNat Z2).From.toNat 0) ≥ 0)) = true then
      if (0 : Int) ≤ (v10.Edges.getD v29.toNat Z2).To ∧ (v10.Edges.getD v29.toNat Z2).To < v14.1.length then
       if (decide ((v14.1.getD (v10.Edges.getD v29.toNat Z2).To.toNat 0) < 0)) = true then
        F10_j44 K (F10_l30 K v10 v14 c32 k30) v29 true
       else
        if (0 : Int) ≤ (v10.Edges.getD v29.toNat Z2).To ∧ (v10.Edges.getD v29.toNat Z2).To < v14.1.length then
         if (0 : Int) ≤ (v10.Edges.getD v29.toNat Z2).From ∧ (v10.Edges.getD v29.toNat Z2).From < v14.1.length then
          F10_j44 K (F10_l30 K v10 v14 c32 k30) v29 (decide ((v14.1.getD (v10.Edges.getD v29.toNat Z2).To.toNat 0) > (IntKind.i64.wrap ((v14.1.getD (v10.Edges.getD v29.toNat Z2).From.toNat 0) + 1))))
         else none
        else none
      else none
     else
      F10_j44 K (F10_l30 K v10 v14 c32 k30) v29 false
    else none
   else none
  else
   c32
def F10_j28 (K : Nat) (v10 : Za) (v14 : (List Int) × Int) (a2 : Int) (v2 : (List (List Bool))) (a1 : Int) (v18 : (List Int) × Int) (v22 : Za × (List Int)) (v20 : (List Int) × Int) (v27 : Bool) : Option (Bool) :=
 if v27 = true then
  some false
 else
  F10_l30 K v10 v14 (F10_c31 K a2 v2 v14 a1 v18 v22 v20) K 0
def F10 (K : Nat) (a0 : Z11) (a1 : Int) (a2 : Int) : Option (Bool) :=
 (F14 K a0).bind fun v2 =>
  (F13 K).bind fun v4 =>
   if (!v4) = true then
    (F13 K).bind fun v6 =>
     some v6
   else
    if ((v2.length : Int) == 0) = true then
     (F13 K).bind fun v8 =>
      some v8
    else
     (F16 K v2).bind fun v10 =>
      if (v2.length : Int) ≠ 0 then
       if (v2.length : Int) ≠ 0 then
        (F33 K v10 ((IntKind.i64.wrap a1).tmod (v2.length : Int))).bind fun v14 =>
         (F30 K v10).bind fun v16 =>
          (F33 K v16 ((IntKind.i64.wrap a2).tmod (v2.length : Int))).bind fun v18 =>
           (F33 K v10 ((IntKind.i64.wrap a2).tmod (v2.length : Int))).bind fun v20 =>
            (F26 K v10).bind fun v22 =>
             (F30 K v10).bind fun v24 =>
              (F26 K v24).bind fun v26 =>
               if (v14.2 != 0) = true then
                F10_j28 K v10 v14 a2 v2 a1 v18 v22 v20 true
               else
                if (v18.2 != 0) = true then
                 F10_j28 K v10 v14 a2 v2 a1 v18 v22 v20 true
                else
                 if (v20.2 != 0) = true then
                  F10_j28 K v10 v14 a2 v2 a1 v18 v22 v20 true
                 else
                  if ((v14.1.length : Int) != (v2.length : Int)) = true then
                   F10_j28 K v10 v14 a2 v2 a1 v18 v22 v20 true
                  else
                   if ((v18.1.length : Int) != (v2.length : Int)) = true then
                    F10_j28 K v10 v14 a2 v2 a1 v18 v22 v20 true
                   else
                    if ((v20.1.length : Int) != (v2.length : Int)) = true then
                     F10_j28 K v10 v14 a2 v2 a1 v18 v22 v20 true
                    else
                     if ((v22.2.length : Int) != (v2.length : Int)) = true then
                      F10_j28 K v10 v14 a2 v2 a1 v18 v22 v20 true
                     else
                      (F18 K v22.2 v26.2).bind fun v50 =>
                       F10_j28 K v10 v14 a2 v2 a1 v18 v22 v20 (!v50)
       else none
      else none
theorem F10_ok (K : Nat) (a0 : Z11) (a1 : Int) (a2 : Int) (r : Bool) (h : F10 K a0 a1 a2 = some r) : ACall P 10 ⟨[(Zm a0), (.int .u8 a1), (.int .u8 a2)], [], (.bool r), [], []⟩ := by
 refine acall_of Try.func10 Try.results10 rfl Try.ntmps10 rfl rfl rfl ?_
 intro E Q hP hN hro hret
 obtain ⟨P', nt', w0, F0, p0, S0, β0, ro0⟩ := E
 simp only at hP hN
 subst hP hN
 dsimp only [argT]
 unfold F10 at h
 refine Zf <| Z6 <| Z1 I (st_box (v := (Zm a0)) (cs := (Zm a0).cells) I I I I I) I <| Z1 I (Zh (v := (.bool false)) I I) I <| Zb <| Ze <| Zf <| Z6 ?_
 refine Z1 I (st_loadPA (cs := (Zm a0).cells) (vs := (Zm a0).cells) I a24 I I I I) I ?_
 have ⟨v2, hv2, h⟩ := of_bind h
 refine Z1 I (st_call0 (ar := [(Zm a0)]) (caps := []) Try.call14 (F14_ok K a0 v2 hv2) I I ⟨rfl, trivial⟩ I) I <| Z1 I (Zh (v := (.sl 1 (v2.map e_l_bool) false)) I I) I <| Zb <| Ze <| Zf <| Zf <| Z6 ?_
 have ⟨v4, hv4, h⟩ := of_bind h
 refine Z1 I (st_call0 (ar := []) (caps := []) Try.call13 (F13_ok K v4 hv4) I I trivial I) I <| Z1 I (st_not (b := v4) I I) I <| Z1 I (Z9 (v := (.bool (!v4))) I I) I ?_
 have hif := of_if h
 refine AOps.split (fun hc => ?_) (fun hc => ?_)
 ·have h := hif.1 hc
  refine Z5 I I I I I I I <| Z5 I I I I I I I <| Z5 I I I I I I I <| Z1 I (Zz (v := (.bool true)) I I I) I <| Zb <| Ze ?_
  refine Zv (b := true) I (fun hc => ?_) (fun hc => ?_)
  rotate_left
  ·cases hc
  refine Zf <| Z6 ?_
  have ⟨v6, hv6, h⟩ := of_bind h
  refine Z1 I (st_call0 (ar := []) (caps := []) Try.call13 (F13_ok K v6 hv6) I I trivial I) I <| Z1 I (Zh (v := (.bool v6)) I I) I <| Zb <| Ze <| AWp.ret <| At.thruR ?_
  have h := Option.some.inj h
  subst h
  refine (hret _ ?_).1
  exact ⟨[(.bool v6)], ⟨rfl, trivial⟩, rfl, trivial⟩
 ·have h := hif.2 hc
  refine Zj I I I I (Z9 (v := (.sl 1 (v2.map e_l_bool) false)) I I) I <| Zj I I I I (stx_len (l := v2) (enc := e_l_bool) I s27 I) I <| Zj I I I I (st_cmp (k := .i64) (a := (v2.length : Int)) (b := 0) (c := ((v2.length : Int) == 0)) I I I I) I <| Z1 I (Zx (v := (.bool ((v2.length : Int) == 0))) I I I) I <| Zb <| Ze ?_
  have hif := of_if h
  refine Zv I (fun hc => ?_) (fun hc => ?_)
  ·have h := hif.1 hc
   refine Zf <| Z6 ?_
   have ⟨v8, hv8, h⟩ := of_bind h
   refine Z1 I (st_call0 (ar := []) (caps := []) Try.call13 (F13_ok K v8 hv8) I I trivial I) I <| Z1 I (Zh (v := (.bool v8)) I I) I <| Zb <| Ze <| AWp.ret <| At.thruR ?_
   have h := Option.some.inj h
   subst h
   refine (hret _ ?_).1
   exact ⟨[(.bool v8)], ⟨rfl, trivial⟩, rfl, trivial⟩
  ·have h := hif.2 hc
   refine Zy <| Ze <| Zf <| Z6 <| Z1 I (Z9 (v := (.sl 1 (v2.map e_l_bool) false)) I I) I ?_
   have ⟨v10, hv10, h⟩ := of_bind h
   refine Z1 I (st_call0 (ar := [(.sl 1 (v2.map e_l_bool) false)]) (caps := []) Try.call16 (F16_ok K v2 v10 hv10) I I ⟨rfl, trivial⟩ I) I <| Z1 I (st_alloc (cs := [(.int .i64 0), (.sl 2 [] false)]) I z35 I I I) I <| Z1 I (st_storeP (cs := [(.int .i64 0), (.sl 2 [] false)]) (vs := (Z4 v10).cells) (ds := (Z4 v10).cells) (v := (Z4 v10)) sz35 I I I I I I I I) I <| Zb <| Ze <| Zf <| AWp.regionD mixed <| Zd 0 I (Z9 (v := (.int .u8 a1)) I I) ?_
   refine Zd 1 I (st_conv I us5 u3 I) <| Zd 2 I (Z9 (v := (.sl 1 (v2.map e_l_bool) false)) I I) <| Zd 3 I (stx_len (l := v2) (enc := e_l_bool) I s27 I) ?_
   have ⟨hg11, h⟩ := Zi h
   refine Zd 4 I (st_div (k := .i64) (a := (IntKind.i64.wrap a1)) (b := (v2.length : Int)) (c := ((IntKind.i64.wrap a1).tmod (v2.length : Int))) I I I I hg11) <| Zd 5 I (Z9 (v := (.int .u8 a2)) I I) <| Zd 6 I (st_conv I us5 u3 I) <| Zd 7 I (Z9 (v := (.sl 1 (v2.map e_l_bool) false)) I I) <| Zd 8 I (stx_len (l := v2) (enc := e_l_bool) I s27 I) ?_
   have ⟨hg12, h⟩ := Zi h
   refine Zd 9 I (st_div (k := .i64) (a := (IntKind.i64.wrap a2)) (b := (v2.length : Int)) (c := ((IntKind.i64.wrap a2).tmod (v2.length : Int))) I I I I hg12) <| Zd 10 I (Zh (v := (.int .i64 ((IntKind.i64.wrap a1).tmod (v2.length : Int)))) I I) <| Zd 11 I (Zh (v := (.int .i64 ((IntKind.i64.wrap a2).tmod (v2.length : Int)))) I I) <| AOpsD.nil (by kernel_rfl) I <| Ze <| Zf <| Z6 <| Z1 I (st_loadPA (cs := (Z4 v10).cells) (vs := (Z4 v10).cells) I a35 I I I I) I ?_
   refine Z1 I (Z9 (v := (.int .i64 ((IntKind.i64.wrap a1).tmod (v2.length : Int)))) I I) I ?_
   have ⟨v14, hv14, h⟩ := of_bind h
   refine Z1 I (st_call0 (ar := [(Z4 v10), (.int .i64 ((IntKind.i64.wrap a1).tmod (v2.length : Int)))]) (caps := []) Try.call33 (F33_ok K v10 ((IntKind.i64.wrap a1).tmod (v2.length : Int)) v14 hv14) I I ⟨rfl, rfl, trivial⟩ I) I <| Z1 I (Z9 (v := (.tup [(.sl 1 (v14.1.map Z8) false), (.int .i64 v14.2)])) I I) I <| Z1 I (st_extract (vs := [(.sl 1 (v14.1.map Z8) false), (.int .i64 v14.2)]) (v := (.sl 1 (v14.1.map Z8) false)) I I I) I <| Z1 I (st_extract (vs := [(.sl 1 (v14.1.map Z8) false), (.int .i64 v14.2)]) (v := (.int .i64 v14.2)) I I I) I <| Z1 I (Zh (v := (.sl 1 (v14.1.map Z8) false)) I I) I <| Z1 I (Zh (v := (.int .i64 v14.2)) I I) I <| Zb <| Ze ?_
   refine Zf <| Z6 <| Z1 I (st_loadPA (cs := (Z4 v10).cells) (vs := (Z4 v10).cells) I a35 I I I I) I ?_
   have ⟨v16, hv16, h⟩ := of_bind h
   refine Z1 I (st_call0 (ar := [(Z4 v10)]) (caps := []) Try.call30 (F30_ok K v10 v16 hv16) I I ⟨rfl, trivial⟩ I) I <| Z1 I (Z9 (v := (.int .i64 ((IntKind.i64.wrap a2).tmod (v2.length : Int)))) I I) I ?_
   have ⟨v18, hv18, h⟩ := of_bind h
   refine Z1 I (st_call0 (ar := [(Z4 v16), (.int .i64 ((IntKind.i64.wrap a2).tmod (v2.length : Int)))]) (caps := []) Try.call33 (F33_ok K v16 ((IntKind.i64.wrap a2).tmod (v2.length : Int)) v18 hv18) I I ⟨rfl, rfl, trivial⟩ I) I <| Z1 I (Z9 (v := (.tup [(.sl 1 (v18.1.map Z8) false), (.int .i64 v18.2)])) I I) I <| Z1 I (st_extract (vs := [(.sl 1 (v18.1.map Z8) false), (.int .i64 v18.2)]) (v := (.sl 1 (v18.1.map Z8) false)) I I I) I <| Z1 I (st_extract (vs := [(.sl 1 (v18.1.map Z8) false), (.int .i64 v18.2)]) (v := (.int .i64 v18.2)) I I I) I <| Z1 I (Zh (v := (.sl 1 (v18.1.map Z8) false)) I I) I <| Z1 I (Zh (v := (.int .i64 v18.2)) I I) I <| Zb <| Ze ?_
   refine Zf <| Z6 <| Z1 I (st_loadPA (cs := (Z4 v10).cells) (vs := (Z4 v10).cells) I a35 I I I I) I <| Z1 I (Z9 (v := (.int .i64 ((IntKind.i64.wrap a2).tmod (v2.length : Int)))) I I) I ?_
   have ⟨v20, hv20, h⟩ := of_bind h
   refine Z1 I (st_call0 (ar := [(Z4 v10), (.int .i64 ((IntKind.i64.wrap a2).tmod (v2.length : Int)))]) (caps := []) Try.call33 (F33_ok K v10 ((IntKind.i64.wrap a2).tmod (v2.length : Int)) v20 hv20) I I ⟨rfl, rfl, trivial⟩ I) I <| Z1 I (Z9 (v := (.tup [(.sl 1 (v20.1.map Z8) false), (.int .i64 v20.2)])) I I) I <| Z1 I (st_extract (vs := [(.sl 1 (v20.1.map Z8) false), (.int .i64 v20.2)]) (v := (.sl 1 (v20.1.map Z8) false)) I I I) I <| Z1 I (st_extract (vs := [(.sl 1 (v20.1.map Z8) false), (.int .i64 v20.2)]) (v := (.int .i64 v20.2)) I I I) I <| Z1 I (Zh (v := (.sl 1 (v20.1.map Z8) false)) I I) I <| Z1 I (Zh (v := (.int .i64 v20.2)) I I) I <| Zb <| Ze ?_
   refine Zf <| Z6 <| Z1 I (st_loadPA (cs := (Z4 v10).cells) (vs := (Z4 v10).cells) I a35 I I I I) I ?_
   have ⟨v22, hv22, h⟩ := of_bind h
   refine Z1 I (st_call0 (ar := [(Z4 v10)]) (caps := []) Try.call26 (F26_ok K v10 v22 hv22) I I ⟨rfl, trivial⟩ I) I <| Z1 I (Z9 (v := (.tup [(Z4 v22.1), (.sl 1 (v22.2.map Z8) false)])) I I) I <| Z1 I (st_extract (vs := [(Z4 v22.1), (.sl 1 (v22.2.map Z8) false)]) (v := (Z4 v22.1)) I I I) I <| Z1 I (st_extract (vs := [(Z4 v22.1), (.sl 1 (v22.2.map Z8) false)]) (v := (.sl 1 (v22.2.map Z8) false)) I I I) I <| Z1 I (st_alloc (cs := [(.int .i64 0), (.sl 2 [] false)]) I z35 I I I) I <| Z1 I (st_storeP (cs := [(.int .i64 0), (.sl 2 [] false)]) (vs := (Z4 v22.1).cells) (ds := (Z4 v22.1).cells) (v := (Z4 v22.1)) sz35 I I I I I I I I) I <| Z1 I (Zh (v := (.sl 1 (v22.2.map Z8) false)) I I) I <| Zb ?_
   refine Ze <| Zf <| Z6 <| Z1 I (st_loadPA (cs := (Z4 v10).cells) (vs := (Z4 v10).cells) I a35 I I I I) I ?_
   have ⟨v24, hv24, h⟩ := of_bind h
   refine Z1 I (st_call0 (ar := [(Z4 v10)]) (caps := []) Try.call30 (F30_ok K v10 v24 hv24) I I ⟨rfl, trivial⟩ I) I ?_
   have ⟨v26, hv26, h⟩ := of_bind h
   refine Z1 I (st_call0 (ar := [(Z4 v24)]) (caps := []) Try.call26 (F26_ok K v24 v26 hv26) I I ⟨rfl, trivial⟩ I) I <| Z1 I (Z9 (v := (.tup [(Z4 v26.1), (.sl 1 (v26.2.map Z8) false)])) I I) I <| Z1 I (st_extract (vs := [(Z4 v26.1), (.sl 1 (v26.2.map Z8) false)]) (v := (Z4 v26.1)) I I I) I <| Z1 I (st_extract (vs := [(Z4 v26.1), (.sl 1 (v26.2.map Z8) false)]) (v := (.sl 1 (v26.2.map Z8) false)) I I I) I <| Z1 I (st_alloc (cs := [(.int .i64 0), (.sl 2 [] false)]) I z35 I I I) I <| Z1 I (st_storeP (cs := [(.int .i64 0), (.sl 2 [] false)]) (vs := (Z4 v26.1).cells) (ds := (Z4 v26.1).cells) (v := (Z4 v26.1)) sz35 I I I I I I I I) I <| Z1 I (Zh (v := (.sl 1 (v26.2.map Z8) false)) I I) I <| Zb ?_
   refine Ze <| Zf <| Zf ?_
   refine AWp.join (V := Bool) (lp := fun v => F10_j28 K v10 v14 a2 v2 a1 v18 v22 v20 v = some r) (sh := fun v => ⟨[(8, (.ptr 8 0)), (9, (.int .i64 ((IntKind.i64.wrap a1).tmod (v2.length : Int)))), (10, (.int .i64 ((IntKind.i64.wrap a2).tmod (v2.length : Int)))), (11, (.sl 1 (v14.1.map Z8) false)), (13, (.sl 1 (v18.1.map Z8) false)), (15, (.sl 1 (v20.1.map Z8) false)), (18, (.sl 1 (v22.2.map Z8) false)), (118, (.bool v))], [(8, (.box (Z4 v10).cells))]⟩) ?_ ?_
   ·intro v h
    revert h
    revert v
    intro v27 h
    try dsimp only at h ⊢
    unfold F10_j28 at h
    refine Ze ?_
    have hif := of_if h
    refine Zv I (fun hc => ?_) (fun hc => ?_)
    ·have h := hif.1 hc
     refine Zf <| Z6 <| Z1 I (Zh (v := (.bool false)) I I) I <| Zb <| Ze <| AWp.ret <| At.thruR ?_
     have h := Option.some.inj h
     subst h
     refine (hret _ ?_).1
     exact ⟨[(.bool false)], ⟨rfl, trivial⟩, rfl, trivial⟩
    ·have h := hif.2 hc
     refine Zy <| Ze <| Zf <| Zf <| Z6 <| Z1 I (Zh (v := (.int .i64 0)) I I) I <| Zb <| Ze ?_
     refine AWp.weaken (st' := ⟨[(8, (.ptr 8 0)), (9, (.int .i64 ((IntKind.i64.wrap a1).tmod (v2.length : Int)))), (10, (.int .i64 ((IntKind.i64.wrap a2).tmod (v2.length : Int)))), (11, (.sl 1 (v14.1.map Z8) false)), (13, (.sl 1 (v18.1.map Z8) false)), (15, (.sl 1 (v20.1.map Z8) false)), (18, (.sl 1 (v22.2.map Z8) false)), (21, (.int .i64 0))], [(8, (.box (Z4 v10).cells))]⟩) ⟨rfl, rfl, rfl, rfl, rfl, rfl, rfl, rfl, trivial⟩ ⟨rfl, trivial⟩ ?_
     refine Zw (V := Int) (X := Unit) (lp := fun k v => F10_l30 K v10 v14 (F10_c31 K a2 v2 v14 a1 v18 v22 v20) k v = some r) (sh := fun v => ⟨[(8, (.ptr 8 0)), (9, (.int .i64 ((IntKind.i64.wrap a1).tmod (v2.length : Int)))), (10, (.int .i64 ((IntKind.i64.wrap a2).tmod (v2.length : Int)))), (11, (.sl 1 (v14.1.map Z8) false)), (13, (.sl 1 (v18.1.map Z8) false)), (15, (.sl 1 (v20.1.map Z8) false)), (18, (.sl 1 (v22.2.map Z8) false)), (21, (.int .i64 v))], [(8, (.box (Z4 v10).cells))]⟩) (x := fun v => F10_c31 K a2 v2 v14 a1 v18 v22 v20 = some r) (shx := fun v => ⟨[(9, (.int .i64 ((IntKind.i64.wrap a1).tmod (v2.length : Int)))), (10, (.int .i64 ((IntKind.i64.wrap a2).tmod (v2.length : Int)))), (11, (.sl 1 (v14.1.map Z8) false)), (13, (.sl 1 (v18.1.map Z8) false)), (15, (.sl 1 (v20.1.map Z8) false)), (18, (.sl 1 (v22.2.map Z8) false))], []⟩) (k := K) (v := 0) h ?_ ?_
     ·intro v h
      try dsimp only at h ⊢
      unfold F10_c31 at h
      refine Ze <| Zf ?_
      refine AWp.join (V := Bool) (lp := fun v => F10_j34 K v = some r) (sh := fun v => ⟨[(6, (.bool v))], []⟩) ?_ ?_
      ·intro v h
       revert h
       revert v
       intro v33 h
       try dsimp only at h ⊢
       unfold F10_j34 at h
       refine Ze <| AWp.ret ?_
       have h := Option.some.inj h
       subst h
       refine (hret _ ?_).1
       exact ⟨[(.bool v33)], ⟨rfl, trivial⟩, rfl, trivial⟩
      ·intro J34
       refine AWp.regionD mixed <| Zd 0 I (Z9 (v := (.sl 1 (v14.1.map Z8) false)) I I) <| Zd 1 I (Z9 (v := (.int .i64 ((IntKind.i64.wrap a2).tmod (v2.length : Int)))) I I) ?_
       have ⟨hg35, h⟩ := Zi h
       refine Zd 2 I (st_index (k := .i64) (l := v14.1) (enc := Z8) (z := 0) (n := ((IntKind.i64.wrap a2).tmod (v2.length : Int))) (cs := [(.int .i64 (v14.1.getD ((IntKind.i64.wrap a2).tmod (v2.length : Int)).toNat 0))]) (full := false) I s29 I I hg35 I) <| Zd 3 I (st_loadI (cs := [(.int .i64 (v14.1.getD ((IntKind.i64.wrap a2).tmod (v2.length : Int)).toNat 0))]) (v := (.int .i64 (v14.1.getD ((IntKind.i64.wrap a2).tmod (v2.length : Int)).toNat 0))) I o3 I I) <| Zd 4 I (Z9 (v := (.sl 1 (v18.1.map Z8) false)) I I) <| Zd 5 I (Z9 (v := (.int .i64 ((IntKind.i64.wrap a1).tmod (v2.length : Int)))) I I) ?_
       have ⟨hg36, h⟩ := Zi h
       refine Zd 6 I (st_index (k := .i64) (l := v18.1) (enc := Z8) (z := 0) (n := ((IntKind.i64.wrap a1).tmod (v2.length : Int))) (cs := [(.int .i64 (v18.1.getD ((IntKind.i64.wrap a1).tmod (v2.length : Int)).toNat 0))]) (full := false) I s29 I I hg36 I) <| Zd 7 I (st_loadI (cs := [(.int .i64 (v18.1.getD ((IntKind.i64.wrap a1).tmod (v2.length : Int)).toNat 0))]) (v := (.int .i64 (v18.1.getD ((IntKind.i64.wrap a1).tmod (v2.length : Int)).toNat 0))) I o3 I I) <| Zd 8 I (st_cmp (k := .i64) (a := (v14.1.getD ((IntKind.i64.wrap a2).tmod (v2.length : Int)).toNat 0)) (b := (v18.1.getD ((IntKind.i64.wrap a1).tmod (v2.length : Int)).toNat 0)) (c := ((v14.1.getD ((IntKind.i64.wrap a2).tmod (v2.length : Int)).toNat 0) == (v18.1.getD ((IntKind.i64.wrap a1).tmod (v2.length : Int)).toNat 0))) I I I I) <| Zd 9 I (Z9 (v := (.bool ((v14.1.getD ((IntKind.i64.wrap a2).tmod (v2.length : Int)).toNat 0) == (v18.1.getD ((IntKind.i64.wrap a1).tmod (v2.length : Int)).toNat 0)))) I I) ?_
       have hif := of_if h
       refine AOpsD.split (fun hc => ?_) (fun hc => ?_)
       ·have h := hif.1 hc
        refine Zr 10 I I I I (Z9 (v := (.sl 1 (v22.2.map Z8) false)) I I) <| Zr 11 I I I I (Z9 (v := (.int .i64 ((IntKind.i64.wrap a1).tmod (v2.length : Int)))) I I) ?_
        have ⟨hg37, h⟩ := Zi h
        refine Zr 12 I I I I (st_index (k := .i64) (l := v22.2) (enc := Z8) (z := 0) (n := ((IntKind.i64.wrap a1).tmod (v2.length : Int))) (cs := [(.int .i64 (v22.2.getD ((IntKind.i64.wrap a1).tmod (v2.length : Int)).toNat 0))]) (full := false) I s29 I I hg37 I) <| Zr 13 I I I I (st_loadI (cs := [(.int .i64 (v22.2.getD ((IntKind.i64.wrap a1).tmod (v2.length : Int)).toNat 0))]) (v := (.int .i64 (v22.2.getD ((IntKind.i64.wrap a1).tmod (v2.length : Int)).toNat 0))) I o3 I I) <| Zr 14 I I I I (Z9 (v := (.sl 1 (v22.2.map Z8) false)) I I) <| Zr 15 I I I I (Z9 (v := (.int .i64 ((IntKind.i64.wrap a2).tmod (v2.length : Int)))) I I) ?_
        have ⟨hg38, h⟩ := Zi h
        refine Zr 16 I I I I (st_index (k := .i64) (l := v22.2) (enc := Z8) (z := 0) (n := ((IntKind.i64.wrap a2).tmod (v2.length : Int))) (cs := [(.int .i64 (v22.2.getD ((IntKind.i64.wrap a2).tmod (v2.length : Int)).toNat 0))]) (full := false) I s29 I I hg38 I) <| Zr 17 I I I I (st_loadI (cs := [(.int .i64 (v22.2.getD ((IntKind.i64.wrap a2).tmod (v2.length : Int)).toNat 0))]) (v := (.int .i64 (v22.2.getD ((IntKind.i64.wrap a2).tmod (v2.length : Int)).toNat 0))) I o3 I I) <| Zr 18 I I I I (st_cmp (k := .i64) (a := (v22.2.getD ((IntKind.i64.wrap a1).tmod (v2.length : Int)).toNat 0)) (b := (v22.2.getD ((IntKind.i64.wrap a2).tmod (v2.length : Int)).toNat 0)) (c := ((v22.2.getD ((IntKind.i64.wrap a1).tmod (v2.length : Int)).toNat 0) == (v22.2.getD ((IntKind.i64.wrap a2).tmod (v2.length : Int)).toNat 0))) I I I I) <| Zr 19 I I I I (Z9 (v := (.sl 1 (v14.1.map Z8) false)) I I) <| Zr 20 I I I I (Z9 (v := (.int .i64 ((IntKind.i64.wrap a2).tmod (v2.length : Int)))) I I) ?_
        have ⟨hg39, h⟩ := Zi h
        refine Zr 21 I I I I (st_index (k := .i64) (l := v14.1) (enc := Z8) (z := 0) (n := ((IntKind.i64.wrap a2).tmod (v2.length : Int))) (cs := [(.int .i64 (v14.1.getD ((IntKind.i64.wrap a2).tmod (v2.length : Int)).toNat 0))]) (full := false) I s29 I I hg39 I) <| Zr 22 I I I I (st_loadI (cs := [(.int .i64 (v14.1.getD ((IntKind.i64.wrap a2).tmod (v2.length : Int)).toNat 0))]) (v := (.int .i64 (v14.1.getD ((IntKind.i64.wrap a2).tmod (v2.length : Int)).toNat 0))) I o3 I I) <| Zr 23 I I I I (st_cmp (k := .i64) (a := (v14.1.getD ((IntKind.i64.wrap a2).tmod (v2.length : Int)).toNat 0)) (b := 0) (c := (decide ((v14.1.getD ((IntKind.i64.wrap a2).tmod (v2.length : Int)).toNat 0) ≥ 0))) I I I I) <| Zr 24 I I I I (Z9 (v := (.bool (decide ((v14.1.getD ((IntKind.i64.wrap a2).tmod (v2.length : Int)).toNat 0) ≥ 0)))) I I) ?_
        have hif := of_if h
        refine AOpsD.split (fun hc => ?_) (fun hc => ?_)
        ·have h := hif.1 hc
         refine Zr 25 I I I I (Z9 (v := (.sl 1 (v20.1.map Z8) false)) I I) <| Zr 26 I I I I (Z9 (v := (.int .i64 ((IntKind.i64.wrap a1).tmod (v2.length : Int)))) I I) ?_
         have ⟨hg40, h⟩ := Zi h
         refine Zr 27 I I I I (st_index (k := .i64) (l := v20.1) (enc := Z8) (z := 0) (n := ((IntKind.i64.wrap a1).tmod (v2.length : Int))) (cs := [(.int .i64 (v20.1.getD ((IntKind.i64.wrap a1).tmod (v2.length : Int)).toNat 0))]) (full := false) I s29 I I hg40 I) <| Zr 28 I I I I (st_loadI (cs := [(.int .i64 (v20.1.getD ((IntKind.i64.wrap a1).tmod (v2.length : Int)).toNat 0))]) (v := (.int .i64 (v20.1.getD ((IntKind.i64.wrap a1).tmod (v2.length : Int)).toNat 0))) I o3 I I) <| Zr 29 I I I I (st_cmp (k := .i64) (a := (v20.1.getD ((IntKind.i64.wrap a1).tmod (v2.length : Int)).toNat 0)) (b := 0) (c := (decide ((v20.1.getD ((IntKind.i64.wrap a1).tmod (v2.length : Int)).toNat 0) ≥ 0))) I I I I) <| Zr 30 I I I I (Zz (v := (.bool (decide ((v20.1.getD ((IntKind.i64.wrap a1).tmod (v2.length : Int)).toNat 0) ≥ 0)))) I I I) <| Zr 31 I I I I (st_cmpB (c := (((v22.2.getD ((IntKind.i64.wrap a1).tmod (v2.length : Int)).toNat 0) == (v22.2.getD ((IntKind.i64.wrap a2).tmod (v2.length : Int)).toNat 0)) == (decide ((v20.1.getD ((IntKind.i64.wrap a1).tmod (v2.length : Int)).toNat 0) ≥ 0)))) I u4 I I I) <| Zd 32 I (Zz (v := (.bool (((v22.2.getD ((IntKind.i64.wrap a1).tmod (v2.length : Int)).toNat 0) == (v22.2.getD ((IntKind.i64.wrap a2).tmod (v2.length : Int)).toNat 0)) == (decide ((v20.1.getD ((IntKind.i64.wrap a1).tmod (v2.length : Int)).toNat 0) ≥ 0))))) I I I) <| Zd 33 I (Zh (v := (.bool (((v22.2.getD ((IntKind.i64.wrap a1).tmod (v2.length : Int)).toNat 0) == (v22.2.getD ((IntKind.i64.wrap a2).tmod (v2.length : Int)).toNat 0)) == (decide ((v20.1.getD ((IntKind.i64.wrap a1).tmod (v2.length : Int)).toNat 0) ≥ 0))))) I I) <| AOpsD.nil (by kernel_rfl) I ?_
         exact Zl (st' := ⟨[(6, (.bool (((v22.2.getD ((IntKind.i64.wrap a1).tmod (v2.length : Int)).toNat 0) == (v22.2.getD ((IntKind.i64.wrap a2).tmod (v2.length : Int)).toNat 0)) == (decide ((v20.1.getD ((IntKind.i64.wrap a1).tmod (v2.length : Int)).toNat 0) ≥ 0)))))], []⟩) ⟨rfl, trivial⟩ trivial (J34 (((v22.2.getD ((IntKind.i64.wrap a1).tmod (v2.length : Int)).toNat 0) == (v22.2.getD ((IntKind.i64.wrap a2).tmod (v2.length : Int)).toNat 0)) == (decide ((v20.1.getD ((IntKind.i64.wrap a1).tmod (v2.length : Int)).toNat 0) ≥ 0))) h)
        ·have h := hif.2 hc
         refine Zn 25 I I I I I I I <| Zn 26 I I I I I I I <| Zn 27 I I I I I I I <| Zn 28 I I I I I I I <| Zn 29 I I I I I I I <| Zr 30 I I I I (Zx (v := (.bool false)) I I I) <| Zr 31 I I I I (st_cmpB (c := (((v22.2.getD ((IntKind.i64.wrap a1).tmod (v2.length : Int)).toNat 0) == (v22.2.getD ((IntKind.i64.wrap a2).tmod (v2.length : Int)).toNat 0)) == false)) I u4 I I I) <| Zd 32 I (Zz (v := (.bool (((v22.2.getD ((IntKind.i64.wrap a1).tmod (v2.length : Int)).toNat 0) == (v22.2.getD ((IntKind.i64.wrap a2).tmod (v2.length : Int)).toNat 0)) == false))) I I I) ?_
         refine Zd 33 I (Zh (v := (.bool (((v22.2.getD ((IntKind.i64.wrap a1).tmod (v2.length : Int)).toNat 0) == (v22.2.getD ((IntKind.i64.wrap a2).tmod (v2.length : Int)).toNat 0)) == false))) I I) <| AOpsD.nil (by kernel_rfl) I ?_
         exact Zl (st' := ⟨[(6, (.bool (((v22.2.getD ((IntKind.i64.wrap a1).tmod (v2.length : Int)).toNat 0) == (v22.2.getD ((IntKind.i64.wrap a2).tmod (v2.length : Int)).toNat 0)) == false)))], []⟩) ⟨rfl, trivial⟩ trivial (J34 (((v22.2.getD ((IntKind.i64.wrap a1).tmod (v2.length : Int)).toNat 0) == (v22.2.getD ((IntKind.i64.wrap a2).tmod (v2.length : Int)).toNat 0)) == false) h)
       ·have h := hif.2 hc
        refine Zn 10 I I I I I I I <| Zn 11 I I I I I I I <| Zn 12 I I I I I I I <| Zn 13 I I I I I I I <| Zn 14 I I I I I I I <| Zn 15 I I I I I I I <| Zn 16 I I I I I I I <| Zn 17 I I I I I I I ?_
        refine Zn 18 I I I I I I I <| Zn 19 I I I I I I I <| Zn 20 I I I I I I I <| Zn 21 I I I I I I I <| Zn 22 I I I I I I I <| Zn 23 I I I I I I I <| Zn 24 I I I I I I I <| Zn 25 (u := .tup []) I I I I I I I ?_
        refine Zn 26 (u := .tup []) I I I I I I I <| Zn 27 (u := .tup []) I I I I I I I <| Zn 28 (u := .tup []) I I I I I I I <| Zn 29 (u := .tup []) I I I I I I I <| Zn 30 I I I I I I I <| Zn 31 I I I I I I I <| Zd 32 I (Zx (v := (.bool false)) I I I) <| Zd 33 I (Zh (v := (.bool false)) I I) ?_
        refine AOpsD.nil (by kernel_rfl) I ?_
        exact Zl (st' := ⟨[(6, (.bool false))], []⟩) ⟨rfl, trivial⟩ trivial (J34 false h)
     ·intro N k30 v h IH30 J30
      revert h
      revert v
      intro v29 h
      try dsimp only at h IH30 J30 ⊢
      cases k30 with
      | zero => cases h
      | succ k30 =>
       rw [F10_l30] at h
       refine Zf <| Zf <| Z6 <| Z1 I (Z9 (v := (.int .i64 v29)) I I) I <| Z1 I (Z10 (m := 8) (o := 0) I f35_1 I I) I <| Z1 I (Zu (cs := (Z4 v10).cells) (v := (.sl 2 (v10.Edges.map Z3) false)) I o33 I I I) I <| Z1 I (stx_len (l := v10.Edges) (enc := Z3) I s33 I) I <| Z1 I (st_cmp (k := .i64) (a := v29) (b := (v10.Edges.length : Int)) (c := (decide (v29 < (v10.Edges.length : Int)))) I I I I) I ?_
       refine Zb <| Ze ?_
       have hif := of_if h
       refine Zv I (fun hc => ?_) (fun hc => ?_)
       ·have h := hif.1 hc
        refine Zy <| Ze <| Zf <| AWp.block <| Zf <| Z6 <| Z1 I (Z10 (m := 8) (o := 0) I f35_1 I I) I <| Z1 I (Zu (cs := (Z4 v10).cells) (v := (.sl 2 (v10.Edges.map Z3) false)) I o33 I I I) I ?_
        refine Z1 I (Z9 (v := (.int .i64 v29)) I I) I ?_
        have ⟨hg42, h⟩ := Zi h
        refine Z1 I (st_index (k := .i64) (l := v10.Edges) (enc := Z3) (z := Z2) (n := v29) (cs := (Z3 (v10.Edges.getD v29.toNat Z2)).cells) (full := false) I s33 I I hg42 I) I <| Z1 I (st_loadIA (cs := (Z3 (v10.Edges.getD v29.toNat Z2)).cells) (vs := (Z3 (v10.Edges.getD v29.toNat Z2)).cells) I a64 I I I) I <| Z1 I (st_alloc (cs := [(.int .i64 0), (.int .i64 0)]) I z64 I I I) I <| Z1 I (st_storeP (cs := [(.int .i64 0), (.int .i64 0)]) (vs := (Z3 (v10.Edges.getD v29.toNat Z2)).cells) (ds := (Z3 (v10.Edges.getD v29.toNat Z2)).cells) (v := (Z3 (v10.Edges.getD v29.toNat Z2))) sz64 I I I I I I I I) I <| Zb <| Ze <| Zf ?_
        refine AWp.join (V := Bool) (lp := fun v => F10_j44 K (F10_l30 K v10 v14 (F10_c31 K a2 v2 v14 a1 v18 v22 v20) k30) v29 v = some r) (sh := fun v => ⟨[(8, (.ptr 8 0)), (9, (.int .i64 ((IntKind.i64.wrap a1).tmod (v2.length : Int)))), (10, (.int .i64 ((IntKind.i64.wrap a2).tmod (v2.length : Int)))), (11, (.sl 1 (v14.1.map Z8) false)), (13, (.sl 1 (v18.1.map Z8) false)), (15, (.sl 1 (v20.1.map Z8) false)), (18, (.sl 1 (v22.2.map Z8) false)), (21, (.int .i64 v29)), (158, (.bool v))], [(8, (.box (Z4 v10).cells))]⟩) ?_ ?_
        ·intro v h
         revert h
         revert v
         intro v43 h
         try dsimp only at h ⊢
         unfold F10_j44 at h
         refine Ze ?_
         have hif := of_if h
         refine Zv I (fun hc => ?_) (fun hc => ?_)
         ·have h := hif.1 hc
          refine Zf <| Z6 <| Z1 I (Zh (v := (.bool false)) I I) I <| Zb <| Ze <| AWp.ret <| At.overR <| At.thruR ?_
          refine At.thruR (At.overR ?_)
          refine At.thruR ?_
          have h := Option.some.inj h
          subst h
          refine (hret _ ?_).1
          exact ⟨[(.bool false)], ⟨rfl, trivial⟩, rfl, trivial⟩
         ·have h := hif.2 hc
          refine Zy <| At.end <| Ze <| Z6 <| Z1 I (Z9 (v := (.int .i64 v29)) I I) I <| Z1 I (st_arith (k := .i64) (a := v29) (b := 1) (c := (IntKind.i64.wrap (v29 + 1))) I I I I) I <| Z1 I (Zh (v := (.int .i64 (IntKind.i64.wrap (v29 + 1)))) I I) I <| Zb ?_
          exact Zl (st' := ⟨[(8, (.ptr 8 0)), (9, (.int .i64 ((IntKind.i64.wrap a1).tmod (v2.length : Int)))), (10, (.int .i64 ((IntKind.i64.wrap a2).tmod (v2.length : Int)))), (11, (.sl 1 (v14.1.map Z8) false)), (13, (.sl 1 (v18.1.map Z8) false)), (15, (.sl 1 (v20.1.map Z8) false)), (18, (.sl 1 (v22.2.map Z8) false)), (21, (.int .i64 (IntKind.i64.wrap (v29 + 1))))], [(8, (.box (Z4 v10).cells))]⟩) ⟨rfl, rfl, rfl, rfl, rfl, rfl, rfl, rfl, trivial⟩ ⟨rfl, trivial⟩ (IH30 _ (IntKind.i64.wrap (v29 + 1)) (Nat.lt_succ_self _) h)
        ·intro J44
         refine AWp.regionD mixed <| Zd 0 I (Z9 (v := (.sl 1 (v14.1.map Z8) false)) I I) <| Zd 1 I (Z10 (m := 22) (o := 0) I f64_0 I I) <| Zd 2 I (Zu (cs := (Z3 (v10.Edges.getD v29.toNat Z2)).cells) (v := (.int .i64 (v10.Edges.getD v29.toNat Z2).From)) I o3 I I I) ?_
         have ⟨hg45, h⟩ := Zi h
         refine Zd 3 I (st_index (k := .i64) (l := v14.1) (enc := Z8) (z := 0) (n := (v10.Edges.getD v29.toNat Z2).From) (cs := [(.int .i64 (v14.1.getD (v10.Edges.getD v29.toNat Z2).From.toNat 0))]) (full := false) I s29 I I hg45 I) <| Zd 4 I (st_loadI (cs := [(.int .i64 (v14.1.getD (v10.Edges.getD v29.toNat Z2).From.toNat 0))]) (v := (.int .i64 (v14.1.getD (v10.Edges.getD v29.toNat Z2).From.toNat 0))) I o3 I I) <| Zd 5 I (st_cmp (k := .i64) (a := (v14.1.getD (v10.Edges.getD v29.toNat Z2).From.toNat 0)) (b := 0) (c := (decide ((v14.1.getD (v10.Edges.getD v29.toNat Z2).From.toNat 0) ≥ 0))) I I I I) <| Zd 6 I (Z9 (v := (.bool (decide ((v14.1.getD (v10.Edges.getD v29.toNat Z2).From.toNat 0) ≥ 0)))) I I) ?_
         have hif := of_if h
         refine AOpsD.split (fun hc => ?_) (fun hc => ?_)
         ·have h := hif.1 hc
          refine Zr 7 I I I I (Z9 (v := (.sl 1 (v14.1.map Z8) false)) I I) <| Zr 8 I I I I (Z10 (m := 22) (o := 0) I f64_1 I I) <| Zr 9 I I I I (Zu (cs := (Z3 (v10.Edges.getD v29.toNat Z2)).cells) (v := (.int .i64 (v10.Edges.getD v29.toNat Z2).To)) I o3 I I I) ?_
          have ⟨hg46, h⟩ := Zi h
          refine Zr 10 I I I I (st_index (k := .i64) (l := v14.1) (enc := Z8) (z := 0) (n := (v10.Edges.getD v29.toNat Z2).To) (cs := [(.int .i64 (v14.1.getD (v10.Edges.getD v29.toNat Z2).To.toNat 0))]) (full := false) I s29 I I hg46 I) <| Zr 11 I I I I (st_loadI (cs := [(.int .i64 (v14.1.getD (v10.Edges.getD v29.toNat Z2).To.toNat 0))]) (v := (.int .i64 (v14.1.getD (v10.Edges.getD v29.toNat Z2).To.toNat 0))) I o3 I I) <| Zr 12 I I I I (st_cmp (k := .i64) (a := (v14.1.getD (v10.Edges.getD v29.toNat Z2).To.toNat 0)) (b := 0) (c := (decide ((v14.1.getD (v10.Edges.getD v29.toNat Z2).To.toNat 0) < 0))) I I I I) <| Zr 13 I I I I (Z9 (v := (.bool (decide ((v14.1.getD (v10.Edges.getD v29.toNat Z2).To.toNat 0) < 0)))) I I) ?_
          have hif := of_if h
          refine AOpsD.split (fun hc => ?_) (fun hc => ?_)
          ·have h := hif.1 hc
           refine Zn 14 I I I I I I I <| Zn 15 I I I I I I I <| Zn 16 I I I I I I I <| Zn 17 I I I I I I I <| Zn 18 I I I I I I I <| Zn 19 I I I I I I I <| Zn 20 I I I I I I I <| Zn 21 I I I I I I I ?_
           refine Zn 22 I I I I I I I <| Zn 23 I I I I I I I <| Zn 24 I I I I I I I <| Zn 25 I I I I I I I <| Zr 26 I I I I (Zz (v := (.bool true)) I I I) <| Zd 27 I (Zz (v := (.bool true)) I I I) <| AOpsD.nil (by kernel_rfl) I ?_
           exact Zl (st' := ⟨[(8, (.ptr 8 0)), (9, (.int .i64 ((IntKind.i64.wrap a1).tmod (v2.length : Int)))), (10, (.int .i64 ((IntKind.i64.wrap a2).tmod (v2.length : Int)))), (11, (.sl 1 (v14.1.map Z8) false)), (13, (.sl 1 (v18.1.map Z8) false)), (15, (.sl 1 (v20.1.map Z8) false)), (18, (.sl 1 (v22.2.map Z8) false)), (21, (.int .i64 v29)), (158, (.bool true))], [(8, (.box (Z4 v10).cells))]⟩) ⟨rfl, rfl, rfl, rfl, rfl, rfl, rfl, rfl, rfl, trivial⟩ ⟨rfl, trivial⟩ (J44 true h)
          ·have h := hif.2 hc
           refine Zr 14 I I I I (Z9 (v := (.sl 1 (v14.1.map Z8) false)) I I) <| Zr 15 I I I I (Z10 (m := 22) (o := 0) I f64_1 I I) <| Zr 16 I I I I (Zu (cs := (Z3 (v10.Edges.getD v29.toNat Z2)).cells) (v := (.int .i64 (v10.Edges.getD v29.toNat Z2).To)) I o3 I I I) ?_
           have ⟨hg47, h⟩ := Zi h
           refine Zr 17 I I I I (st_index (k := .i64) (l := v14.1) (enc := Z8) (z := 0) (n := (v10.Edges.getD v29.toNat Z2).To) (cs := [(.int .i64 (v14.1.getD (v10.Edges.getD v29.toNat Z2).To.toNat 0))]) (full := false) I s29 I I hg47 I) <| Zr 18 I I I I (st_loadI (cs := [(.int .i64 (v14.1.getD (v10.Edges.getD v29.toNat Z2).To.toNat 0))]) (v := (.int .i64 (v14.1.getD (v10.Edges.getD v29.toNat Z2).To.toNat 0))) I o3 I I) <| Zr 19 I I I I (Z9 (v := (.sl 1 (v14.1.map Z8) false)) I I) <| Zr 20 I I I I (Z10 (m := 22) (o := 0) I f64_0 I I) <| Zr 21 I I I I (Zu (cs := (Z3 (v10.Edges.getD v29.toNat Z2)).cells) (v := (.int .i64 (v10.Edges.getD v29.toNat Z2).From)) I o3 I I I) ?_
           have ⟨hg48, h⟩ := Zi h
           refine Zr 22 I I I I (st_index (k := .i64) (l := v14.1) (enc := Z8) (z := 0) (n := (v10.Edges.getD v29.toNat Z2).From) (cs := [(.int .i64 (v14.1.getD (v10.Edges.getD v29.toNat Z2).From.toNat 0))]) (full := false) I s29 I I hg48 I) <| Zr 23 I I I I (st_loadI (cs := [(.int .i64 (v14.1.getD (v10.Edges.getD v29.toNat Z2).From.toNat 0))]) (v := (.int .i64 (v14.1.getD (v10.Edges.getD v29.toNat Z2).From.toNat 0))) I o3 I I) <| Zr 24 I I I I (st_arith (k := .i64) (a := (v14.1.getD (v10.Edges.getD v29.toNat Z2).From.toNat 0)) (b := 1) (c := (IntKind.i64.wrap ((v14.1.getD (v10.Edges.getD v29.toNat Z2).From.toNat 0) + 1))) I I I I) <| Zr 25 I I I I (st_cmp (k := .i64) (a := (v14.1.getD (v10.Edges.getD v29.toNat Z2).To.toNat 0)) (b := (IntKind.i64.wrap ((v14.1.getD (v10.Edges.getD v29.toNat Z2).From.toNat 0) + 1))) (c := (decide ((v14.1.getD (v10.Edges.getD v29.toNat Z2).To.toNat 0) > (IntKind.i64.wrap ((v14.1.getD (v10.Edges.getD v29.toNat Z2).From.toNat 0) + 1))))) I I I I) <| Zr 26 I I I I (Zx (v := (.bool (decide ((v14.1.getD (v10.Edges.getD v29.toNat Z2).To.toNat 0) > (IntKind.i64.wrap ((v14.1.getD (v10.Edges.getD v29.toNat Z2).From.toNat 0) + 1)))))) I I I) <| Zd 27 I (Zz (v := (.bool (decide ((v14.1.getD (v10.Edges.getD v29.toNat Z2).To.toNat 0) > (IntKind.i64.wrap ((v14.1.getD (v10.Edges.getD v29.toNat Z2).From.toNat 0) + 1)))))) I I I) <| AOpsD.nil (by kernel_rfl) I ?_
           exact Zl (st' := ⟨[(8, (.ptr 8 0)), (9, (.int .i64 ((IntKind.i64.wrap a1).tmod (v2.length : Int)))), (10, (.int .i64 ((IntKind.i64.wrap a2).tmod (v2.length : Int)))), (11, (.sl 1 (v14.1.map Z8) false)), (13, (.sl 1 (v18.1.map Z8) false)), (15, (.sl 1 (v20.1.map Z8) false)), (18, (.sl 1 (v22.2.map Z8) false)), (21, (.int .i64 v29)), (158, (.bool (decide ((v14.1.getD (v10.Edges.getD v29.toNat Z2).To.toNat 0) > (IntKind.i64.wrap ((v14.1.getD (v10.Edges.getD v29.toNat Z2).From.toNat 0) + 1))))))], [(8, (.box (Z4 v10).cells))]⟩) ⟨rfl, rfl, rfl, rfl, rfl, rfl, rfl, rfl, rfl, trivial⟩ ⟨rfl, trivial⟩ (J44 (decide ((v14.1.getD (v10.Edges.getD v29.toNat Z2).To.toNat 0) > (IntKind.i64.wrap ((v14.1.getD (v10.Edges.getD v29.toNat Z2).From.toNat 0) + 1)))) h)
         ·have h := hif.2 hc
          refine Zn 7 I I I I I I I <| Zn 8 I I I I I I I <| Zn 9 I I I I I I I <| Zn 10 I I I I I I I <| Zn 11 I I I I I I I <| Zn 12 I I I I I I I <| Zn 13 I I I I I I I <| Zn 14 (u := .tup []) I I I I I I I ?_
          refine Zn 15 (u := .tup []) I I I I I I I <| Zn 16 (u := .tup []) I I I I I I I <| Zn 17 (u := .tup []) I I I I I I I <| Zn 18 (u := .tup []) I I I I I I I <| Zn 19 (u := .tup []) I I I I I I I <| Zn 20 (u := .tup []) I I I I I I I <| Zn 21 (u := .tup []) I I I I I I I <| Zn 22 (u := .tup []) I I I I I I I ?_
          refine Zn 23 (u := .tup []) I I I I I I I <| Zn 24 (u := .tup []) I I I I I I I <| Zn 25 (u := .tup []) I I I I I I I <| Zn 26 I I I I I I I <| Zd 27 I (Zx (v := (.bool false)) I I I) <| AOpsD.nil (by kernel_rfl) I ?_
          exact Zl (st' := ⟨[(8, (.ptr 8 0)), (9, (.int .i64 ((IntKind.i64.wrap a1).tmod (v2.length : Int)))), (10, (.int .i64 ((IntKind.i64.wrap a2).tmod (v2.length : Int)))), (11, (.sl 1 (v14.1.map Z8) false)), (13, (.sl 1 (v18.1.map Z8) false)), (15, (.sl 1 (v20.1.map Z8) false)), (18, (.sl 1 (v22.2.map Z8) false)), (21, (.int .i64 v29)), (158, (.bool false))], [(8, (.box (Z4 v10).cells))]⟩) ⟨rfl, rfl, rfl, rfl, rfl, rfl, rfl, rfl, rfl, trivial⟩ ⟨rfl, trivial⟩ (J44 false h)
       ·have h := hif.2 hc
        refine AWp.exit <| At.thru ?_
        exact Zl (st' := ⟨[(9, (.int .i64 ((IntKind.i64.wrap a1).tmod (v2.length : Int)))), (10, (.int .i64 ((IntKind.i64.wrap a2).tmod (v2.length : Int)))), (11, (.sl 1 (v14.1.map Z8) false)), (13, (.sl 1 (v18.1.map Z8) false)), (15, (.sl 1 (v20.1.map Z8) false)), (18, (.sl 1 (v22.2.map Z8) false))], []⟩) ⟨rfl, rfl, rfl, rfl, rfl, rfl, trivial⟩ trivial (J30 () h)
   ·intro J28
    refine Z6 <| Z1 I (Z9 (v := (.int .i64 v14.2)) I I) I <| Z1 I (st_cmp (k := .i64) (a := v14.2) (b := 0) (c := (v14.2 != 0)) I I I I) I <| Z1 I (Z9 (v := (.bool (v14.2 != 0))) I I) I ?_
    have hif := of_if h
    refine AOps.split (fun hc => ?_) (fun hc => ?_)
    ·have h := hif.1 hc
     refine Z5 I I I I I I I <| Z5 I I I I I I I <| Z1 I (Zz (v := (.bool true)) I I I) I <| Z1 I (Z9 (v := (.bool true)) I I) I <| Z5 I I I I I I I <| Z5 I I I I I I I <| Z1 I (Zz (v := (.bool true)) I I I) I <| Z1 I (Z9 (v := (.bool true)) I I) I ?_
     refine Z5 I I I I I I I <| Z5 I I I I I I I <| Z5 I I I I I I I <| Z5 I I I I I I I <| Z5 I I I I I I I <| Z1 I (Zz (v := (.bool true)) I I I) I <| Z1 I (Z9 (v := (.bool true)) I I) I <| Z5 I I I I I I I ?_
     refine Z5 I I I I I I I <| Z5 I I I I I I I <| Z5 I I I I I I I <| Z5 I I I I I I I <| Z1 I (Zz (v := (.bool true)) I I I) I <| Z1 I (Z9 (v := (.bool true)) I I) I <| Z5 I I I I I I I <| Z5 I I I I I I I ?_
     refine Z5 I I I I I I I <| Z5 I I I I I I I <| Z5 I I I I I I I <| Z1 I (Zz (v := (.bool true)) I I I) I <| Z1 I (Z9 (v := (.bool true)) I I) I <| Z5 I I I I I I I <| Z5 I I I I I I I <| Z5 I I I I I I I ?_
     refine Z5 I I I I I I I <| Z5 I I I I I I I <| Z1 I (Zz (v := (.bool true)) I I I) I <| Z1 I (Z9 (v := (.bool true)) I I) I <| Z5 I I I I I I I <| Z5 I I I I I I I <| Z5 I I I I I I I <| Z5 I I I I I I I ?_
     refine Z1 I (Zz (v := (.bool true)) I I I) I <| Zb ?_
     exact Zl (st' := ⟨[(8, (.ptr 8 0)), (9, (.int .i64 ((IntKind.i64.wrap a1).tmod (v2.length : Int)))), (10, (.int .i64 ((IntKind.i64.wrap a2).tmod (v2.length : Int)))), (11, (.sl 1 (v14.1.map Z8) false)), (13, (.sl 1 (v18.1.map Z8) false)), (15, (.sl 1 (v20.1.map Z8) false)), (18, (.sl 1 (v22.2.map Z8) false)), (118, (.bool true))], [(8, (.box (Z4 v10).cells))]⟩) ⟨rfl, rfl, rfl, rfl, rfl, rfl, rfl, rfl, trivial⟩ ⟨rfl, trivial⟩ (J28 true h)
    ·have h := hif.2 hc
     refine Zj I I I I (Z9 (v := (.int .i64 v18.2)) I I) I <| Zj I I I I (st_cmp (k := .i64) (a := v18.2) (b := 0) (c := (v18.2 != 0)) I I I I) I <| Z1 I (Zx (v := (.bool (v18.2 != 0))) I I I) I <| Z1 I (Z9 (v := (.bool (v18.2 != 0))) I I) I ?_
     have hif := of_if h
     refine AOps.split (fun hc => ?_) (fun hc => ?_)
     ·have h := hif.1 hc
      refine Z5 I I I I I I I <| Z5 I I I I I I I <| Z1 I (Zz (v := (.bool true)) I I I) I <| Z1 I (Z9 (v := (.bool true)) I I) I <| Z5 I I I I I I I <| Z5 I I I I I I I <| Z5 I I I I I I I <| Z5 I I I I I I I ?_
      refine Z5 I I I I I I I <| Z1 I (Zz (v := (.bool true)) I I I) I <| Z1 I (Z9 (v := (.bool true)) I I) I <| Z5 I I I I I I I <| Z5 I I I I I I I <| Z5 I I I I I I I <| Z5 I I I I I I I <| Z5 I I I I I I I ?_
      refine Z1 I (Zz (v := (.bool true)) I I I) I <| Z1 I (Z9 (v := (.bool true)) I I) I <| Z5 I I I I I I I <| Z5 I I I I I I I <| Z5 I I I I I I I <| Z5 I I I I I I I <| Z5 I I I I I I I <| Z1 I (Zz (v := (.bool true)) I I I) I ?_
      refine Z1 I (Z9 (v := (.bool true)) I I) I <| Z5 I I I I I I I <| Z5 I I I I I I I <| Z5 I I I I I I I <| Z5 I I I I I I I <| Z5 I I I I I I I <| Z1 I (Zz (v := (.bool true)) I I I) I <| Z1 I (Z9 (v := (.bool true)) I I) I ?_
      refine Z5 I I I I I I I <| Z5 I I I I I I I <| Z5 I I I I I I I <| Z5 I I I I I I I <| Z1 I (Zz (v := (.bool true)) I I I) I <| Zb ?_
      exact Zl (st' := ⟨[(8, (.ptr 8 0)), (9, (.int .i64 ((IntKind.i64.wrap a1).tmod (v2.length : Int)))), (10, (.int .i64 ((IntKind.i64.wrap a2).tmod (v2.length : Int)))), (11, (.sl 1 (v14.1.map Z8) false)), (13, (.sl 1 (v18.1.map Z8) false)), (15, (.sl 1 (v20.1.map Z8) false)), (18, (.sl 1 (v22.2.map Z8) false)), (118, (.bool true))], [(8, (.box (Z4 v10).cells))]⟩) ⟨rfl, rfl, rfl, rfl, rfl, rfl, rfl, rfl, trivial⟩ ⟨rfl, trivial⟩ (J28 true h)
     ·have h := hif.2 hc
      refine Zj I I I I (Z9 (v := (.int .i64 v20.2)) I I) I <| Zj I I I I (st_cmp (k := .i64) (a := v20.2) (b := 0) (c := (v20.2 != 0)) I I I I) I <| Z1 I (Zx (v := (.bool (v20.2 != 0))) I I I) I <| Z1 I (Z9 (v := (.bool (v20.2 != 0))) I I) I ?_
      have hif := of_if h
      refine AOps.split (fun hc => ?_) (fun hc => ?_)
      ·have h := hif.1 hc
       refine Z5 I I I I I I I <| Z5 I I I I I I I <| Z5 I I I I I I I <| Z5 I I I I I I I <| Z5 I I I I I I I <| Z1 I (Zz (v := (.bool true)) I I I) I <| Z1 I (Z9 (v := (.bool true)) I I) I <| Z5 I I I I I I I ?_
       refine Z5 I I I I I I I <| Z5 I I I I I I I <| Z5 I I I I I I I <| Z5 I I I I I I I <| Z1 I (Zz (v := (.bool true)) I I I) I <| Z1 I (Z9 (v := (.bool true)) I I) I <| Z5 I I I I I I I <| Z5 I I I I I I I ?_
       refine Z5 I I I I I I I <| Z5 I I I I I I I <| Z5 I I I I I I I <| Z1 I (Zz (v := (.bool true)) I I I) I <| Z1 I (Z9 (v := (.bool true)) I I) I <| Z5 I I I I I I I <| Z5 I I I I I I I <| Z5 I I I I I I I ?_
       refine Z5 I I I I I I I <| Z5 I I I I I I I <| Z1 I (Zz (v := (.bool true)) I I I) I <| Z1 I (Z9 (v := (.bool true)) I I) I <| Z5 I I I I I I I <| Z5 I I I I I I I <| Z5 I I I I I I I <| Z5 I I I I I I I ?_
       refine Z1 I (Zz (v := (.bool true)) I I I) I <| Zb ?_
       exact Zl (st' := ⟨[(8, (.ptr 8 0)), (9, (.int .i64 ((IntKind.i64.wrap a1).tmod (v2.length : Int)))), (10, (.int .i64 ((IntKind.i64.wrap a2).tmod (v2.length : Int)))), (11, (.sl 1 (v14.1.map Z8) false)), (13, (.sl 1 (v18.1.map Z8) false)), (15, (.sl 1 (v20.1.map Z8) false)), (18, (.sl 1 (v22.2.map Z8) false)), (118, (.bool true))], [(8, (.box (Z4 v10).cells))]⟩) ⟨rfl, rfl, rfl, rfl, rfl, rfl, rfl, rfl, trivial⟩ ⟨rfl, trivial⟩ (J28 true h)
      ·have h := hif.2 hc
       refine Zj I I I I (Z9 (v := (.sl 1 (v14.1.map Z8) false)) I I) I <| Zj I I I I (stx_len (l := v14.1) (enc := Z8) I s29 I) I <| Zj I I I I (Z9 (v := (.sl 1 (v2.map e_l_bool) false)) I I) I <| Zj I I I I (stx_len (l := v2) (enc := e_l_bool) I s27 I) I <| Zj I I I I (st_cmp (k := .i64) (a := (v14.1.length : Int)) (b := (v2.length : Int)) (c := ((v14.1.length : Int) != (v2.length : Int))) I I I I) I <| Z1 I (Zx (v := (.bool ((v14.1.length : Int) != (v2.length : Int)))) I I I) I <| Z1 I (Z9 (v := (.bool ((v14.1.length : Int) != (v2.length : Int)))) I I) I ?_
       have hif := of_if h
       refine AOps.split (fun hc => ?_) (fun hc => ?_)
       ·have h := hif.1 hc
        refine Z5 I I I I I I I <| Z5 I I I I I I I <| Z5 I I I I I I I <| Z5 I I I I I I I <| Z5 I I I I I I I <| Z1 I (Zz (v := (.bool true)) I I I) I <| Z1 I (Z9 (v := (.bool true)) I I) I <| Z5 I I I I I I I ?_
        refine Z5 I I I I I I I <| Z5 I I I I I I I <| Z5 I I I I I I I <| Z5 I I I I I I I <| Z1 I (Zz (v := (.bool true)) I I I) I <| Z1 I (Z9 (v := (.bool true)) I I) I <| Z5 I I I I I I I <| Z5 I I I I I I I ?_
        refine Z5 I I I I I I I <| Z5 I I I I I I I <| Z5 I I I I I I I <| Z1 I (Zz (v := (.bool true)) I I I) I <| Z1 I (Z9 (v := (.bool true)) I I) I <| Z5 I I I I I I I <| Z5 I I I I I I I <| Z5 I I I I I I I ?_
        refine Z5 I I I I I I I <| Z1 I (Zz (v := (.bool true)) I I I) I <| Zb ?_
        exact Zl (st' := ⟨[(8, (.ptr 8 0)), (9, (.int .i64 ((IntKind.i64.wrap a1).tmod (v2.length : Int)))), (10, (.int .i64 ((IntKind.i64.wrap a2).tmod (v2.length : Int)))), (11, (.sl 1 (v14.1.map Z8) false)), (13, (.sl 1 (v18.1.map Z8) false)), (15, (.sl 1 (v20.1.map Z8) false)), (18, (.sl 1 (v22.2.map Z8) false)), (118, (.bool true))], [(8, (.box (Z4 v10).cells))]⟩) ⟨rfl, rfl, rfl, rfl, rfl, rfl, rfl, rfl, trivial⟩ ⟨rfl, trivial⟩ (J28 true h)
       ·have h := hif.2 hc
        refine Zj I I I I (Z9 (v := (.sl 1 (v18.1.map Z8) false)) I I) I <| Zj I I I I (stx_len (l := v18.1) (enc := Z8) I s29 I) I <| Zj I I I I (Z9 (v := (.sl 1 (v2.map e_l_bool) false)) I I) I <| Zj I I I I (stx_len (l := v2) (enc := e_l_bool) I s27 I) I <| Zj I I I I (st_cmp (k := .i64) (a := (v18.1.length : Int)) (b := (v2.length : Int)) (c := ((v18.1.length : Int) != (v2.length : Int))) I I I I) I <| Z1 I (Zx (v := (.bool ((v18.1.length : Int) != (v2.length : Int)))) I I I) I <| Z1 I (Z9 (v := (.bool ((v18.1.length : Int) != (v2.length : Int)))) I I) I ?_
        have hif := of_if h
        refine AOps.split (fun hc => ?_) (fun hc => ?_)
        ·have h := hif.1 hc
         refine Z5 I I I I I I I <| Z5 I I I I I I I <| Z5 I I I I I I I <| Z5 I I I I I I I <| Z5 I I I I I I I <| Z1 I (Zz (v := (.bool true)) I I I) I <| Z1 I (Z9 (v := (.bool true)) I I) I <| Z5 I I I I I I I ?_
         refine Z5 I I I I I I I <| Z5 I I I I I I I <| Z5 I I I I I I I <| Z5 I I I I I I I <| Z1 I (Zz (v := (.bool true)) I I I) I <| Z1 I (Z9 (v := (.bool true)) I I) I <| Z5 I I I I I I I <| Z5 I I I I I I I ?_
         refine Z5 I I I I I I I <| Z5 I I I I I I I <| Z1 I (Zz (v := (.bool true)) I I I) I <| Zb ?_
         exact Zl (st' := ⟨[(8, (.ptr 8 0)), (9, (.int .i64 ((IntKind.i64.wrap a1).tmod (v2.length : Int)))), (10, (.int .i64 ((IntKind.i64.wrap a2).tmod (v2.length : Int)))), (11, (.sl 1 (v14.1.map Z8) false)), (13, (.sl 1 (v18.1.map Z8) false)), (15, (.sl 1 (v20.1.map Z8) false)), (18, (.sl 1 (v22.2.map Z8) false)), (118, (.bool true))], [(8, (.box (Z4 v10).cells))]⟩) ⟨rfl, rfl, rfl, rfl, rfl, rfl, rfl, rfl, trivial⟩ ⟨rfl, trivial⟩ (J28 true h)
        ·have h := hif.2 hc
         refine Zj I I I I (Z9 (v := (.sl 1 (v20.1.map Z8) false)) I I) I <| Zj I I I I (stx_len (l := v20.1) (enc := Z8) I s29 I) I <| Zj I I I I (Z9 (v := (.sl 1 (v2.map e_l_bool) false)) I I) I <| Zj I I I I (stx_len (l := v2) (enc := e_l_bool) I s27 I) I <| Zj I I I I (st_cmp (k := .i64) (a := (v20.1.length : Int)) (b := (v2.length : Int)) (c := ((v20.1.length : Int) != (v2.length : Int))) I I I I) I <| Z1 I (Zx (v := (.bool ((v20.1.length : Int) != (v2.length : Int)))) I I I) I <| Z1 I (Z9 (v := (.bool ((v20.1.length : Int) != (v2.length : Int)))) I I) I ?_
         have hif := of_if h
         refine AOps.split (fun hc => ?_) (fun hc => ?_)
         ·have h := hif.1 hc
          refine Z5 I I I I I I I <| Z5 I I I I I I I <| Z5 I I I I I I I <| Z5 I I I I I I I <| Z5 I I I I I I I <| Z1 I (Zz (v := (.bool true)) I I I) I <| Z1 I (Z9 (v := (.bool true)) I I) I <| Z5 I I I I I I I ?_
          refine Z5 I I I I I I I <| Z5 I I I I I I I <| Z5 I I I I I I I <| Z1 I (Zz (v := (.bool true)) I I I) I <| Zb ?_
          exact Zl (st' := ⟨[(8, (.ptr 8 0)), (9, (.int .i64 ((IntKind.i64.wrap a1).tmod (v2.length : Int)))), (10, (.int .i64 ((IntKind.i64.wrap a2).tmod (v2.length : Int)))), (11, (.sl 1 (v14.1.map Z8) false)), (13, (.sl 1 (v18.1.map Z8) false)), (15, (.sl 1 (v20.1.map Z8) false)), (18, (.sl 1 (v22.2.map Z8) false)), (118, (.bool true))], [(8, (.box (Z4 v10).cells))]⟩) ⟨rfl, rfl, rfl, rfl, rfl, rfl, rfl, rfl, trivial⟩ ⟨rfl, trivial⟩ (J28 true h)
         ·have h := hif.2 hc
          refine Zj I I I I (Z9 (v := (.sl 1 (v22.2.map Z8) false)) I I) I <| Zj I I I I (stx_len (l := v22.2) (enc := Z8) I s29 I) I <| Zj I I I I (Z9 (v := (.sl 1 (v2.map e_l_bool) false)) I I) I <| Zj I I I I (stx_len (l := v2) (enc := e_l_bool) I s27 I) I <| Zj I I I I (st_cmp (k := .i64) (a := (v22.2.length : Int)) (b := (v2.length : Int)) (c := ((v22.2.length : Int) != (v2.length : Int))) I I I I) I <| Z1 I (Zx (v := (.bool ((v22.2.length : Int) != (v2.length : Int)))) I I I) I <| Z1 I (Z9 (v := (.bool ((v22.2.length : Int) != (v2.length : Int)))) I I) I ?_
          have hif := of_if h
          refine AOps.split (fun hc => ?_) (fun hc => ?_)
          ·have h := hif.1 hc
           refine Z5 I I I I I I I <| Z5 I I I I I I I <| Z5 I I I I I I I <| Z5 I I I I I I I <| Z1 I (Zz (v := (.bool true)) I I I) I <| Zb ?_
           exact Zl (st' := ⟨[(8, (.ptr 8 0)), (9, (.int .i64 ((IntKind.i64.wrap a1).tmod (v2.length : Int)))), (10, (.int .i64 ((IntKind.i64.wrap a2).tmod (v2.length : Int)))), (11, (.sl 1 (v14.1.map Z8) false)), (13, (.sl 1 (v18.1.map Z8) false)), (15, (.sl 1 (v20.1.map Z8) false)), (18, (.sl 1 (v22.2.map Z8) false)), (118, (.bool true))], [(8, (.box (Z4 v10).cells))]⟩) ⟨rfl, rfl, rfl, rfl, rfl, rfl, rfl, rfl, trivial⟩ ⟨rfl, trivial⟩ (J28 true h)
          ·have h := hif.2 hc
           refine Zj I I I I (Z9 (v := (.sl 1 (v22.2.map Z8) false)) I I) I <| Zj I I I I (Z9 (v := (.sl 1 (v26.2.map Z8) false)) I I) I ?_
           have ⟨v50, hv50, h⟩ := of_bind h
           refine Zj I I I I (st_call0 (ar := [(.sl 1 (v22.2.map Z8) false), (.sl 1 (v26.2.map Z8) false)]) (caps := []) Try.call18 (F18_ok K v22.2 v26.2 v50 hv50) I I ⟨rfl, rfl, trivial⟩ I) I <| Zj I I I I (st_not (b := v50) I I) I <| Z1 I (Zx (v := (.bool (!v50))) I I I) I <| Zb ?_
           exact Zl (st' := ⟨[(8, (.ptr 8 0)), (9, (.int .i64 ((IntKind.i64.wrap a1).tmod (v2.length : Int)))), (10, (.int .i64 ((IntKind.i64.wrap a2).tmod (v2.length : Int)))), (11, (.sl 1 (v14.1.map Z8) false)), (13, (.sl 1 (v18.1.map Z8) false)), (15, (.sl 1 (v20.1.map Z8) false)), (18, (.sl 1 (v22.2.map Z8) false)), (118, (.bool (!v50)))], [(8, (.box (Z4 v10).cells))]⟩) ⟨rfl, rfl, rfl, rfl, rfl, rfl, rfl, rfl, trivial⟩ ⟨rfl, trivial⟩ (J28 (!v50) h)
end Go.AM.Gra
